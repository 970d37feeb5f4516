/- Small words on numbers for the plain statements: what a number of its kind is, where nothing wraps, how bits are sums. -/
import Derived.Test.YtlhpfoibohiggaaPr0
set_option linter.unusedVariables false
set_option linter.unusedSimpArgs false
namespace Go.Proofs.Ytlhpfoibohiggaa.Lem
open Go.RowKit Go.Proofs.YtlhpfoibohiggaaW.PrintWords Go.Proofs.YtlhpfoibohiggaaW.PrintMore

theorem wf_i64 {n : Int} (h : (Lit.int .i64 n).wf = true) : -9223372036854775808 ≤ n ∧ n ≤ 9223372036854775807 := by
  simp [Lit.wf, IntKind.min, IntKind.max, IntKind.bits, IntKind.signed] at h; omega
theorem wf_u8 {n : Int} (h : (Lit.int .u8 n).wf = true) : 0 ≤ n ∧ n ≤ 255 := by
  simp [Lit.wf, IntKind.min, IntKind.max, IntKind.bits, IntKind.signed] at h; omega
theorem wf_u16 {n : Int} (h : (Lit.int .u16 n).wf = true) : 0 ≤ n ∧ n ≤ 65535 := by
  simp [Lit.wf, IntKind.min, IntKind.max, IntKind.bits, IntKind.signed] at h; omega
theorem wf_u32 {n : Int} (h : (Lit.int .u32 n).wf = true) : 0 ≤ n ∧ n ≤ 4294967295 := by
  simp [Lit.wf, IntKind.min, IntKind.max, IntKind.bits, IntKind.signed] at h; omega
theorem wf_u64 {n : Int} (h : (Lit.int .u64 n).wf = true) : 0 ≤ n ∧ n ≤ 18446744073709551615 := by
  simp [Lit.wf, IntKind.min, IntKind.max, IntKind.bits, IntKind.signed] at h; omega
theorem w64 {n : Int} (h0 : -9223372036854775808 ≤ n) (h1 : n ≤ 9223372036854775807) : wrap64 n = n := by unfold wrap64; omega
theorem w16 {n : Int} (h0 : 0 ≤ n) (h1 : n ≤ 65535) : IntKind.u16.wrap n = n := IntWalk.u16_in n ⟨h0, h1⟩
theorem wu64 {n : Int} (h0 : 0 ≤ n) (h1 : n ≤ 18446744073709551615) : IntKind.u64.wrap n = n := IntWalk.u64_in n ⟨h0, h1⟩
theorem tm {n : Int} (k : Int) (h0 : 0 ≤ n) : Int.tmod n k = n % k := Int.tmod_eq_emod_of_nonneg h0
theorem td {n : Int} (k : Int) (h0 : 0 ≤ n) : Int.tdiv n k = n / k := Int.tdiv_eq_ediv_of_nonneg h0
theorem and64 (j : Nat) (hj : j ≤ 63) {n : Int} (h0 : 0 ≤ n) (h1 : n ≤ 9223372036854775807) : Go.bits .and .i64 n (2 ^ j - 1) = n % 2 ^ j :=
  bits_mask .i64 63 (by decide) (fun n a b => by rw [IntKind.wrap_i64]; omega) j hj n h0 (by omega)
theorem shl64 (y : Nat) (h : y ≤ 62) : shl .i64 1 (y : Int) = 2 ^ y := by
  unfold shl
  rw [Int.toNat_natCast, show IntKind.bits .i64 = 64 from rfl, Nat.min_eq_left (by omega), IntKind.wrap_i64]
  have h1 : (2 : Int) ^ y ≤ 2 ^ 62 := by exact_mod_cast Nat.pow_le_pow_right (by decide) h
  have h2 : (0 : Int) < 2 ^ y := Int.pow_pos (by decide)
  omega
theorem shlu64 (y : Nat) (h : y ≤ 63) : shl .u64 1 (y : Int) = 2 ^ y := by
  unfold shl
  rw [Int.toNat_natCast, show IntKind.bits .u64 = 64 from rfl, Nat.min_eq_left (by omega)]
  have h1 : (2 : Int) ^ y ≤ 2 ^ 63 := by exact_mod_cast Nat.pow_le_pow_right (by decide) h
  have h2 : (0 : Int) < 2 ^ y := Int.pow_pos (by decide)
  rw [Int.one_mul, wu64 (by omega) (by omega)]
theorem or64 (i : Nat) (hi : i ≤ 62) {x y : Int} (hx : 0 ≤ x) (hd : x % 2 ^ i = 0) (hx1 : x < 4611686018427387904) (hy : 0 ≤ y) (hy1 : y < 2 ^ i) : Go.bits .or .i64 x y = x + y := by
  have h1 : (2 : Int) ^ i ≤ 2 ^ 62 := by exact_mod_cast Nat.pow_le_pow_right (by decide) hi
  exact bits_join .i64 62 (by decide) (fun n a b => by rw [IntKind.wrap_i64]; omega) i x y hx hd (by omega) hy hy1 (by omega)
theorem eq_list {s t : ByteArray} (h : s = t) : s.toList = t.toList := by rw [h]
/-- 1 + z % 4, as the code has it. -/
theorem size4 {z : Int} (h0 : 0 ≤ z) (h1 : z ≤ 255) : ∃ k : Nat, wrap64 (1 + wrap64 (Int.tmod z 4)) = (k : Int) ∧ 1 ≤ k ∧ k ≤ 4 :=
  ⟨(1 + z % 4).toNat, by rw [tm 4 h0, w64 (n := z % 4) (by omega) (by omega), w64 (by omega) (by omega)]; omega, by omega, by omega⟩
theorem pow8 (k : Nat) : (2 : Int) ^ (8 * k) = 256 ^ k := by rw [Int.pow_mul]; rfl
theorem toL (s : ByteArray) : s.toList = Sp.bl s := ByteArray.toList_eq s
theorem mn_cut (s : ByteArray) (n : Nat) : ∃ p : Nat, mn (s.size : Int) (n : Int) = (p : Int) ∧ p ≤ n ∧ p ≤ s.size ∧ ((s.extract 0 ((p : Int)).toNat).size = p) :=
  ⟨min s.size n, by unfold mn; omega, by omega, by omega, by rw [ByteArray.size_extract]; omega⟩
/-! ### checks of segments -/
section
open Go.Proofs.Ytlhpfoibohiggaa.Sp
theorem zeroed_snd (p : Int) (s : List UInt8) : (zeroed p s).2 = Sp.has (cov p s) (place p).1 2 := by
  have f : fits 2 0 = true := by decide
  unfold zeroed Sp.set
  by_cases h : Sp.has (cov p s) (place p).1 2 = true
  · rw [if_pos ⟨f, h⟩, h]
  · rw [if_neg (fun x => h x.2), bool_no h]
theorem pcheck_snd {p a b : Int} {s : List UInt8} : (pcheck p a b s).2 = true ↔ (place p).2 = true ∧ Sp.has (cov p s) (place p).1 2 = true := by
  unfold pcheck; rw [zeroed_snd]
  by_cases h : (place p).2 = true ∧ Sp.has (cov p s) (place p).1 2 = true
  · rw [if_pos h]; exact ⟨fun _ => h, fun _ => rfl⟩
  · rw [if_neg h]; exact ⟨fun x => (by cases x), fun x => absurd x h⟩
theorem cov_six (s : List UInt8) : cov 6 s = s := by unfold cov; rw [if_neg (fun h => absurd h.1 (by decide))]
theorem pverify_nine (p a b : Int) (s : List UInt8) : (pverify p a b s == 9) = !(place p).2 := by
  unfold pverify
  by_cases hp : (place p).2 = true
  · rw [if_pos hp, hp]; (repeat' split) <;> rfl
  · rw [if_neg hp, bool_no hp]; rfl
/-- a word set at an even place -/
def put2 (l : List UInt8) (k : Nat) (n : Int) : List UInt8 := l.take k ++ beBytes 2 n ++ l.drop (k + 2)
theorem put2_length {l : List UInt8} {k : Nat} {n : Int} (h : k + 2 ≤ l.length) : (put2 l k n).length = l.length := by
  unfold put2; rw [List.length_append, List.length_append, List.length_take, List.length_drop, beBytes_length]; omega
theorem set_put2 {l : List UInt8} {k : Nat} {n : Int} (h : k + 2 ≤ l.length) (h0 : 0 ≤ n) (h1 : n ≤ 65535) : Sp.set l (k : Int) 2 n = (put2 l k n, true) := by
  rw [set_yes (fits2.2 ⟨h0, h1⟩) (has_iff.2 ⟨by decide, by decide, by omega, by omega⟩)]
  unfold put2
  rw [Int.toNat_natCast, show ((k : Int) + 2).toNat = k + 2 by omega]; rfl
theorem wsum_put2 {l : List UInt8} {k : Nat} {n : Int} (hk : k % 2 = 0) (h : k + 2 ≤ l.length) (h0 : 0 ≤ n) (h1 : n ≤ 65535) : wsum (wl (put2 l k n)) = wsum (wl (l.take k)) + n + wsum (wl (l.drop (k + 2))) := by
  have e : (l.take k).length = k := by rw [List.length_take]; omega
  unfold put2
  rw [wsum_even _ _ (by rw [List.length_append, e, beBytes_length]; omega), wsum_even _ _ (by rw [e]; exact hk), wsum_be2]
  omega
theorem put2_put2 {l : List UInt8} {k : Nat} {m n : Int} (h : k + 2 ≤ l.length) : put2 (put2 l k m) k n = put2 l k n := by
  have e : (l.take k).length = k := by rw [List.length_take]; omega
  unfold put2
  rw [List.append_assoc (l.take k) (beBytes 2 m), List.take_left' e, List.append_assoc (l.take k) (beBytes 2 n), List.append_assoc (l.take k) (beBytes 2 n)]
  congr 2
  rw [← List.append_assoc, List.drop_left' (by rw [List.length_append, e, beBytes_length])]
theorem put2_take {l : List UInt8} {k : Nat} {n : Int} (h : k + 2 ≤ l.length) : (put2 l k n).take k = l.take k := by
  have e : (l.take k).length = k := by rw [List.length_take]; omega
  unfold put2; rw [List.append_assoc, List.take_left' e]
theorem put2_drop {l : List UInt8} {k : Nat} {n : Int} (h : k + 2 ≤ l.length) : (put2 l k n).drop (k + 2) = l.drop (k + 2) := by
  have e : (l.take k).length = k := by rw [List.length_take]; omega
  unfold put2; rw [List.drop_left' (by rw [List.length_append, e, beBytes_length])]
theorem put2_mid {l : List UInt8} {k : Nat} {n : Int} (h : k + 2 ≤ l.length) : ((put2 l k n).drop k).take 2 = beBytes 2 n := by
  have e : (l.take k).length = k := by rw [List.length_take]; omega
  unfold put2; rw [List.append_assoc, List.drop_left' e, List.take_left' (by rw [beBytes_length])]
theorem put2_bytes {l : List UInt8} {k : Nat} {n : Int} (h : k + 2 ≤ l.length) : bt (lb (put2 l k n)) (k : Int) = n / 256 % 256 ∧ bt (lb (put2 l k n)) ((k : Int) + 1) = n % 256 := by
  have e : (l.take k).length = k := by rw [List.length_take]; omega
  have hl := put2_length (n := n) h
  have g : ∀ i (h1 : i < (put2 l k n).length), k ≤ i → (h2 : i - k < (beBytes 2 n ++ l.drop (k + 2)).length) → (put2 l k n)[i]'h1 = (beBytes 2 n ++ l.drop (k + 2))[i - k]'h2 := by
    intro i h1 hi h2
    unfold put2
    simp only [List.append_assoc]
    rw [List.getElem_append_right (by omega)]
    congr 1; omega
  have hb : ∀ i : Nat, k ≤ i → i < k + 2 → (h2 : i - k < (beBytes 2 n ++ l.drop (k + 2)).length) → bt (lb (put2 l k n)) (i : Int) = (((beBytes 2 n ++ l.drop (k + 2))[i - k]'h2).toNat : Int) := by
    intro i hi h1 h2
    rw [← g i (by omega) hi h2]
    have hz : ((i : Int)).toNat < (lb (put2 l k n)).size := by rw [lb_size]; omega
    unfold bt; rw [dif_pos hz]; rfl
  have b0 := hb k (by omega) (by omega) (by rw [List.length_append, beBytes_length]; omega)
  have b1 := hb (k + 1) (by omega) (by omega) (by rw [List.length_append, beBytes_length]; omega)
  simp only [Nat.sub_self, show k + 1 - k = 1 by omega] at b0 b1
  refine ⟨b0.trans ?_, Eq.trans (by rw [show ((k : Int) + 1) = ((k + 1 : Nat) : Int) by omega]) (b1.trans ?_)⟩
  · show (((UInt8.ofNat (n / 256 % 256).toNat).toNat : Nat) : Int) = _
    exact ofNat_mod _
  · show (((UInt8.ofNat (n % 256).toNat).toNat : Nat) : Int) = _
    exact ofNat_mod _
theorem word_bytes {l : List UInt8} {k : Nat} {n : Int} (h : k + 2 ≤ l.length) (h0 : 0 ≤ n) (h1 : n ≤ 65535) :
    Go.bits .or .i64 (wrap64 (wrap64 (bt (lb (put2 l k n)) (k : Int)) * 256)) (wrap64 (bt (lb (put2 l k n)) ((k : Int) + 1))) = n := by
  have hb := put2_bytes (n := n) h
  rw [hb.1, hb.2, w64 (n := n / 256 % 256) (by omega) (by omega), w64 (n := n / 256 % 256 * 256) (by omega) (by omega), w64 (n := n % 256) (by omega) (by omega), or64 8 (by decide) (by omega) (by omega) (by omega) (by omega) (by omega)]
  omega
theorem psum_put2 {p a b : Int} {l : List UInt8} {k : Nat} {n : Int} (hk : k % 2 = 0) (h : k + 2 ≤ l.length) (h0 : 0 ≤ n) (h1 : n ≤ 65535) :
    psum p a b (put2 l k n) = fold16 (hsum p a b l.length + (wsum (wl (l.take k)) + wsum (wl (l.drop (k + 2)))) + n) := by
  unfold psum
  rw [put2_length h, wsum_put2 hk h h0 h1]
  congr 1; omega
theorem psum_filled {p a b : Int} {l : List UInt8} {k : Nat} (hp : (place p).2 = true) (ha : 0 ≤ a ∧ a ≤ 4294967295) (hb : 0 ≤ b ∧ b ≤ 4294967295) (hk : k % 2 = 0) (h : k + 2 ≤ l.length) :
    psum p a b (put2 l k (pnum p a b (put2 l k 0))) = 65535 := by
  have hn := pnum_bounds (s := put2 l k 0) hp ha hb
  have hh := hsum_bounds (n := (l.length : Int)) hp ha hb
  have w1 := (wsum_bounds (wl (l.take k))).1
  have w2 := (wsum_bounds (wl (l.drop (k + 2)))).1
  rw [psum_put2 hk h hn.1 hn.2]
  unfold pnum
  rw [psum_put2 hk h (by decide) (by decide)]
  unfold fold16
  (repeat' split) <;> omega
end
/-! ### one byte another one -/
section
open Go.Proofs.Ytlhpfoibohiggaa.Sp Go.Proofs.Ytlhpfoibohiggaa.Pr
theorem bl_turned (s : ByteArray) (j : Nat) (v : Int) : bl (strOfNums ((numsOf s).set j v)) = (bl s).set j (UInt8.ofNat v.toNat) := by
  show ((numsOf s).set j v).map (fun n => UInt8.ofNat n.toNat) = _
  unfold numsOf
  rw [List.map_set, List.map_map]
  congr 1
  have e : ((fun n : Int => UInt8.ofNat n.toNat) ∘ fun b : UInt8 => (b.toNat : Int)) = id := by
    funext b; simp
  rw [e, List.map_id]; rfl
theorem rd_numsOf (s : ByteArray) (j : Nat) (h : j < (bl s).length) : rd (numsOf s) (j : Int) = (((bl s)[j]).toNat : Int) := by
  have h' : j < s.data.size := by simpa using h
  unfold rd numsOf bl
  rw [Int.toNat_natCast, List.getD_eq_getElem?_getD, List.getElem?_map, List.getElem?_eq_getElem (by simpa using h)]
  rfl
theorem wsum_nil : wsum (wl []) = 0 := rfl
theorem wsum_one (x : UInt8) : wsum (wl [x]) = (x.toNat : Int) * 256 := by
  have e0 : (0 : UInt8).toNat = 0 := rfl
  have e : wl [x] = wl [x, 0] := by rw [wl_two, e0, Nat.add_zero]; rfl
  rw [e, wsum_two, wsum_nil]; show (x.toNat : Int) * 256 + 0 + 0 = _; omega
theorem wsum_set (l : List UInt8) : ∀ (i : Nat) (h : i < l.length) (b : UInt8), wsum (wl (l.set i b)) = wsum (wl l) + ((b.toNat : Int) - ((l[i]'h).toNat : Int)) * (if i % 2 = 0 then 256 else 1) := by
  induction l using wl.induct with
  | case1 => intro i h; simp at h
  | case2 x =>
    intro i h b
    obtain rfl : i = 0 := by simp at h; omega
    show wsum (wl [b]) = wsum (wl [x]) + ((b.toNat : Int) - (x.toNat : Int)) * 256
    rw [wsum_one, wsum_one]; omega
  | case3 x y r ih =>
    intro i h b
    match i, h with
    | 0, h =>
      show wsum (wl (b :: y :: r)) = wsum (wl (x :: y :: r)) + ((b.toNat : Int) - (x.toNat : Int)) * 256
      rw [wsum_two, wsum_two]; omega
    | 1, h =>
      show wsum (wl (x :: b :: r)) = wsum (wl (x :: y :: r)) + ((b.toNat : Int) - (y.toNat : Int)) * 1
      rw [wsum_two, wsum_two]; omega
    | i + 2, h =>
      have h' : i < r.length := by simpa using h
      show wsum (wl (x :: y :: r.set i b)) = wsum (wl (x :: y :: r)) + ((b.toNat : Int) - ((r[i]'h').toNat : Int)) * (if (i + 2) % 2 = 0 then 256 else 1)
      rw [wsum_two, wsum_two, ih i h' b, show (i + 2) % 2 = i % 2 by omega]; omega
theorem bit_all : ∀ x : Fin 256, ∀ k : Fin 8, (Go.bits .xor .u8 (x.val : Int) (shl .u8 1 (k.val : Int)) = (x.val : Int) + 2 ^ k.val ∨ Go.bits .xor .u8 (x.val : Int) (shl .u8 1 (k.val : Int)) = (x.val : Int) - 2 ^ k.val) ∧ 0 ≤ Go.bits .xor .u8 (x.val : Int) (shl .u8 1 (k.val : Int)) ∧ Go.bits .xor .u8 (x.val : Int) (shl .u8 1 (k.val : Int)) ≤ 255 := by decide +kernel
/-- a bit of a byte turned: another number, by less than a word -/
theorem bit_turned {x k : Int} (h0 : 0 ≤ x) (h1 : x ≤ 255) (k0 : 0 ≤ k) (k1 : k ≤ 7) : ∃ v : Int, Go.bits .xor .u8 x (shl .u8 1 k) = v ∧ 0 ≤ v ∧ v ≤ 255 ∧ v ≠ x ∧ v - x ≤ 128 ∧ x - v ≤ 128 := by
  have h := bit_all ⟨x.toNat, by omega⟩ ⟨k.toNat, by omega⟩
  have e1 : ((x.toNat : Nat) : Int) = x := by omega
  have e2 : ((k.toNat : Nat) : Int) = k := by omega
  simp only [e1, e2] at h
  have p0 : (0 : Int) < 2 ^ k.toNat := Int.pow_pos (by decide)
  have p1 : (2 : Int) ^ k.toNat ≤ 2 ^ 7 := by exact_mod_cast Nat.pow_le_pow_right (by decide) (by omega)
  refine ⟨_, rfl, h.2.1, h.2.2, ?_⟩
  rcases h.1 with h | h <;> rw [h] <;> omega
/-- a text whose sum is 65535 has another one with a byte another one -/
theorem sum_turned {l : List UInt8} {i : Nat} (h : i < l.length) {v : Int} (v0 : 0 ≤ v) (v1 : v ≤ 255) (hne : v ≠ ((l[i]'h).toNat : Int)) (hs : sum l = 65535) : sum (l.set i (UInt8.ofNat v.toNat)) ≠ 65535 := by
  have w0 := (wsum_bounds (wl l)).1
  have w1 := (wsum_bounds (wl (l.set i (UInt8.ofNat v.toNat)))).1
  have hb := (l[i]'h).toNat_lt
  have e := wsum_set l i h (UInt8.ofNat v.toNat)
  have ev : ((UInt8.ofNat v.toNat).toNat : Int) = v := by rw [UInt8.toNat_ofNat']; omega
  rw [ev] at e
  unfold sum fold16 at hs ⊢
  by_cases hp : i % 2 = 0
  · rw [if_pos hp] at e
    split at hs <;> split <;> omega
  · rw [if_neg hp] at e
    split at hs <;> split <;> omega
end
/-! ### TCP segments -/
section
open Go.Proofs.Ytlhpfoibohiggaa.Sp
theorem tcpBuild_yes {a b c d e f g : Int} {o s : List UInt8} (r : tcpRight a b e f g o = true) (h : 20 + (o.length : Int) + (s.length : Int) ≤ 1500) : tcpBuild a b c d e f g o s = (tcpHead a b c d e f g o ++ o ++ s, 0) := by
  unfold tcpBuild; rw [if_pos r, if_neg (by omega)]
theorem tcpBuild_ok {a b c d e f g : Int} {o s : List UInt8} (h : (tcpBuild a b c d e f g o s).2 = 0) : tcpRight a b e f g o = true ∧ 20 + (o.length : Int) + (s.length : Int) ≤ 1500 := by
  unfold tcpBuild at h
  by_cases r : tcpRight a b e f g o = true
  · rw [if_pos r] at h
    by_cases hz : 20 + (o.length : Int) + (s.length : Int) > 1500
    · rw [if_pos hz] at h; cases h
    · exact ⟨r, by omega⟩
  · rw [if_neg r] at h; cases h
theorem tcpBuild_len {a b c d e f g : Int} {o s : List UInt8} (h : (tcpBuild a b c d e f g o s).2 = 0) : (tcpBuild a b c d e f g o s).1.length = 20 + o.length + s.length ∧ (tcpBuild a b c d e f g o s).1.length ≤ 1500 := by
  obtain ⟨r, hz⟩ := tcpBuild_ok h
  have hL : (tcpHead a b c d e f g o ++ o ++ s).length = 20 + o.length + s.length := by simp only [List.length_append, tcpHead_length]
  rw [tcpBuild_yes r hz]
  exact ⟨hL, by show (tcpHead a b c d e f g o ++ o ++ s).length ≤ 1500; omega⟩
/-- what stands at 12 tells the header's length -/
theorem tcpSize_head {a b c d e f g : Int} {o : List UInt8} (r : tcpRight a b e f g o = true) (q : List UInt8) (hq : q.take 13 = (tcpHead a b c d e f g o).take 13) : tcpSize q = 20 + o.length := by
  obtain ⟨_, _, _, _, hf, ho, _⟩ := tcpRight_iff.1 r
  have hl : 12 < q.length := by
    have h1 : (q.take 13).length = 13 := by rw [hq]; rfl
    rw [List.length_take] at h1; omega
  have h12 : q[12] = UInt8.ofNat ((4096 * ((20 + (o.length : Int)) / 4) + e) / 256 % 256).toNat := by
    have h2 : (q.take 13)[12]? = ((tcpHead a b c d e f g o).take 13)[12]? := by rw [hq]
    rw [List.getElem?_take, if_pos (by omega), List.getElem?_eq_getElem hl] at h2
    have h3 : ((tcpHead a b c d e f g o).take 13)[12]? = some (UInt8.ofNat ((4096 * ((20 + (o.length : Int)) / 4) + e) / 256 % 256).toNat) := rfl
    rw [h3] at h2
    exact Option.some.inj h2
  unfold tcpSize
  rw [dif_pos hl, h12, UInt8.toNat_ofNat']
  omega
theorem tcpParse_short {q : List UInt8} (h : q.length < 20) : tcpParse q = tcpNone 2 := by unfold tcpParse; rw [dif_pos h]
theorem tcpParse_cut {a b c d e f g : Int} {o : List UInt8} (r : tcpRight a b e f g o = true) (q : List UInt8) (hq : q.take 13 = (tcpHead a b c d e f g o).take 13) (h : 20 ≤ q.length) (h2 : q.length < 20 + o.length) : tcpParse q = tcpNone 4 := by
  have hs := tcpSize_head r q hq
  unfold tcpParse; rw [dif_neg (by omega), hs, if_pos (by omega)]
theorem be2_of {n : Int} (h : fits 2 n = true) : beNum (beBytes 2 n) = n := by have := fits2.1 h; exact beNum_beBytes 2 n this.1 (by omega)
theorem be4_of {n : Int} (h : 0 ≤ n ∧ n ≤ 4294967295) : beNum (beBytes 4 n) = n := beNum_beBytes 4 n h.1 (by omega)
/-- what is built is parsed as it was -/
theorem tcpParse_head {a b c d e f g : Int} {o : List UInt8} (r : tcpRight a b e f g o = true) (hc : 0 ≤ c ∧ c ≤ 4294967295) (hd : 0 ≤ d ∧ d ≤ 4294967295) (t : List UInt8) :
    tcpParse (tcpHead a b c d e f g o ++ o ++ t) = ⟨a, b, c, d, e, f, g, o, t, 0⟩ := by
  obtain ⟨fa, fb, ff, fg, he, ho, hok⟩ := tcpRight_iff.1 r
  have hs := tcpSize_head r (c := c) (d := d) (tcpHead a b c d e f g o ++ o ++ t) rfl
  have hl : (tcpHead a b c d e f g o ++ o ++ t).length = 20 + o.length + t.length := by simp only [List.length_append, tcpHead_length]
  have ht : (tcpHead a b c d e f g o ++ o ++ t).take (20 + o.length) = tcpHead a b c d e f g o ++ o := List.take_left' (by simp)
  have hd' : (tcpHead a b c d e f g o ++ o ++ t).drop (20 + o.length) = t := List.drop_left' (by simp)
  have h20 : (tcpHead a b c d e f g o ++ o).drop 20 = o := List.drop_left' (by simp)
  have fl : fits 2 (4096 * ((20 + (o.length : Int)) / 4) + e) = true := fits2.2 ⟨by omega, by omega⟩
  unfold tcpParse
  rw [dif_neg (by omega), hs, if_neg (by omega), ht, hd', h20, if_pos hok]
  have e0 : ((tcpHead a b c d e f g o ++ o ++ t).drop 0).take 2 = beBytes 2 (a) := rfl
  have g0 : (get (tcpHead a b c d e f g o ++ o ++ t) 0 2).1 = a := by
    have := get2 (tcpHead a b c d e f g o ++ o ++ t) 0 (by omega)
    rw [e0] at this
    rw [show get (tcpHead a b c d e f g o ++ o ++ t) 0 2 = _ from this]; exact be2_of fa
  have e2 : ((tcpHead a b c d e f g o ++ o ++ t).drop 2).take 2 = beBytes 2 (b) := rfl
  have g2 : (get (tcpHead a b c d e f g o ++ o ++ t) 2 2).1 = b := by
    have := get2 (tcpHead a b c d e f g o ++ o ++ t) 2 (by omega)
    rw [e2] at this
    rw [show get (tcpHead a b c d e f g o ++ o ++ t) 2 2 = _ from this]; exact be2_of fb
  have e4 : ((tcpHead a b c d e f g o ++ o ++ t).drop 4).take 4 = beBytes 4 (c) := rfl
  have g4 : (get (tcpHead a b c d e f g o ++ o ++ t) 4 4).1 = c := by
    have := get4 (tcpHead a b c d e f g o ++ o ++ t) 4 (by omega)
    rw [e4] at this
    rw [show get (tcpHead a b c d e f g o ++ o ++ t) 4 4 = _ from this]; exact be4_of hc
  have e8 : ((tcpHead a b c d e f g o ++ o ++ t).drop 8).take 4 = beBytes 4 (d) := rfl
  have g8 : (get (tcpHead a b c d e f g o ++ o ++ t) 8 4).1 = d := by
    have := get4 (tcpHead a b c d e f g o ++ o ++ t) 8 (by omega)
    rw [e8] at this
    rw [show get (tcpHead a b c d e f g o ++ o ++ t) 8 4 = _ from this]; exact be4_of hd
  have e12 : ((tcpHead a b c d e f g o ++ o ++ t).drop 12).take 2 = beBytes 2 (4096 * ((20 + (o.length : Int)) / 4) + e) := rfl
  have g12 : (get (tcpHead a b c d e f g o ++ o ++ t) 12 2).1 = 4096 * ((20 + (o.length : Int)) / 4) + e := by
    have := get2 (tcpHead a b c d e f g o ++ o ++ t) 12 (by omega)
    rw [e12] at this
    rw [show get (tcpHead a b c d e f g o ++ o ++ t) 12 2 = _ from this]; exact be2_of fl
  have e14 : ((tcpHead a b c d e f g o ++ o ++ t).drop 14).take 2 = beBytes 2 (f) := rfl
  have g14 : (get (tcpHead a b c d e f g o ++ o ++ t) 14 2).1 = f := by
    have := get2 (tcpHead a b c d e f g o ++ o ++ t) 14 (by omega)
    rw [e14] at this
    rw [show get (tcpHead a b c d e f g o ++ o ++ t) 14 2 = _ from this]; exact be2_of ff
  have e18 : ((tcpHead a b c d e f g o ++ o ++ t).drop 18).take 2 = beBytes 2 (g) := rfl
  have g18 : (get (tcpHead a b c d e f g o ++ o ++ t) 18 2).1 = g := by
    have := get2 (tcpHead a b c d e f g o ++ o ++ t) 18 (by omega)
    rw [e18] at this
    rw [show get (tcpHead a b c d e f g o ++ o ++ t) 18 2 = _ from this]; exact be2_of fg
  have hm : (4096 * ((20 + (o.length : Int)) / 4) + e) % 4096 = e := by omega
  rw [g0, g2, g4, g8, g12, g14, g18, hm]
theorem tcpParse_none {s : List UInt8} (h : (tcpParse s).e ≠ 0) : ∃ e, e ≠ 0 ∧ tcpParse s = tcpNone e := by
  unfold tcpParse at h ⊢
  split
  · exact ⟨2, by decide, rfl⟩
  · split
    · exact ⟨4, by decide, rfl⟩
    · split
      case isTrue h1 h2 h3 => rw [dif_neg h1, if_neg h2, if_pos h3] at h; exact absurd rfl h
      · exact ⟨6, by decide, rfl⟩
theorem bn2 (x y : UInt8) : beNum [x, y] = (x.toNat : Int) * 256 + (y.toNat : Int) := by
  show ((0 : Int) * 256 + _) * 256 + _ = _; omega
theorem list_one {s : List UInt8} {n : Nat} (h : n + 1 ≤ s.length) : ∃ a r, s = a :: r ∧ n ≤ r.length := by
  match s, h with
  | a :: r, h => exact ⟨a, r, rfl, by simp only [List.length_cons] at h; omega⟩
theorem list20 {s : List UInt8} (h : 20 ≤ s.length) : ∃ a0 a1 a2 a3 a4 a5 a6 a7 a8 a9 a10 a11 a12 a13 a14 a15 a16 a17 a18 a19 r, s = a0 :: a1 :: a2 :: a3 :: a4 :: a5 :: a6 :: a7 :: a8 :: a9 :: a10 :: a11 :: a12 :: a13 :: a14 :: a15 :: a16 :: a17 :: a18 :: a19 :: r := by
  obtain ⟨a0, r0, e0, h0⟩ := list_one (n := 19) (by omega : 19 + 1 ≤ (s).length)
  obtain ⟨a1, r1, e1, h1⟩ := list_one (n := 18) (by omega : 18 + 1 ≤ (r0).length)
  obtain ⟨a2, r2, e2, h2⟩ := list_one (n := 17) (by omega : 17 + 1 ≤ (r1).length)
  obtain ⟨a3, r3, e3, h3⟩ := list_one (n := 16) (by omega : 16 + 1 ≤ (r2).length)
  obtain ⟨a4, r4, e4, h4⟩ := list_one (n := 15) (by omega : 15 + 1 ≤ (r3).length)
  obtain ⟨a5, r5, e5, h5⟩ := list_one (n := 14) (by omega : 14 + 1 ≤ (r4).length)
  obtain ⟨a6, r6, e6, h6⟩ := list_one (n := 13) (by omega : 13 + 1 ≤ (r5).length)
  obtain ⟨a7, r7, e7, h7⟩ := list_one (n := 12) (by omega : 12 + 1 ≤ (r6).length)
  obtain ⟨a8, r8, e8, h8⟩ := list_one (n := 11) (by omega : 11 + 1 ≤ (r7).length)
  obtain ⟨a9, r9, e9, h9⟩ := list_one (n := 10) (by omega : 10 + 1 ≤ (r8).length)
  obtain ⟨a10, r10, e10, h10⟩ := list_one (n := 9) (by omega : 9 + 1 ≤ (r9).length)
  obtain ⟨a11, r11, e11, h11⟩ := list_one (n := 8) (by omega : 8 + 1 ≤ (r10).length)
  obtain ⟨a12, r12, e12, h12⟩ := list_one (n := 7) (by omega : 7 + 1 ≤ (r11).length)
  obtain ⟨a13, r13, e13, h13⟩ := list_one (n := 6) (by omega : 6 + 1 ≤ (r12).length)
  obtain ⟨a14, r14, e14, h14⟩ := list_one (n := 5) (by omega : 5 + 1 ≤ (r13).length)
  obtain ⟨a15, r15, e15, h15⟩ := list_one (n := 4) (by omega : 4 + 1 ≤ (r14).length)
  obtain ⟨a16, r16, e16, h16⟩ := list_one (n := 3) (by omega : 3 + 1 ≤ (r15).length)
  obtain ⟨a17, r17, e17, h17⟩ := list_one (n := 2) (by omega : 2 + 1 ≤ (r16).length)
  obtain ⟨a18, r18, e18, h18⟩ := list_one (n := 1) (by omega : 1 + 1 ≤ (r17).length)
  obtain ⟨a19, r19, e19, h19⟩ := list_one (n := 0) (by omega : 0 + 1 ≤ (r18).length)
  exact ⟨a0, a1, a2, a3, a4, a5, a6, a7, a8, a9, a10, a11, a12, a13, a14, a15, a16, a17, a18, a19, r19, by rw [e0, e1, e2, e3, e4, e5, e6, e7, e8, e9, e10, e11, e12, e13, e14, e15, e16, e17, e18, e19]⟩
/-- what is parsed is built as it stood, but for its check -/
theorem tcp_again {s : List UInt8} (h : (tcpParse s).e = 0) (hl : s.length ≤ 1500) :
    20 ≤ s.length ∧ tcpBuild (tcpParse s).sp (tcpParse s).dp (tcpParse s).seq (tcpParse s).ack (tcpParse s).flags (tcpParse s).win (tcpParse s).urg (tcpParse s).opts (tcpParse s).body = (s.take 16 ++ [0, 0] ++ s.drop 18, 0) := by
  have h20 : ¬ s.length < 20 := fun hh => by rw [tcpParse_short hh] at h; cases h
  have hsz : ¬ (tcpSize s < 20 ∨ tcpSize s > s.length) := fun hh => by
    have e : tcpParse s = tcpNone 4 := by unfold tcpParse; rw [dif_neg h20, if_pos hh]
    rw [e] at h; cases h
  have hok : optsOk ((s.take (tcpSize s)).drop 20) = true := by
    by_cases hh : optsOk ((s.take (tcpSize s)).drop 20) = true
    · exact hh
    · have e : tcpParse s = tcpNone 6 := by unfold tcpParse; rw [dif_neg h20, if_neg hsz, if_neg hh]
      rw [e] at h; cases h
  have hp : tcpParse s = ⟨(get s 0 2).1, (get s 2 2).1, (get s 4 4).1, (get s 8 4).1, (get s 12 2).1 % 4096, (get s 14 2).1, (get s 18 2).1, (s.take (tcpSize s)).drop 20, s.drop (tcpSize s), 0⟩ := by
    unfold tcpParse; rw [dif_neg h20, if_neg hsz, if_pos hok]
  refine ⟨by omega, ?_⟩
  rw [hp]
  obtain ⟨a0, a1, a2, a3, a4, a5, a6, a7, a8, a9, a10, a11, a12, a13, a14, a15, a16, a17, a18, a19, r, rfl⟩ := list20 (by omega : 20 ≤ s.length)
  have hS : tcpSize (a0 :: a1 :: a2 :: a3 :: a4 :: a5 :: a6 :: a7 :: a8 :: a9 :: a10 :: a11 :: a12 :: a13 :: a14 :: a15 :: a16 :: a17 :: a18 :: a19 :: r) = 4 * (a12.toNat / 16) := by
    unfold tcpSize; rw [dif_pos (by simp only [List.length_cons]; omega)]; rfl
  have hx := a12.toNat_lt
  have hx13 := a13.toNat_lt
  simp only [List.length_cons] at hl
  rw [hS] at hsz hok ⊢
  simp only [List.length_cons] at hsz
  obtain ⟨m, hm⟩ : ∃ m, 4 * (a12.toNat / 16) = m + 20 := ⟨4 * (a12.toNat / 16) - 20, by omega⟩
  rw [hm] at hok ⊢
  have ho : ((a0 :: a1 :: a2 :: a3 :: a4 :: a5 :: a6 :: a7 :: a8 :: a9 :: a10 :: a11 :: a12 :: a13 :: a14 :: a15 :: a16 :: a17 :: a18 :: a19 :: r).take (m + 20)).drop 20 = r.take m := rfl
  have hb : (a0 :: a1 :: a2 :: a3 :: a4 :: a5 :: a6 :: a7 :: a8 :: a9 :: a10 :: a11 :: a12 :: a13 :: a14 :: a15 :: a16 :: a17 :: a18 :: a19 :: r).drop (m + 20) = r.drop m := rfl
  rw [ho] at hok
  rw [ho, hb]
  have len : 20 ≤ (a0 :: a1 :: a2 :: a3 :: a4 :: a5 :: a6 :: a7 :: a8 :: a9 :: a10 :: a11 :: a12 :: a13 :: a14 :: a15 :: a16 :: a17 :: a18 :: a19 :: r).length := by simp only [List.length_cons]; omega
  generalize hs : (a0 :: a1 :: a2 :: a3 :: a4 :: a5 :: a6 :: a7 :: a8 :: a9 :: a10 :: a11 :: a12 :: a13 :: a14 :: a15 :: a16 :: a17 :: a18 :: a19 :: r) = s at *
  have g0 : get s 0 2 = (beNum [a0, a1], true) := by have := get2 s 0 (by omega); rw [← hs] at this ⊢; exact this
  have g2 : get s 2 2 = (beNum [a2, a3], true) := by have := get2 s 2 (by omega); rw [← hs] at this ⊢; exact this
  have g4 : get s 4 4 = (beNum [a4, a5, a6, a7], true) := by have := get4 s 4 (by omega); rw [← hs] at this ⊢; exact this
  have g8 : get s 8 4 = (beNum [a8, a9, a10, a11], true) := by have := get4 s 8 (by omega); rw [← hs] at this ⊢; exact this
  have g12 : get s 12 2 = (beNum [a12, a13], true) := by have := get2 s 12 (by omega); rw [← hs] at this ⊢; exact this
  have g14 : get s 14 2 = (beNum [a14, a15], true) := by have := get2 s 14 (by omega); rw [← hs] at this ⊢; exact this
  have g18 : get s 18 2 = (beNum [a18, a19], true) := by have := get2 s 18 (by omega); rw [← hs] at this ⊢; exact this
  rw [g0, g2, g4, g8, g12, g14, g18]
  have f2 : ∀ x y : UInt8, fits 2 (beNum [x, y]) = true := fun x y => by
    have h1 := beNum_bounds [x, y]; exact fits2.2 ⟨h1.1, by have := h1.2; simp at this; omega⟩
  have lt : (r.take m).length = m := by rw [List.length_take]; omega
  have ld : (r.drop m).length = r.length - m := List.length_drop
  have R : tcpRight (beNum [a0, a1]) (beNum [a2, a3]) (beNum [a12, a13] % 4096) (beNum [a14, a15]) (beNum [a18, a19]) (r.take m) = true :=
    tcpRight_iff.2 ⟨f2 _ _, f2 _ _, f2 _ _, f2 _ _, ⟨by omega, by omega⟩, ⟨by omega, by omega⟩, hok⟩
  show tcpBuild (beNum [a0, a1]) (beNum [a2, a3]) (beNum [a4, a5, a6, a7]) (beNum [a8, a9, a10, a11]) (beNum [a12, a13] % 4096) (beNum [a14, a15]) (beNum [a18, a19]) (r.take m) (r.drop m) = _
  rw [tcpBuild_yes R (by omega)]
  have hfl : 4096 * ((20 + ((r.take m).length : Int)) / 4) + beNum [a12, a13] % 4096 = beNum [a12, a13] := by
    rw [lt, bn2]; omega
  have b2 : ∀ x y : UInt8, beBytes 2 (beNum [x, y]) = [x, y] := fun x y => beBytes_beNum [x, y]
  have b4 : ∀ x y z t : UInt8, beBytes 4 (beNum [x, y, z, t]) = [x, y, z, t] := fun x y z t => beBytes_beNum [x, y, z, t]
  unfold tcpHead
  rw [hfl, b2, b2, b4, b4, b2, b2, b2, List.append_assoc _ (r.take m), List.take_append_drop, ← hs]
  rfl
/-! ### IPv4 -/
/-- a text with its check in it, at an even place -/
theorem sum_checked {L : List UInt8} {k : Nat} (hk : k % 2 = 0) (h : k + 2 ≤ L.length) (e : put2 L k 0 = L) : sum (put2 L k (check L)) = 65535 := by
  have hc : 0 ≤ check L ∧ check L ≤ 65535 := by have := sum_bounds L; unfold check; omega
  have h0 : wsum (wl L) = wsum (wl (put2 L k 0)) := by rw [e]
  have w1 := (wsum_bounds (wl (L.take k))).1
  have w2 := (wsum_bounds (wl (L.drop (k + 2)))).1
  rw [wsum_put2 hk h (by decide) (by decide)] at h0
  unfold sum
  rw [wsum_put2 hk h hc.1 hc.2]
  unfold check sum
  rw [h0]
  unfold fold16
  (repeat' split) <;> omega
theorem ip4Full_sum (t i f g l p a b : Int) (o : List UInt8) (T : Int) : sum (ip4Full t i f g l p a b o T) = 65535 :=
  sum_checked (L := ip4Head t i f g l p a b o T 0) (k := 10) (by decide) (by rw [ip4Head_length]; omega) rfl
theorem ip4Build_yes {t i f g l p a b : Int} {o s : List UInt8} (r : ip4Right t i f g l p o = true) (h : 20 + (o.length : Int) + (s.length : Int) ≤ 1500) : ip4Build t i f g l p a b o s = (ip4Full t i f g l p a b o (20 + (o.length : Int) + (s.length : Int)) ++ s, 0) := by
  unfold ip4Build; rw [if_pos r, if_neg (by omega)]
theorem ip4Build_ok {t i f g l p a b : Int} {o s : List UInt8} (h : (ip4Build t i f g l p a b o s).2 = 0) : ip4Right t i f g l p o = true ∧ 20 + (o.length : Int) + (s.length : Int) ≤ 1500 := by
  unfold ip4Build at h
  by_cases r : ip4Right t i f g l p o = true
  · rw [if_pos r] at h
    by_cases hz : 20 + (o.length : Int) + (s.length : Int) > 1500
    · rw [if_pos hz] at h; cases h
    · exact ⟨r, by omega⟩
  · rw [if_neg r] at h; cases h
theorem ip4Build_no {t i f g l p a b : Int} {o s : List UInt8} (h : (ip4Build t i f g l p a b o s).2 ≠ 0) : (ip4Build t i f g l p a b o s).1 = [] ∧ (ip4Right t i f g l p o = false ∨ 20 + (o.length : Int) + (s.length : Int) > 1500) := by
  unfold ip4Build at h ⊢
  by_cases r : ip4Right t i f g l p o = true
  · rw [if_pos r] at h ⊢
    by_cases hz : 20 + (o.length : Int) + (s.length : Int) > 1500
    · rw [if_pos hz]; exact ⟨rfl, Or.inr hz⟩
    · rw [if_neg hz] at h; exact absurd rfl h
  · rw [if_neg r]; exact ⟨rfl, Or.inl (bool_no r)⟩
theorem ip4Build_len {t i f g l p a b : Int} {o s : List UInt8} (h : (ip4Build t i f g l p a b o s).2 = 0) : (ip4Build t i f g l p a b o s).1.length = 20 + o.length + s.length ∧ (ip4Build t i f g l p a b o s).1.length ≤ 1500 := by
  obtain ⟨r, hz⟩ := ip4Build_ok h
  have hL : (ip4Full t i f g l p a b o (20 + (o.length : Int) + (s.length : Int)) ++ s).length = 20 + o.length + s.length := by rw [List.length_append, ip4Full_length]
  rw [ip4Build_yes r hz]
  exact ⟨hL, by show (ip4Full t i f g l p a b o (20 + (o.length : Int) + (s.length : Int)) ++ s).length ≤ 1500; omega⟩
theorem be1_of {n : Int} (h : 0 ≤ n ∧ n ≤ 255) : beNum (beBytes 1 n) = n := beNum_beBytes 1 n h.1 (by omega)
theorem be2_in {n : Int} (h : 0 ≤ n ∧ n ≤ 65535) : beNum (beBytes 2 n) = n := beNum_beBytes 2 n h.1 (by omega)
theorem ip4B0_head {t i f g l p a b : Int} {o : List UInt8} (ho : o.length ≤ 40) (T ck : Int) (z : List UInt8) : ip4B0 (ip4Head t i f g l p a b o T ck ++ z) = 64 + (20 + (o.length : Int)) / 4 := by
  have h : ip4B0 (ip4Head t i f g l p a b o T ck ++ z) = ((UInt8.ofNat ((64 + (20 + (o.length : Int)) / 4) % 256).toNat).toNat : Int) := rfl
  rw [h, UInt8.toNat_ofNat']; omega
theorem ip4Len_head {t i f g l p a b : Int} {o : List UInt8} (ho : o.length ≤ 40 ∧ o.length % 4 = 0) (T ck : Int) (z : List UInt8) : ip4Len (ip4Head t i f g l p a b o T ck ++ z) = 20 + (o.length : Int) ∧ ip4B0 (ip4Head t i f g l p a b o T ck ++ z) / 16 = 4 := by
  unfold ip4Len
  rw [ip4B0_head ho.1]; omega
theorem ip4Tot_head {t i f g l p a b : Int} {o : List UInt8} (T ck : Int) (hT : 0 ≤ T ∧ T ≤ 65535) (z : List UInt8) : ip4Tot (ip4Head t i f g l p a b o T ck ++ z) = T := by
  unfold ip4Tot
  have hl := ip4Head_length t i f g l p a b o T ck
  have e : ((ip4Head t i f g l p a b o T ck ++ z).drop 2).take 2 = beBytes 2 T := rfl
  have := get2 (ip4Head t i f g l p a b o T ck ++ z) 2 (by rw [List.length_append]; omega)
  rw [e] at this
  rw [show get (ip4Head t i f g l p a b o T ck ++ z) 2 2 = _ from this]; exact be2_in hT
theorem ip4Sizes_head {t i f g l p a b : Int} {o : List UInt8} (ho : o.length ≤ 40 ∧ o.length % 4 = 0) (T ck : Int) (z : List UInt8) (h0 : 20 + (o.length : Int) ≤ T) (h1 : T ≤ 1500) (h2 : T ≤ 20 + (o.length : Int) + (z.length : Int)) : ip4Sizes (ip4Head t i f g l p a b o T ck ++ z) = (20 + (o.length : Int), T, 0) := by
  have hl : (ip4Head t i f g l p a b o T ck ++ z).length = 20 + o.length + z.length := by rw [List.length_append, ip4Head_length]
  have hL := ip4Len_head (t := t) (i := i) (f := f) (g := g) (l := l) (p := p) (a := a) (b := b) ho T ck z
  unfold ip4Sizes
  rw [hL.1, ip4Tot_head T ck (by omega) z, hl, if_neg (by omega), if_neg (by rw [hL.2]; exact fun h => h rfl), if_neg (by omega), if_neg (by omega), if_neg (by omega)]
theorem ip4Fields_head {t i f g l p a b : Int} {o : List UInt8} (r : ip4Right t i f g l p o = true) (ha : 0 ≤ a ∧ a ≤ 4294967295) (hb : 0 ≤ b ∧ b ≤ 4294967295) (T ck : Int) (z : List UInt8) :
    ip4Fields (ip4Head t i f g l p a b o T ck ++ z) (20 + (o.length : Int)) T = ⟨t, i, f, g, l, p, a, b, o, ((ip4Head t i f g l p a b o T ck ++ z).take T.toNat).drop (20 + (o.length : Int)).toNat, 0⟩ := by
  obtain ⟨r0, r1, r2, r3, r4, r5, ho, _⟩ := ip4Right_iff.1 r
  have hl := ip4Head_length t i f g l p a b o T ck
  obtain ⟨q, hq⟩ : ∃ q, ip4Head t i f g l p a b o T ck ++ z = q := ⟨_, rfl⟩
  have hql : q.length = 20 + o.length + z.length := by rw [← hq, List.length_append, hl]
  have g1 : get q 1 1 = (t, true) := by
    have e : (q.drop 1).take 1 = beBytes 1 t := by rw [← hq]; rfl
    have := get1 q 1 (by omega); rw [e, be1_of r0] at this; exact this
  have g4 : get q 4 2 = (i, true) := by
    have e : (q.drop 4).take 2 = beBytes 2 i := by rw [← hq]; rfl
    have := get2 q 4 (by omega); rw [e, be2_in r1] at this; exact this
  have g6 : get q 6 2 = (f * 8192 + g, true) := by
    have e : (q.drop 6).take 2 = beBytes 2 (f * 8192 + g) := by rw [← hq]; rfl
    have := get2 q 6 (by omega); rw [e, be2_in (by omega)] at this; exact this
  have g8 : get q 8 1 = (l, true) := by
    have e : (q.drop 8).take 1 = beBytes 1 l := by rw [← hq]; rfl
    have := get1 q 8 (by omega); rw [e, be1_of r4] at this; exact this
  have g9 : get q 9 1 = (p, true) := by
    have e : (q.drop 9).take 1 = beBytes 1 p := by rw [← hq]; rfl
    have := get1 q 9 (by omega); rw [e, be1_of r5] at this; exact this
  have g12 : get q 12 4 = (a, true) := by
    have e : (q.drop 12).take 4 = beBytes 4 a := by rw [← hq]; rfl
    have := get4 q 12 (by omega); rw [e, be4_of ha] at this; exact this
  have g16 : get q 16 4 = (b, true) := by
    have e : (q.drop 16).take 4 = beBytes 4 b := by rw [← hq]; rfl
    have := get4 q 16 (by omega); rw [e, be4_of hb] at this; exact this
  have ht : q.take (20 + (o.length : Int)).toNat = ip4Head t i f g l p a b o T ck := by
    rw [← hq]; exact List.take_left' (by rw [hl]; omega)
  have hd : (ip4Head t i f g l p a b o T ck).drop 20 = o := rfl
  unfold ip4Fields
  rw [hq, g1, g4, g6, g8, g9, g12, g16, ht, hd]
  have x1 : (f * 8192 + g) / 8192 = f := by omega
  have x2 : (f * 8192 + g) % 8192 = g := by omega
  rw [x1, x2]
/-- what is built is parsed as it was, with anything behind -/
theorem ip4Parse_full {t i f g l p a b : Int} {o s : List UInt8} (r : ip4Right t i f g l p o = true) (ha : 0 ≤ a ∧ a ≤ 4294967295) (hb : 0 ≤ b ∧ b ≤ 4294967295) (h : 20 + (o.length : Int) + (s.length : Int) ≤ 1500) (more : List UInt8) :
    ip4Parse (ip4Full t i f g l p a b o (20 + (o.length : Int) + (s.length : Int)) ++ s ++ more) = ⟨t, i, f, g, l, p, a, b, o, s, 0⟩ := by
  obtain ⟨_, _, _, _, _, _, ho, hok⟩ := ip4Right_iff.1 r
  obtain ⟨T, hT⟩ : ∃ T, 20 + (o.length : Int) + (s.length : Int) = T := ⟨_, rfl⟩
  have hsum := ip4Full_sum t i f g l p a b o T
  have hfl := ip4Full_length t i f g l p a b o T
  rw [hT]
  unfold ip4Full at hsum hfl ⊢
  obtain ⟨ck, hck⟩ : ∃ ck, check (ip4Head t i f g l p a b o T 0) = ck := ⟨_, rfl⟩
  rw [hck] at hsum hfl ⊢
  rw [List.append_assoc]
  have hz := ip4Sizes_head (t := t) (i := i) (f := f) (g := g) (l := l) (p := p) (a := a) (b := b) ho T ck (s ++ more) (by omega) (by omega) (by rw [List.length_append]; omega)
  have hL := (ip4Len_head (t := t) (i := i) (f := f) (g := g) (l := l) (p := p) (a := a) (b := b) ho T ck (s ++ more)).1
  have hTt := ip4Tot_head (t := t) (i := i) (f := f) (g := g) (l := l) (p := p) (a := a) (b := b) (o := o) T ck (by omega) (s ++ more)
  have htk : (ip4Head t i f g l p a b o T ck ++ (s ++ more)).take (20 + (o.length : Int)).toNat = ip4Head t i f g l p a b o T ck := List.take_left' (by rw [hfl]; omega)
  have hd : (ip4Head t i f g l p a b o T ck).drop 20 = o := rfl
  unfold ip4Parse
  rw [hz, if_pos rfl, hL, htk, if_pos hsum, hd, if_pos hok, hTt, ip4Fields_head r ha hb]
  have hb2 : ((ip4Head t i f g l p a b o T ck ++ (s ++ more)).take T.toNat).drop (20 + (o.length : Int)).toNat = s := by
    rw [← List.append_assoc, List.take_left' (by rw [List.length_append, hfl]; omega), List.drop_left' (by rw [hfl]; omega)]
  rw [hb2]
theorem ip4Parse_err {s : List UInt8} (h : (ip4Parse s).e ≠ 0) : ∃ e, e ≠ 0 ∧ ip4Parse s = ip4None e := by
  unfold ip4Parse at h ⊢
  split
  case isTrue h0 =>
    split
    case isTrue h1 =>
      split
      case isTrue h2 => rw [if_pos h0, if_pos h1, if_pos h2] at h; exact absurd rfl h
      case isFalse => exact ⟨6, by decide, rfl⟩
    case isFalse => exact ⟨7, by decide, rfl⟩
  case isFalse h0 => exact ⟨_, h0, rfl⟩
/-- what is parsed has the sum of all -/
theorem ip4Parse_ok {s : List UInt8} (h : (ip4Parse s).e = 0) : (ip4Sizes s).2.2 = 0 ∧ sum (s.take (ip4Len s).toNat) = 65535 ∧ optsOk ((s.take (ip4Len s).toNat).drop 20) = true ∧ ip4Parse s = ip4Fields s (ip4Len s) (ip4Tot s) := by
  unfold ip4Parse at h ⊢
  by_cases h0 : (ip4Sizes s).2.2 = 0
  · rw [if_pos h0] at h ⊢
    by_cases h1 : sum (s.take (ip4Len s).toNat) = 65535
    · rw [if_pos h1] at h ⊢
      by_cases h2 : optsOk ((s.take (ip4Len s).toNat).drop 20) = true
      · rw [if_pos h2]; exact ⟨h0, h1, h2, rfl⟩
      · rw [if_neg h2] at h; cases h
    · rw [if_neg h1] at h; cases h
  · rw [if_neg h0] at h; exact absurd h h0
end
end Go.Proofs.Ytlhpfoibohiggaa.Lem
