/- Small words on numbers for the plain statements: what a number of its kind is, where nothing wraps, how bits are sums. -/
import Derived.Test.YthmpmladneiegaaPr0
set_option linter.unusedVariables false
set_option linter.unusedSimpArgs false
namespace Go.Proofs.Ythmpmladneiegaa.Lem
open Go.RowKit Go.Proofs.YthmpmladneiegaaW.PrintWords Go.Proofs.YthmpmladneiegaaW.PrintMore

theorem wf_i64 {n : Int} (h : (Lit.int .i64 n).wf = true) : -9223372036854775808 ≤ n ∧ n ≤ 9223372036854775807 := by
  simp [Lit.wf, IntKind.min, IntKind.max, IntKind.bits, IntKind.signed] at h; omega
theorem wf_u8 {n : Int} (h : (Lit.int .u8 n).wf = true) : 0 ≤ n ∧ n ≤ 255 := by
  simp [Lit.wf, IntKind.min, IntKind.max, IntKind.bits, IntKind.signed] at h; omega
theorem wf_u16 {n : Int} (h : (Lit.int .u16 n).wf = true) : 0 ≤ n ∧ n ≤ 65535 := by
  simp [Lit.wf, IntKind.min, IntKind.max, IntKind.bits, IntKind.signed] at h; omega
theorem wf_u32 {n : Int} (h : (Lit.int .u32 n).wf = true) : 0 ≤ n ∧ n ≤ 4294967295 := by
  simp [Lit.wf, IntKind.min, IntKind.max, IntKind.bits, IntKind.signed] at h; omega
theorem wf_u64 {n : Int} (h : (Lit.int .u64 n).wf = true) : 0 ≤ n ∧ n ≤ 18446744073709551615 := by
  simp [Lit.wf, IntKind.min, IntKind.max, IntKind.bits, IntKind.signed] at h; omega
theorem w64 {n : Int} (h0 : -9223372036854775808 ≤ n) (h1 : n ≤ 9223372036854775807) : wrap64 n = n := by unfold wrap64; omega
theorem w16 {n : Int} (h0 : 0 ≤ n) (h1 : n ≤ 65535) : IntKind.u16.wrap n = n := IntWalk.u16_in n ⟨h0, h1⟩
theorem wu64 {n : Int} (h0 : 0 ≤ n) (h1 : n ≤ 18446744073709551615) : IntKind.u64.wrap n = n := IntWalk.u64_in n ⟨h0, h1⟩
theorem tm {n : Int} (k : Int) (h0 : 0 ≤ n) : Int.tmod n k = n % k := Int.tmod_eq_emod_of_nonneg h0
theorem td {n : Int} (k : Int) (h0 : 0 ≤ n) : Int.tdiv n k = n / k := Int.tdiv_eq_ediv_of_nonneg h0
theorem and64 (j : Nat) (hj : j ≤ 63) {n : Int} (h0 : 0 ≤ n) (h1 : n ≤ 9223372036854775807) : Go.bits .and .i64 n (2 ^ j - 1) = n % 2 ^ j :=
  bits_mask .i64 63 (by decide) (fun n a b => by rw [IntKind.wrap_i64]; omega) j hj n h0 (by omega)
theorem shl64 (y : Nat) (h : y ≤ 62) : shl .i64 1 (y : Int) = 2 ^ y := by
  unfold shl
  rw [Int.toNat_natCast, show IntKind.bits .i64 = 64 from rfl, Nat.min_eq_left (by omega), IntKind.wrap_i64]
  have h1 : (2 : Int) ^ y ≤ 2 ^ 62 := by exact_mod_cast Nat.pow_le_pow_right (by decide) h
  have h2 : (0 : Int) < 2 ^ y := Int.pow_pos (by decide)
  omega
theorem shlu64 (y : Nat) (h : y ≤ 63) : shl .u64 1 (y : Int) = 2 ^ y := by
  unfold shl
  rw [Int.toNat_natCast, show IntKind.bits .u64 = 64 from rfl, Nat.min_eq_left (by omega)]
  have h1 : (2 : Int) ^ y ≤ 2 ^ 63 := by exact_mod_cast Nat.pow_le_pow_right (by decide) h
  have h2 : (0 : Int) < 2 ^ y := Int.pow_pos (by decide)
  rw [Int.one_mul, wu64 (by omega) (by omega)]
theorem or64 (i : Nat) (hi : i ≤ 62) {x y : Int} (hx : 0 ≤ x) (hd : x % 2 ^ i = 0) (hx1 : x < 4611686018427387904) (hy : 0 ≤ y) (hy1 : y < 2 ^ i) : Go.bits .or .i64 x y = x + y := by
  have h1 : (2 : Int) ^ i ≤ 2 ^ 62 := by exact_mod_cast Nat.pow_le_pow_right (by decide) hi
  exact bits_join .i64 62 (by decide) (fun n a b => by rw [IntKind.wrap_i64]; omega) i x y hx hd (by omega) hy hy1 (by omega)
theorem eq_list {s t : ByteArray} (h : s = t) : s.toList = t.toList := by rw [h]
/-- 1 + z % 4, as the code has it. -/
theorem size4 {z : Int} (h0 : 0 ≤ z) (h1 : z ≤ 255) : ∃ k : Nat, wrap64 (1 + wrap64 (Int.tmod z 4)) = (k : Int) ∧ 1 ≤ k ∧ k ≤ 4 :=
  ⟨(1 + z % 4).toNat, by rw [tm 4 h0, w64 (n := z % 4) (by omega) (by omega), w64 (by omega) (by omega)]; omega, by omega, by omega⟩
theorem pow8 (k : Nat) : (2 : Int) ^ (8 * k) = 256 ^ k := by rw [Int.pow_mul]; rfl
theorem toL (s : ByteArray) : s.toList = Sp.bl s := ByteArray.toList_eq s
theorem mn_cut (s : ByteArray) (n : Nat) : ∃ p : Nat, mn (s.size : Int) (n : Int) = (p : Int) ∧ p ≤ n ∧ p ≤ s.size ∧ ((s.extract 0 ((p : Int)).toNat).size = p) :=
  ⟨min s.size n, by unfold mn; omega, by omega, by omega, by rw [ByteArray.size_extract]; omega⟩
/-! ### checks of segments -/
section
open Go.Proofs.Ythmpmladneiegaa.Sp
theorem zeroed_snd (p : Int) (s : List UInt8) : (zeroed p s).2 = Sp.has (cov p s) (place p).1 2 := by
  have f : fits 2 0 = true := by decide
  unfold zeroed Sp.set
  by_cases h : Sp.has (cov p s) (place p).1 2 = true
  · rw [if_pos ⟨f, h⟩, h]
  · rw [if_neg (fun x => h x.2), bool_no h]
theorem pcheck_snd {p a b : Int} {s : List UInt8} : (pcheck p a b s).2 = true ↔ (place p).2 = true ∧ Sp.has (cov p s) (place p).1 2 = true := by
  unfold pcheck; rw [zeroed_snd]
  by_cases h : (place p).2 = true ∧ Sp.has (cov p s) (place p).1 2 = true
  · rw [if_pos h]; exact ⟨fun _ => h, fun _ => rfl⟩
  · rw [if_neg h]; exact ⟨fun x => (by cases x), fun x => absurd x h⟩
theorem cov_six (s : List UInt8) : cov 6 s = s := by unfold cov; rw [if_neg (fun h => absurd h.1 (by decide))]
theorem pverify_nine (p a b : Int) (s : List UInt8) : (pverify p a b s == 9) = !(place p).2 := by
  unfold pverify
  by_cases hp : (place p).2 = true
  · rw [if_pos hp, hp]; (repeat' split) <;> rfl
  · rw [if_neg hp, bool_no hp]; rfl
/-- a word set at an even place -/
def put2 (l : List UInt8) (k : Nat) (n : Int) : List UInt8 := l.take k ++ beBytes 2 n ++ l.drop (k + 2)
theorem put2_length {l : List UInt8} {k : Nat} {n : Int} (h : k + 2 ≤ l.length) : (put2 l k n).length = l.length := by
  unfold put2; rw [List.length_append, List.length_append, List.length_take, List.length_drop, beBytes_length]; omega
theorem set_put2 {l : List UInt8} {k : Nat} {n : Int} (h : k + 2 ≤ l.length) (h0 : 0 ≤ n) (h1 : n ≤ 65535) : Sp.set l (k : Int) 2 n = (put2 l k n, true) := by
  rw [set_yes (fits2.2 ⟨h0, h1⟩) (has_iff.2 ⟨by decide, by decide, by omega, by omega⟩)]
  unfold put2
  rw [Int.toNat_natCast, show ((k : Int) + 2).toNat = k + 2 by omega]; rfl
theorem wsum_put2 {l : List UInt8} {k : Nat} {n : Int} (hk : k % 2 = 0) (h : k + 2 ≤ l.length) (h0 : 0 ≤ n) (h1 : n ≤ 65535) : wsum (wl (put2 l k n)) = wsum (wl (l.take k)) + n + wsum (wl (l.drop (k + 2))) := by
  have e : (l.take k).length = k := by rw [List.length_take]; omega
  unfold put2
  rw [wsum_even _ _ (by rw [List.length_append, e, beBytes_length]; omega), wsum_even _ _ (by rw [e]; exact hk), wsum_be2]
  omega
theorem put2_put2 {l : List UInt8} {k : Nat} {m n : Int} (h : k + 2 ≤ l.length) : put2 (put2 l k m) k n = put2 l k n := by
  have e : (l.take k).length = k := by rw [List.length_take]; omega
  unfold put2
  rw [List.append_assoc (l.take k) (beBytes 2 m), List.take_left' e, List.append_assoc (l.take k) (beBytes 2 n), List.append_assoc (l.take k) (beBytes 2 n)]
  congr 2
  rw [← List.append_assoc, List.drop_left' (by rw [List.length_append, e, beBytes_length])]
theorem put2_take {l : List UInt8} {k : Nat} {n : Int} (h : k + 2 ≤ l.length) : (put2 l k n).take k = l.take k := by
  have e : (l.take k).length = k := by rw [List.length_take]; omega
  unfold put2; rw [List.append_assoc, List.take_left' e]
theorem put2_drop {l : List UInt8} {k : Nat} {n : Int} (h : k + 2 ≤ l.length) : (put2 l k n).drop (k + 2) = l.drop (k + 2) := by
  have e : (l.take k).length = k := by rw [List.length_take]; omega
  unfold put2; rw [List.drop_left' (by rw [List.length_append, e, beBytes_length])]
theorem put2_mid {l : List UInt8} {k : Nat} {n : Int} (h : k + 2 ≤ l.length) : ((put2 l k n).drop k).take 2 = beBytes 2 n := by
  have e : (l.take k).length = k := by rw [List.length_take]; omega
  unfold put2; rw [List.append_assoc, List.drop_left' e, List.take_left' (by rw [beBytes_length])]
theorem put2_bytes {l : List UInt8} {k : Nat} {n : Int} (h : k + 2 ≤ l.length) : bt (lb (put2 l k n)) (k : Int) = n / 256 % 256 ∧ bt (lb (put2 l k n)) ((k : Int) + 1) = n % 256 := by
  have e : (l.take k).length = k := by rw [List.length_take]; omega
  have hl := put2_length (n := n) h
  have g : ∀ i (h1 : i < (put2 l k n).length), k ≤ i → (h2 : i - k < (beBytes 2 n ++ l.drop (k + 2)).length) → (put2 l k n)[i]'h1 = (beBytes 2 n ++ l.drop (k + 2))[i - k]'h2 := by
    intro i h1 hi h2
    unfold put2
    simp only [List.append_assoc]
    rw [List.getElem_append_right (by omega)]
    congr 1; omega
  have hb : ∀ i : Nat, k ≤ i → i < k + 2 → (h2 : i - k < (beBytes 2 n ++ l.drop (k + 2)).length) → bt (lb (put2 l k n)) (i : Int) = (((beBytes 2 n ++ l.drop (k + 2))[i - k]'h2).toNat : Int) := by
    intro i hi h1 h2
    rw [← g i (by omega) hi h2]
    have hz : ((i : Int)).toNat < (lb (put2 l k n)).size := by rw [lb_size]; omega
    unfold bt; rw [dif_pos hz]; rfl
  have b0 := hb k (by omega) (by omega) (by rw [List.length_append, beBytes_length]; omega)
  have b1 := hb (k + 1) (by omega) (by omega) (by rw [List.length_append, beBytes_length]; omega)
  simp only [Nat.sub_self, show k + 1 - k = 1 by omega] at b0 b1
  refine ⟨b0.trans ?_, Eq.trans (by rw [show ((k : Int) + 1) = ((k + 1 : Nat) : Int) by omega]) (b1.trans ?_)⟩
  · show (((UInt8.ofNat (n / 256 % 256).toNat).toNat : Nat) : Int) = _
    exact ofNat_mod _
  · show (((UInt8.ofNat (n % 256).toNat).toNat : Nat) : Int) = _
    exact ofNat_mod _
theorem word_bytes {l : List UInt8} {k : Nat} {n : Int} (h : k + 2 ≤ l.length) (h0 : 0 ≤ n) (h1 : n ≤ 65535) :
    Go.bits .or .i64 (wrap64 (wrap64 (bt (lb (put2 l k n)) (k : Int)) * 256)) (wrap64 (bt (lb (put2 l k n)) ((k : Int) + 1))) = n := by
  have hb := put2_bytes (n := n) h
  rw [hb.1, hb.2, w64 (n := n / 256 % 256) (by omega) (by omega), w64 (n := n / 256 % 256 * 256) (by omega) (by omega), w64 (n := n % 256) (by omega) (by omega), or64 8 (by decide) (by omega) (by omega) (by omega) (by omega) (by omega)]
  omega
theorem psum_put2 {p a b : Int} {l : List UInt8} {k : Nat} {n : Int} (hk : k % 2 = 0) (h : k + 2 ≤ l.length) (h0 : 0 ≤ n) (h1 : n ≤ 65535) :
    psum p a b (put2 l k n) = fold16 (hsum p a b l.length + (wsum (wl (l.take k)) + wsum (wl (l.drop (k + 2)))) + n) := by
  unfold psum
  rw [put2_length h, wsum_put2 hk h h0 h1]
  congr 1; omega
theorem psum_filled {p a b : Int} {l : List UInt8} {k : Nat} (hp : (place p).2 = true) (ha : 0 ≤ a ∧ a ≤ 4294967295) (hb : 0 ≤ b ∧ b ≤ 4294967295) (hk : k % 2 = 0) (h : k + 2 ≤ l.length) :
    psum p a b (put2 l k (pnum p a b (put2 l k 0))) = 65535 := by
  have hn := pnum_bounds (s := put2 l k 0) hp ha hb
  have hh := hsum_bounds (n := (l.length : Int)) hp ha hb
  have w1 := (wsum_bounds (wl (l.take k))).1
  have w2 := (wsum_bounds (wl (l.drop (k + 2)))).1
  rw [psum_put2 hk h hn.1 hn.2]
  unfold pnum
  rw [psum_put2 hk h (by decide) (by decide)]
  unfold fold16
  (repeat' split) <;> omega
end
/-! ### one byte another one -/
section
open Go.Proofs.Ythmpmladneiegaa.Sp Go.Proofs.Ythmpmladneiegaa.Pr
theorem bl_turned (s : ByteArray) (j : Nat) (v : Int) : bl (strOfNums ((numsOf s).set j v)) = (bl s).set j (UInt8.ofNat v.toNat) := by
  show ((numsOf s).set j v).map (fun n => UInt8.ofNat n.toNat) = _
  unfold numsOf
  rw [List.map_set, List.map_map]
  congr 1
  have e : ((fun n : Int => UInt8.ofNat n.toNat) ∘ fun b : UInt8 => (b.toNat : Int)) = id := by
    funext b; simp
  rw [e, List.map_id]; rfl
theorem rd_numsOf (s : ByteArray) (j : Nat) (h : j < (bl s).length) : rd (numsOf s) (j : Int) = (((bl s)[j]).toNat : Int) := by
  have h' : j < s.data.size := by simpa using h
  unfold rd numsOf bl
  rw [Int.toNat_natCast, List.getD_eq_getElem?_getD, List.getElem?_map, List.getElem?_eq_getElem (by simpa using h)]
  rfl
theorem wsum_nil : wsum (wl []) = 0 := rfl
theorem wsum_one (x : UInt8) : wsum (wl [x]) = (x.toNat : Int) * 256 := by
  have e0 : (0 : UInt8).toNat = 0 := rfl
  have e : wl [x] = wl [x, 0] := by rw [wl_two, e0, Nat.add_zero]; rfl
  rw [e, wsum_two, wsum_nil]; show (x.toNat : Int) * 256 + 0 + 0 = _; omega
theorem wsum_set (l : List UInt8) : ∀ (i : Nat) (h : i < l.length) (b : UInt8), wsum (wl (l.set i b)) = wsum (wl l) + ((b.toNat : Int) - ((l[i]'h).toNat : Int)) * (if i % 2 = 0 then 256 else 1) := by
  induction l using wl.induct with
  | case1 => intro i h; simp at h
  | case2 x =>
    intro i h b
    obtain rfl : i = 0 := by simp at h; omega
    show wsum (wl [b]) = wsum (wl [x]) + ((b.toNat : Int) - (x.toNat : Int)) * 256
    rw [wsum_one, wsum_one]; omega
  | case3 x y r ih =>
    intro i h b
    match i, h with
    | 0, h =>
      show wsum (wl (b :: y :: r)) = wsum (wl (x :: y :: r)) + ((b.toNat : Int) - (x.toNat : Int)) * 256
      rw [wsum_two, wsum_two]; omega
    | 1, h =>
      show wsum (wl (x :: b :: r)) = wsum (wl (x :: y :: r)) + ((b.toNat : Int) - (y.toNat : Int)) * 1
      rw [wsum_two, wsum_two]; omega
    | i + 2, h =>
      have h' : i < r.length := by simpa using h
      show wsum (wl (x :: y :: r.set i b)) = wsum (wl (x :: y :: r)) + ((b.toNat : Int) - ((r[i]'h').toNat : Int)) * (if (i + 2) % 2 = 0 then 256 else 1)
      rw [wsum_two, wsum_two, ih i h' b, show (i + 2) % 2 = i % 2 by omega]; omega
theorem bit_all : ∀ x : Fin 256, ∀ k : Fin 8, (Go.bits .xor .u8 (x.val : Int) (shl .u8 1 (k.val : Int)) = (x.val : Int) + 2 ^ k.val ∨ Go.bits .xor .u8 (x.val : Int) (shl .u8 1 (k.val : Int)) = (x.val : Int) - 2 ^ k.val) ∧ 0 ≤ Go.bits .xor .u8 (x.val : Int) (shl .u8 1 (k.val : Int)) ∧ Go.bits .xor .u8 (x.val : Int) (shl .u8 1 (k.val : Int)) ≤ 255 := by decide +kernel
/-- a bit of a byte turned: another number, by less than a word -/
theorem bit_turned {x k : Int} (h0 : 0 ≤ x) (h1 : x ≤ 255) (k0 : 0 ≤ k) (k1 : k ≤ 7) : ∃ v : Int, Go.bits .xor .u8 x (shl .u8 1 k) = v ∧ 0 ≤ v ∧ v ≤ 255 ∧ v ≠ x ∧ v - x ≤ 128 ∧ x - v ≤ 128 := by
  have h := bit_all ⟨x.toNat, by omega⟩ ⟨k.toNat, by omega⟩
  have e1 : ((x.toNat : Nat) : Int) = x := by omega
  have e2 : ((k.toNat : Nat) : Int) = k := by omega
  simp only [e1, e2] at h
  have p0 : (0 : Int) < 2 ^ k.toNat := Int.pow_pos (by decide)
  have p1 : (2 : Int) ^ k.toNat ≤ 2 ^ 7 := by exact_mod_cast Nat.pow_le_pow_right (by decide) (by omega)
  refine ⟨_, rfl, h.2.1, h.2.2, ?_⟩
  rcases h.1 with h | h <;> rw [h] <;> omega
/-- a text whose sum is 65535 has another one with a byte another one -/
theorem sum_turned {l : List UInt8} {i : Nat} (h : i < l.length) {v : Int} (v0 : 0 ≤ v) (v1 : v ≤ 255) (hne : v ≠ ((l[i]'h).toNat : Int)) (hs : sum l = 65535) : sum (l.set i (UInt8.ofNat v.toNat)) ≠ 65535 := by
  have w0 := (wsum_bounds (wl l)).1
  have w1 := (wsum_bounds (wl (l.set i (UInt8.ofNat v.toNat)))).1
  have hb := (l[i]'h).toNat_lt
  have e := wsum_set l i h (UInt8.ofNat v.toNat)
  have ev : ((UInt8.ofNat v.toNat).toNat : Int) = v := by rw [UInt8.toNat_ofNat']; omega
  rw [ev] at e
  unfold sum fold16 at hs ⊢
  by_cases hp : i % 2 = 0
  · rw [if_pos hp] at e
    split at hs <;> split <;> omega
  · rw [if_neg hp] at e
    split at hs <;> split <;> omega
end
end Go.Proofs.Ythmpmladneiegaa.Lem
