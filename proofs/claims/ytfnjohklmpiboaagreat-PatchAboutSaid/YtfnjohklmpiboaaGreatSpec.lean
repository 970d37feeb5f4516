-- trimmed by trims.py
/- Plain words and laws on bytes and numbers, with no program in sight: numbers in bytes, sums of words. -/
set_option linter.unusedVariables false
set_option linter.unusedSimpArgs false
namespace Go.Proofs.YtfnjohklmpiboaaGreat.Sp

/-! ### bytes and lists -/
def bl (s : ByteArray) : List UInt8 := s.data.toList
def lb (l : List UInt8) : ByteArray := ⟨l.toArray⟩
@[simp] theorem bl_lb (l : List UInt8) : bl (lb l) = l := by simp [bl, lb]
@[simp] theorem lb_bl (s : ByteArray) : lb (bl s) = s := by cases s; simp [bl, lb]
theorem bl_inj {s t : ByteArray} (h : bl s = bl t) : s = t := by rw [← lb_bl s, ← lb_bl t, h]
@[simp] theorem bl_length (s : ByteArray) : (bl s).length = s.size := by simp [bl]
@[simp] theorem lb_size (l : List UInt8) : (lb l).size = l.length := by simp [lb, ByteArray.size]
@[simp] theorem bl_append (s t : ByteArray) : bl (s ++ t) = bl s ++ bl t := by simp [bl]
theorem lb_append (s t : List UInt8) : lb s ++ lb t = lb (s ++ t) := bl_inj (by simp)
theorem bl_extract (s : ByteArray) (i j : Nat) : bl (s.extract i j) = ((bl s).take j).drop i := by
  simp only [bl, ByteArray.data_extract, Array.toList_extract, List.extract_eq_take_drop, List.drop_take]
theorem extract_lb (l : List UInt8) (i j : Nat) : (lb l).extract i j = lb ((l.take j).drop i) := bl_inj (by simp [bl_extract])

/-! ### numbers in bytes -/
def beNum (l : List UInt8) : Int := l.foldl (fun n b => n * 256 + (b.toNat : Int)) 0
theorem beNum_snoc (l : List UInt8) (b : UInt8) : beNum (l ++ [b]) = beNum l * 256 + (b.toNat : Int) := by simp [beNum]
theorem snoc_of {l : List UInt8} {n : Nat} (hn : l.length = n + 1) : ∃ m b, l = m ++ [b] ∧ m.length = n := by
  have hne : l ≠ [] := fun h => by rw [h] at hn; simp at hn
  exact ⟨_, _, (List.dropLast_concat_getLast hne).symm, by simp [hn]⟩
theorem beNum_bounds (l : List UInt8) : 0 ≤ beNum l ∧ beNum l < 256 ^ l.length := by
  generalize hn : l.length = n
  induction n generalizing l with
  | zero => obtain rfl := List.eq_nil_of_length_eq_zero hn; simp [beNum]
  | succ n ih =>
    obtain ⟨m, b, rfl, hm⟩ := snoc_of hn
    have := ih m hm
    have hb := b.toNat_lt
    rw [beNum_snoc, Int.pow_succ]
    omega
theorem beNum_small (l : List UInt8) (h : l.length ≤ 4) : 0 ≤ beNum l ∧ beNum l < 4294967296 := by
  have hb := beNum_bounds l
  refine ⟨hb.1, ?_⟩
  have : l.length = 0 ∨ l.length = 1 ∨ l.length = 2 ∨ l.length = 3 ∨ l.length = 4 := by omega
  rcases this with e | e | e | e | e <;> rw [e] at hb <;> omega
theorem take_drop_one (l : List UInt8) (a i : Nat) (h : a + i < l.length) : (l.drop a).take (i + 1) = (l.drop a).take i ++ [l[a + i]] := by
  rw [List.take_succ_eq_append_getElem (by simp; omega), List.getElem_drop]
/-- n's bytes, k of them, the greatest first -/
def beBytes : Nat → Int → List UInt8
  | 0, _ => []
  | k + 1, n => beBytes k (n / 256) ++ [UInt8.ofNat (n % 256).toNat]
@[simp] theorem beBytes_length (k : Nat) : ∀ n, (beBytes k n).length = k := by
  induction k with
  | zero => intro n; rfl
  | succ k ih => intro n; simp [beBytes, ih]
theorem ofNat_mod (n : Int) : ((UInt8.ofNat (n % 256).toNat).toNat : Int) = n % 256 := by
  have : (n % 256).toNat < 256 := by omega
  simp [UInt8.toNat_ofNat']
  omega
theorem beNum_beBytes (k : Nat) : ∀ n, 0 ≤ n → n < 256 ^ k → beNum (beBytes k n) = n := by
  induction k with
  | zero => intro n h0 h1; simp at h1; simp [beBytes, beNum]; omega
  | succ k ih =>
    intro n h0 h1
    rw [beBytes, beNum_snoc, ih _ (by omega) (by rw [Int.pow_succ] at h1; omega), ofNat_mod]
    omega
/-- is there room for sz bytes at `at`? -/
def has (s : List UInt8) (at_ sz : Int) : Bool := decide (1 ≤ sz ∧ sz ≤ 4 ∧ 0 ≤ at_ ∧ at_ + sz ≤ s.length)
def get (s : List UInt8) (at_ sz : Int) : Int × Bool := if has s at_ sz = true then (beNum ((s.drop at_.toNat).take sz.toNat), true) else (0, false)
def fits (sz n : Int) : Bool := decide (1 ≤ sz ∧ sz ≤ 4 ∧ 0 ≤ n ∧ n < 256 ^ sz.toNat)
def put (sz n : Int) : List UInt8 × Bool := if fits sz n = true then (beBytes sz.toNat n, true) else ([], false)
def set (s : List UInt8) (at_ sz n : Int) : List UInt8 × Bool :=
  if fits sz n = true ∧ has s at_ sz = true then (s.take at_.toNat ++ beBytes sz.toNat n ++ s.drop (at_ + sz).toNat, true) else ([], false)theorem put_no {sz n : Int} (h : fits sz n = false) : put sz n = ([], false) := by unfold put; rw [h]; rfl
theorem put_yes {sz n : Int} (h : fits sz n = true) : put sz n = (beBytes sz.toNat n, true) := by unfold put; rw [h]; rfl
theorem fits_iff {sz n : Int} : fits sz n = true ↔ 1 ≤ sz ∧ sz ≤ 4 ∧ 0 ≤ n ∧ n < 256 ^ sz.toNat := by unfold fits; exact decide_eq_true_iff
theorem has_iff {s : List UInt8} {at_ sz : Int} : has s at_ sz = true ↔ 1 ≤ sz ∧ sz ≤ 4 ∧ 0 ≤ at_ ∧ at_ + sz ≤ s.length := by unfold has; exact decide_eq_true_iff
theorem get_no {s : List UInt8} {a b : Int} (h : has s a b = false) : get s a b = (0, false) := by unfold get; rw [h]; rfl
theorem get_yes {s : List UInt8} {a b : Int} (h : has s a b = true) : get s a b = (beNum ((s.drop a.toNat).take b.toNat), true) := by unfold get; rw [if_pos h]
theorem has_no {s : List UInt8} {a b : Int} (h : ¬ (1 ≤ b ∧ b ≤ 4 ∧ 0 ≤ a ∧ a + b ≤ s.length)) : has s a b = false := decide_eq_false h
theorem set_no {s : List UInt8} {a b c : Int} (h : ¬ (fits b c = true ∧ has s a b = true)) : set s a b c = ([], false) := by unfold set; rw [if_neg h]
theorem set_yes {s : List UInt8} {a b c : Int} (h : fits b c = true) (h' : has s a b = true) : set s a b c = (s.take a.toNat ++ beBytes b.toNat c ++ s.drop (a + b).toNat, true) := by unfold set; rw [if_pos ⟨h, h'⟩]
theorem beBytes_add (a : Nat) : ∀ (b : Nat) (n : Int), beBytes (a + b) n = beBytes a (n / 256 ^ b) ++ beBytes b n := by
  intro b
  induction b with
  | zero => intro n; simp [beBytes]
  | succ b ih =>
    intro n
    rw [← Nat.add_assoc, beBytes, ih, List.append_assoc, beBytes, Int.ediv_ediv_of_nonneg (by decide), Int.pow_succ, Int.mul_comm]
theorem get_snd (s : List UInt8) (a b : Int) : (get s a b).2 = has s a b := by unfold get; split <;> simp_all
theorem put_snd (a b : Int) : (put a b).2 = fits a b := by unfold put; split <;> simp_all
theorem bool_no {b : Bool} (h : ¬ b = true) : b = false := by cases b <;> simp_all

/-! ### sums of words -/
def wl : List UInt8 → List UInt16
  | [] => []
  | [a] => [UInt16.ofNat (a.toNat * 256)]
  | a :: b :: r => UInt16.ofNat (a.toNat * 256 + b.toNat) :: wl r
theorem wl_length (l : List UInt8) : (wl l).length = (l.length + 1) / 2 := by
  induction l using wl.induct with
  | case1 => rfl
  | case2 a => simp [wl]
  | case3 a b r ih => simp [wl, ih]; omega
theorem wl_get_two (l : List UInt8) : ∀ k (h : 2 * k + 1 < l.length), (wl l)[k]? = some (UInt16.ofNat (l[2 * k].toNat * 256 + l[2 * k + 1].toNat)) := by
  induction l using wl.induct with
  | case1 => intro k h; simp at h
  | case2 a => intro k h; simp at h
  | case3 a b r ih =>
    intro k h
    cases k with
    | zero => simp [wl]
    | succ k =>
      have := ih k (by simp at h; omega)
      simp only [wl, List.getElem?_cons_succ, this]
      have e1 : 2 * (k + 1) = 2 * k + 1 + 1 := by omega
      simp [e1]
theorem wl_get_one (l : List UInt8) : ∀ k (h : 2 * k < l.length), ¬ 2 * k + 1 < l.length → (wl l)[k]? = some (UInt16.ofNat (l[2 * k].toNat * 256)) := by
  induction l using wl.induct with
  | case1 => intro k h; simp at h
  | case2 a => intro k h; obtain rfl : k = 0 := (by simp at h; omega); intro; simp [wl]
  | case3 a b r ih =>
    intro k h
    cases k with
    | zero => simp
    | succ k =>
      intro h2
      have := ih k (by simp at h; omega) (by simp at h2; omega)
      simp only [wl, List.getElem?_cons_succ, this]
      have e1 : 2 * (k + 1) = 2 * k + 1 + 1 := by omega
      simp [e1]
def wsum (l : List UInt16) : Int := l.foldl (fun n x => n + (x.toNat : Int)) 0
theorem wsum_snoc (l : List UInt16) (x : UInt16) : wsum (l ++ [x]) = wsum l + (x.toNat : Int) := by simp [wsum]
theorem wsum_from (l : List UInt16) : ∀ n : Int, l.foldl (fun n x => n + (x.toNat : Int)) n = n + wsum l := by
  induction l with
  | nil => intro n; simp [wsum]
  | cons a l ih => intro n; simp only [wsum, List.foldl_cons]; rw [ih, ih (0 + _)]; omega
theorem wsum_cons (x : UInt16) (l : List UInt16) : wsum (x :: l) = (x.toNat : Int) + wsum l := by
  show List.foldl _ _ _ = _
  rw [List.foldl_cons, wsum_from]; omega
theorem wsum_bounds (l : List UInt16) : 0 ≤ wsum l ∧ wsum l ≤ 65535 * (l.length : Int) := by
  induction l with
  | nil => simp [wsum]
  | cons a l ih => have := a.toNat_lt; rw [wsum_cons, List.length_cons]; omega
theorem wsum_append (a b : List UInt16) : wsum (a ++ b) = wsum a + wsum b := by
  induction a with
  | nil => simp [wsum]
  | cons x a ih => rw [List.cons_append, wsum_cons, wsum_cons, ih]; omega
def fold16 (n : Int) : Int := if n = 0 then 0 else (n - 1) % 65535 + 1
theorem fold16_small {n : Int} (h0 : 0 ≤ n) (h : n ≤ 65535) : fold16 n = n := by unfold fold16; split <;> omega
theorem fold16_step {n : Int} (_h : 65535 < n) : fold16 (n % 65536 + n / 65536) = fold16 n := by
  unfold fold16; rw [if_neg (by omega), if_neg (by omega)]; omega
theorem fold16_bounds {n : Int} (h : 0 ≤ n) : 0 ≤ fold16 n ∧ fold16 n ≤ 65535 := by unfold fold16; split <;> omega
def join (l : List Int) : Int := fold16 l.sum
def sum (l : List UInt8) : Int := fold16 (wsum (wl l))
def check (l : List UInt8) : Int := 65535 - sum l
def update (c o n : Int) : Int := 65535 - fold16 ((65535 - c) + (65535 - o) + n)
def update32 (c o n : Int) : Int := update (update c (o / 65536) (n / 65536)) (o % 65536) (n % 65536)
theorem wl_append (a b : List UInt8) (h : a.length % 2 = 0) : wl (a ++ b) = wl a ++ wl b := by
  induction a using wl.induct with
  | case1 => rfl
  | case2 x => simp at h
  | case3 x y r ih => simp only [List.cons_append, wl]; rw [ih (by simp at h; omega)]
theorem wl_two (x y : UInt8) (r : List UInt8) : wl (x :: y :: r) = UInt16.ofNat (x.toNat * 256 + y.toNat) :: wl r := rfl
theorem word_toNat (x y : UInt8) : ((UInt16.ofNat (x.toNat * 256 + y.toNat)).toNat : Int) = (x.toNat : Int) * 256 + y.toNat := by
  have := x.toNat_lt; have := y.toNat_lt
  rw [UInt16.toNat_ofNat']; omega
theorem wsum_two (x y : UInt8) (r : List UInt8) : wsum (wl (x :: y :: r)) = (x.toNat : Int) * 256 + y.toNat + wsum (wl r) := by
  rw [wl_two, wsum_cons, word_toNat]
theorem wsum_even (a b : List UInt8) (h : a.length % 2 = 0) : wsum (wl (a ++ b)) = wsum (wl a) + wsum (wl b) := by rw [wl_append a b h, wsum_append]
theorem fold16_add {a b : Int} (ha : 0 ≤ a) (hb : 0 ≤ b) : fold16 (fold16 a + fold16 b) = fold16 (a + b) := by unfold fold16; (repeat' split) <;> omega
theorem sum_bounds (l : List UInt8) : 0 ≤ sum l ∧ sum l ≤ 65535 := fold16_bounds (wsum_bounds _).1
/-- the two bytes of a word -/
def two (n : Int) : List UInt8 := [UInt8.ofNat (n / 256 % 256).toNat, UInt8.ofNat (n % 256).toNat]
theorem wsum_word {n : Int} (h0 : 0 ≤ n) (h1 : n ≤ 65535) : wsum (wl (two n)) = n := by
  unfold two
  rw [wsum_two, ofNat_mod, ofNat_mod]
  show _ + wsum [] = _
  simp only [wsum, List.foldl_nil]
  omega
@[simp] theorem two_length (n : Int) : (two n).length = 2 := rfl
/-! ### UDP -/
theorem fits2 {n : Int} : fits 2 n = true ↔ 0 ≤ n ∧ n ≤ 65535 := by rw [fits_iff]; simp; omega
theorem fits2_b {n : Int} : fits 2 n = decide (0 ≤ n ∧ n ≤ 65535) := by
  unfold fits; exact decide_eq_decide.2 (by simp; omega)
def udpBuild (a b : Int) (body : List UInt8) : List UInt8 × Int :=
  if fits 2 a = true ∧ fits 2 b = true then
    if 8 + (body.length : Int) > 1500 then ([], 18) else (beBytes 2 a ++ beBytes 2 b ++ beBytes 2 (8 + (body.length : Int)) ++ [0, 0] ++ body, 0)
  else ([], 1)
def udpLen (s : List UInt8) : Int := beNum ((s.drop 4).take 2)
def udpSize (s : List UInt8) : Int × Bool := if (s.length : Int) < 8 then (0, false) else if udpLen s < 8 ∨ udpLen s > s.length then (0, false) else (udpLen s, true)
def udpParse (s : List UInt8) : Int × Int × List UInt8 × Int :=
  if (s.length : Int) < 8 then (0, 0, [], 2)
  else if udpLen s < 8 ∨ udpLen s > s.length then (0, 0, [], 5)
  else (beNum (s.take 2), beNum ((s.drop 2).take 2), (s.take (udpLen s).toNat).drop 8, 0)
theorem get2 (s : List UInt8) (a : Nat) (h : a + 2 ≤ s.length) : get s a 2 = (beNum ((s.drop a).take 2), true) := by
  rw [get_yes (has_iff.2 ⟨by omega, by omega, by omega, by omega⟩), Int.toNat_natCast]; rfl
theorem get1 (s : List UInt8) (a : Nat) (h : a + 1 ≤ s.length) : get s a 1 = (beNum ((s.drop a).take 1), true) := by
  rw [get_yes (has_iff.2 ⟨by omega, by omega, by omega, by omega⟩), Int.toNat_natCast]; rfl
theorem udpLen_bounds (s : List UInt8) : 0 ≤ udpLen s ∧ udpLen s < 4294967296 := beNum_small _ (by rw [List.length_take]; omega)
def udpHead (a b n : Int) : List UInt8 := beBytes 2 a ++ beBytes 2 b ++ beBytes 2 n ++ [0, 0]
@[simp] theorem udpHead_length (a b n : Int) : (udpHead a b n).length = 8 := rfl
theorem udpBuild_ok {a b : Int} {l : List UInt8} (ha : fits 2 a = true) (hb : fits 2 b = true) (h : l.length ≤ 1492) : udpBuild a b l = (udpHead a b (8 + (l.length : Int)) ++ l, 0) := by
  unfold udpBuild; rw [if_pos ⟨ha, hb⟩, if_neg (by omega)]; rfl
theorem beNum2 {n : Int} (h0 : 0 ≤ n) (h1 : n ≤ 65535) : beNum (beBytes 2 n) = n := beNum_beBytes 2 n h0 (by omega)
/-! ### checks of segments -/
def place (p : Int) : Int × Bool := if p = 6 then (16, true) else if p = 17 then (6, true) else (0, false)
theorem place_cases (p : Int) : (p = 6 ∧ place p = (16, true)) ∨ (p = 17 ∧ place p = (6, true)) ∨ (p ≠ 6 ∧ p ≠ 17 ∧ place p = (0, false)) := by
  unfold place
  by_cases h1 : p = 6
  · exact .inl ⟨h1, by rw [if_pos h1]⟩
  · by_cases h2 : p = 17
    · exact .inr (.inl ⟨h2, by rw [if_neg h1, if_pos h2]⟩)
    · exact .inr (.inr ⟨h1, h2, by rw [if_neg h1, if_neg h2]⟩)
/-- what is covered of a segment -/
def cov (p : Int) (s : List UInt8) : List UInt8 := if p = 17 ∧ (udpSize s).2 = true then s.take (udpSize s).1.toNat else s
theorem cov_length (p : Int) (s : List UInt8) : (cov p s).length ≤ s.length := by
  unfold cov; split
  · rw [List.length_take]; omega
  · exact Nat.le_refl _
/-- the sum of whose a segment is -/
def hsum (p a b n : Int) : Int := a / 65536 + a % 65536 + b / 65536 + b % 65536 + p + n % 65536
def psum (p a b : Int) (s : List UInt8) : Int := fold16 (hsum p a b s.length + wsum (wl s))
def zeroed (p : Int) (s : List UInt8) : List UInt8 × Bool := set (cov p s) (place p).1 2 0
def pnum (p a b : Int) (s : List UInt8) : Int := if p = 17 ∧ 65535 - psum p a b s = 0 then 65535 else 65535 - psum p a b s
def pcheck (p a b : Int) (s : List UInt8) : Int × Bool := if (place p).2 = true ∧ (zeroed p s).2 = true then (pnum p a b (zeroed p s).1, true) else (0, false)
def pfill (p a b : Int) (s : List UInt8) : List UInt8 × Bool := if (pcheck p a b s).2 = true then set s (place p).1 2 (pcheck p a b s).1 else ([], false)
def pverify (p a b : Int) (s : List UInt8) : Int :=
  if (place p).2 = true then
    if (pcheck p a b s).2 = true then
      if (p = 17 ∧ (get s (place p).1 2).1 = 0) ∨ psum p a b (cov p s) = 65535 then 0 else 7
    else 2
  else 9
theorem set_length (s : List UInt8) (a b c : Int) (h : (set s a b c).2 = true) : (set s a b c).1.length = s.length := by
  unfold set at h ⊢
  split at h
  case isFalse => cases h
  case isTrue hh =>
    rw [if_pos hh]
    have hf := has_iff.1 hh.2
    simp only [List.length_append, List.length_take, List.length_drop, beBytes_length]
    omega
theorem set_le (s : List UInt8) (a b c : Int) : (set s a b c).1.length ≤ s.length := by
  by_cases h : (set s a b c).2 = true
  · rw [set_length s a b c h]; exact Nat.le_refl _
  · unfold set at h ⊢
    split at h
    case isTrue => exact absurd rfl h
    case isFalse hh => rw [if_neg hh]; exact Nat.zero_le _
theorem hsum_bounds {p a b n : Int} (hp : (place p).2 = true) (ha : 0 ≤ a ∧ a ≤ 4294967295) (hb : 0 ≤ b ∧ b ≤ 4294967295) : 0 ≤ hsum p a b n ∧ hsum p a b n ≤ 393210 := by
  unfold hsum
  rcases place_cases p with ⟨h, _⟩ | ⟨h, _⟩ | ⟨_, _, h⟩
  · omega
  · omega
  · rw [h] at hp; cases hp
theorem psum_bounds {p a b : Int} {s : List UInt8} (hp : (place p).2 = true) (ha : 0 ≤ a ∧ a ≤ 4294967295) (hb : 0 ≤ b ∧ b ≤ 4294967295) : 0 ≤ psum p a b s ∧ psum p a b s ≤ 65535 :=
  fold16_bounds (by have := hsum_bounds (n := s.length) hp ha hb; have := wsum_bounds (wl s); omega)
theorem pnum_bounds {p a b : Int} {s : List UInt8} (hp : (place p).2 = true) (ha : 0 ≤ a ∧ a ≤ 4294967295) (hb : 0 ≤ b ∧ b ≤ 4294967295) : 0 ≤ pnum p a b s ∧ pnum p a b s ≤ 65535 := by
  have := psum_bounds (s := s) hp ha hb
  unfold pnum; split <;> omega
theorem pcheck_bounds {p a b : Int} {s : List UInt8} (ha : 0 ≤ a ∧ a ≤ 4294967295) (hb : 0 ≤ b ∧ b ≤ 4294967295) : 0 ≤ (pcheck p a b s).1 ∧ (pcheck p a b s).1 ≤ 65535 := by
  unfold pcheck; split
  case isTrue h => exact pnum_bounds h.1 ha hb
  case isFalse => exact ⟨by decide, by decide⟩
theorem beBytes2_two (n : Int) : beBytes 2 n = two n := rfl
theorem two_mod (n : Int) : two n = two (n % 65536) := by
  unfold two
  have e1 : n % 65536 / 256 % 256 = n / 256 % 256 := by omega
  have e2 : n % 65536 % 256 = n % 256 := by omega
  rw [e1, e2]
theorem wsum_be2 (n : Int) : wsum (wl (beBytes 2 n)) = n % 65536 := by
  rw [beBytes2_two, two_mod, wsum_word (by omega) (by omega)]
theorem wsum_be4 {n : Int} (h0 : 0 ≤ n) (h1 : n ≤ 4294967295) : wsum (wl (beBytes 4 n)) = n / 65536 + n % 65536 := by
  have e : beBytes 4 n = beBytes 2 (n / 65536) ++ beBytes 2 n := beBytes_add 2 2 n
  rw [e, wsum_even _ _ (by rw [beBytes_length]), wsum_be2, wsum_be2]
  omega
/-- what the document sums ahead of the covered part -/
def phead (p a b n : Int) : List UInt8 := beBytes 4 a ++ beBytes 4 b ++ [0] ++ beBytes 1 p ++ beBytes 2 (n % 65536)
@[simp] theorem phead_length (p a b n : Int) : (phead p a b n).length = 12 := rfl
theorem phead_sum {p a b n : Int} (hp : (place p).2 = true) (ha : 0 ≤ a ∧ a ≤ 4294967295) (hb : 0 ≤ b ∧ b ≤ 4294967295) : wsum (wl (phead p a b n)) = hsum p a b n := by
  have e : phead p a b n = beBytes 4 a ++ (beBytes 4 b ++ ([0, UInt8.ofNat (p % 256).toNat] ++ beBytes 2 (n % 65536))) := rfl
  have e2 : wsum (wl [0, UInt8.ofNat (p % 256).toNat]) = p % 256 := by
    rw [wsum_two, ofNat_mod]; show (0 : Int) * 256 + p % 256 + 0 = _; omega
  have hp' : p % 256 = p := by
    rcases place_cases p with ⟨h, _⟩ | ⟨h, _⟩ | ⟨_, _, h⟩
    · omega
    · omega
    · rw [h] at hp; cases hp
  rw [e, wsum_even _ _ (by rw [beBytes_length]), wsum_even _ _ (by rw [beBytes_length]), wsum_even _ _ (by simp), wsum_be4 ha.1 ha.2, wsum_be4 hb.1 hb.2, wsum_be2, e2, hp']
  unfold hsum
  omega
theorem phead_psum {p a b : Int} {s : List UInt8} {n : Int} (hn : n = s.length) (hp : (place p).2 = true) (ha : 0 ≤ a ∧ a ≤ 4294967295) (hb : 0 ≤ b ∧ b ≤ 4294967295) : sum (phead p a b n ++ s) = psum p a b s := by
  unfold sum psum
  rw [wsum_even _ _ (by rw [phead_length]), phead_sum hp ha hb, hn]
/-! ### ICMP -/
def icmpBytes (t c r : Int) (b : List UInt8) (ck : Int) : List UInt8 × Bool :=
  if fits 1 t = true ∧ fits 1 c = true then (beBytes 1 t ++ beBytes 1 c ++ beBytes 2 ck ++ beBytes 4 r ++ b, true) else ([], false)
def icmpBuild (t c r : Int) (b : List UInt8) : List UInt8 × Int :=
  if fits 1 t = true ∧ fits 1 c = true then
    if 8 + (b.length : Int) > 1500 then ([], 18) else ((icmpBytes t c r b (check (icmpBytes t c r b 0).1)).1, 0)
  else ([], 1)
theorem icmpBytes_yes {t c r : Int} {b : List UInt8} {ck : Int} (h : fits 1 t = true ∧ fits 1 c = true) : icmpBytes t c r b ck = (beBytes 1 t ++ beBytes 1 c ++ beBytes 2 ck ++ beBytes 4 r ++ b, true) := by unfold icmpBytes; rw [if_pos h]
theorem icmpBytes_length {t c r : Int} {b : List UInt8} {ck : Int} (h : fits 1 t = true ∧ fits 1 c = true) : (icmpBytes t c r b ck).1.length = 8 + b.length := by
  rw [icmpBytes_yes h]; simp only [List.length_append, beBytes_length]
theorem check_bounds (l : List UInt8) : 0 ≤ check l ∧ check l ≤ 65535 := by have := sum_bounds l; unfold check; omega
theorem fits1 {n : Int} : fits 1 n = true ↔ 0 ≤ n ∧ n ≤ 255 := by rw [fits_iff]; simp; omega
/-! ### options (of TCP, of IPv4) -/
def opts : Nat → List UInt8 → Bool
  | 0, _ => true
  | _ + 1, [] => true
  | k + 1, x :: r => if x = 0 then true else if x = 1 then opts k r else
      match r with
      | [] => false
      | n :: _ => if n.toNat < 2 ∨ n.toNat > r.length + 1 then false else opts k ((x :: r).drop n.toNat)
def optsOk (l : List UInt8) : Bool := opts l.length l
theorem opts_fuel : ∀ (m k : Nat) (l : List UInt8), l.length ≤ m → l.length ≤ k → opts k l = opts m l := by
  intro m
  induction m with
  | zero =>
    intro k l h1 h2
    have h0 : l.length = 0 := by omega
    obtain rfl := List.eq_nil_of_length_eq_zero h0
    cases k <;> rfl
  | succ m ih =>
    intro k l h1 h2
    match k, l with
    | 0, [] => rfl
    | k + 1, [] => rfl
    | 0, x :: r => simp at h2
    | k + 1, x :: r =>
      simp only [List.length_cons] at h1 h2
      unfold opts
      by_cases h0 : x = 0
      · rw [if_pos h0, if_pos h0]
      · rw [if_neg h0, if_neg h0]
        by_cases h1' : x = 1
        · rw [if_pos h1', if_pos h1', ih k r (by omega) (by omega)]
        · rw [if_neg h1', if_neg h1']
          match r with
          | [] => rfl
          | n :: q =>
            simp only
            by_cases hn : n.toNat < 2 ∨ n.toNat > (n :: q).length + 1
            · rw [if_pos hn, if_pos hn]
            · rw [if_neg hn, if_neg hn]
              have hl : ((x :: n :: q).drop n.toNat).length ≤ q.length := by
                rw [List.length_drop, List.length_cons, List.length_cons]; omega
              simp only [List.length_cons] at h1 h2
              exact ih k _ (by omega) (by omega)
theorem optsOk_end (r : List UInt8) : optsOk (0 :: r) = true := rfl
theorem optsOk_one (r : List UInt8) : optsOk (1 :: r) = optsOk r := rfl
theorem optsOk_bare {x : UInt8} (h0 : x ≠ 0) (h1 : x ≠ 1) : optsOk [x] = false := by
  show opts (0 + 1) [x] = false
  rw [opts, if_neg h0, if_neg h1]
theorem optsOk_bad {x n : UInt8} {r : List UInt8} (h0 : x ≠ 0) (h1 : x ≠ 1) (h : n.toNat < 2 ∨ n.toNat > r.length + 2) : optsOk (x :: n :: r) = false := by
  show opts ((n :: r).length + 1) (x :: n :: r) = false
  unfold opts; rw [if_neg h0, if_neg h1]
  simp only
  rw [if_pos (by rw [List.length_cons]; omega)]
theorem optsOk_step {x n : UInt8} {r : List UInt8} (h0 : x ≠ 0) (h1 : x ≠ 1) (h : ¬ (n.toNat < 2 ∨ n.toNat > r.length + 2)) : optsOk (x :: n :: r) = optsOk ((x :: n :: r).drop n.toNat) := by
  show opts ((n :: r).length + 1) (x :: n :: r) = _
  rw [opts]
  rw [if_neg h0, if_neg h1]
  rw [if_neg (by rw [List.length_cons]; omega)]
  exact opts_fuel _ _ _ (Nat.le_refl _) (by rw [List.length_drop, List.length_cons, List.length_cons]; omega)
/-- what stands at a place decides -/
theorem opts_at (l : List UInt8) (i : Nat) (h : i < l.length) :
    optsOk (l.drop i) = if l[i] = 0 then true else if l[i] = 1 then optsOk (l.drop (i + 1)) else
      if h2 : i + 1 < l.length then (if (l[i + 1]).toNat < 2 ∨ i + (l[i + 1]).toNat > l.length then false else optsOk (l.drop (i + (l[i + 1]).toNat))) else false := by
  rw [List.drop_eq_getElem_cons h]
  by_cases h0 : l[i] = 0
  · rw [if_pos h0, h0, optsOk_end]
  · rw [if_neg h0]
    by_cases h1 : l[i] = 1
    · rw [if_pos h1, h1, optsOk_one]
    · rw [if_neg h1]
      by_cases h2 : i + 1 < l.length
      · rw [dif_pos h2, List.drop_eq_getElem_cons h2]
        have hl : (l.drop (i + 1 + 1)).length = l.length - (i + 2) := by rw [List.length_drop]
        by_cases h3 : (l[i + 1]).toNat < 2 ∨ i + (l[i + 1]).toNat > l.length
        · rw [if_pos h3, optsOk_bad h0 h1 (by rw [hl]; omega)]
        · rw [if_neg h3, optsOk_step h0 h1 (by rw [hl]; omega), ← List.drop_eq_getElem_cons h2, ← List.drop_eq_getElem_cons h, List.drop_drop]
      · rw [dif_neg h2]
        have : l.drop (i + 1) = [] := List.drop_eq_nil_of_le (by omega)
        rw [this, optsOk_bare h0 h1]
/-! ### TCP -/
structure TcpHead where
  sp : Int
  dp : Int
  seq : Int
  ack : Int
  flags : Int
  win : Int
  urg : Int
  opts : List UInt8
  body : List UInt8
  e : Int
def tcpNone (e : Int) : TcpHead := ⟨0, 0, 0, 0, 0, 0, 0, [], [], e⟩
def tcpSize (s : List UInt8) : Nat := if h : 12 < s.length then 4 * ((s[12]'h).toNat / 16) else 0
def tcpParse (s : List UInt8) : TcpHead :=
  if _ : s.length < 20 then tcpNone 2
  else if tcpSize s < 20 ∨ tcpSize s > s.length then tcpNone 4
  else if optsOk ((s.take (tcpSize s)).drop 20) = true then
    ⟨(get s 0 2).1, (get s 2 2).1, (get s 4 4).1, (get s 8 4).1, (get s 12 2).1 % 4096, (get s 14 2).1, (get s 18 2).1, (s.take (tcpSize s)).drop 20, s.drop (tcpSize s), 0⟩
  else tcpNone 6
def tcpRight (sp dp fl wi ur : Int) (o : List UInt8) : Bool := fits 2 sp && fits 2 dp && fits 2 wi && fits 2 ur && decide (0 ≤ fl ∧ fl ≤ 4095) && decide (o.length ≤ 40 ∧ o.length % 4 = 0) && optsOk o
theorem tcpRight_iff {sp dp fl wi ur : Int} {o : List UInt8} : tcpRight sp dp fl wi ur o = true ↔ fits 2 sp = true ∧ fits 2 dp = true ∧ fits 2 wi = true ∧ fits 2 ur = true ∧ (0 ≤ fl ∧ fl ≤ 4095) ∧ (o.length ≤ 40 ∧ o.length % 4 = 0) ∧ optsOk o = true := by
  unfold tcpRight; simp only [Bool.and_eq_true, decide_eq_true_eq]
  constructor
  · rintro ⟨⟨⟨⟨⟨⟨a, b⟩, c⟩, d⟩, e⟩, f⟩, g⟩; exact ⟨a, b, c, d, e, f, g⟩
  · rintro ⟨a, b, c, d, e, f, g⟩; exact ⟨⟨⟨⟨⟨⟨a, b⟩, c⟩, d⟩, e⟩, f⟩, g⟩
def tcpHead (sp dp sq ak fl wi ur : Int) (o : List UInt8) : List UInt8 := beBytes 2 sp ++ beBytes 2 dp ++ beBytes 4 sq ++ beBytes 4 ak ++ beBytes 2 (4096 * ((20 + (o.length : Int)) / 4) + fl) ++ beBytes 2 wi ++ [0, 0] ++ beBytes 2 ur
@[simp] theorem tcpHead_length (sp dp sq ak fl wi ur : Int) (o : List UInt8) : (tcpHead sp dp sq ak fl wi ur o).length = 20 := rfl
def tcpBuild (sp dp sq ak fl wi ur : Int) (o b : List UInt8) : List UInt8 × Int :=
  if tcpRight sp dp fl wi ur o = true then
    if 20 + (o.length : Int) + (b.length : Int) > 1500 then ([], 18) else (tcpHead sp dp sq ak fl wi ur o ++ o ++ b, 0)
  else ([], 1)
/-! ### IPv4 -/
def ip4Right (tos id flags frag ttl proto : Int) (o : List UInt8) : Bool := decide (0 ≤ tos ∧ tos ≤ 255) && decide (0 ≤ id ∧ id ≤ 65535) && decide (0 ≤ flags ∧ flags ≤ 7) && decide (0 ≤ frag ∧ frag ≤ 8191) && decide (0 ≤ ttl ∧ ttl ≤ 255) && decide (0 ≤ proto ∧ proto ≤ 255) && decide (o.length ≤ 40 ∧ o.length % 4 = 0) && optsOk o
theorem ip4Right_iff {tos id flags frag ttl proto : Int} {o : List UInt8} : ip4Right tos id flags frag ttl proto o = true ↔ (0 ≤ tos ∧ tos ≤ 255) ∧ (0 ≤ id ∧ id ≤ 65535) ∧ (0 ≤ flags ∧ flags ≤ 7) ∧ (0 ≤ frag ∧ frag ≤ 8191) ∧ (0 ≤ ttl ∧ ttl ≤ 255) ∧ (0 ≤ proto ∧ proto ≤ 255) ∧ (o.length ≤ 40 ∧ o.length % 4 = 0) ∧ optsOk o = true := by
  unfold ip4Right; simp only [Bool.and_eq_true, decide_eq_true_eq]
  constructor
  · rintro ⟨⟨⟨⟨⟨⟨⟨a, b⟩, c⟩, d⟩, e⟩, f⟩, g⟩, h⟩; exact ⟨a, b, c, d, e, f, g, h⟩
  · rintro ⟨a, b, c, d, e, f, g, h⟩; exact ⟨⟨⟨⟨⟨⟨⟨a, b⟩, c⟩, d⟩, e⟩, f⟩, g⟩, h⟩
def ip4Head (tos id flags frag ttl proto src dst : Int) (o : List UInt8) (total ck : Int) : List UInt8 := beBytes 1 (64 + (20 + (o.length : Int)) / 4) ++ beBytes 1 tos ++ beBytes 2 total ++ beBytes 2 id ++ beBytes 2 (flags * 8192 + frag) ++ beBytes 1 ttl ++ beBytes 1 proto ++ beBytes 2 ck ++ beBytes 4 src ++ beBytes 4 dst ++ o
theorem ip4Head_length (tos id flags frag ttl proto src dst : Int) (o : List UInt8) (total ck : Int) : (ip4Head tos id flags frag ttl proto src dst o total ck).length = 20 + o.length := by
  unfold ip4Head; simp only [List.length_append, beBytes_length]
def ip4Full (tos id flags frag ttl proto src dst : Int) (o : List UInt8) (total : Int) : List UInt8 := ip4Head tos id flags frag ttl proto src dst o total (check (ip4Head tos id flags frag ttl proto src dst o total 0))
theorem ip4Full_length (tos id flags frag ttl proto src dst : Int) (o : List UInt8) (total : Int) : (ip4Full tos id flags frag ttl proto src dst o total).length = 20 + o.length := ip4Head_length _ _ _ _ _ _ _ _ _ _ _
def ip4Build (tos id flags frag ttl proto src dst : Int) (o b : List UInt8) : List UInt8 × Int :=
  if ip4Right tos id flags frag ttl proto o = true then
    if 20 + (o.length : Int) + (b.length : Int) > 1500 then ([], 18) else (ip4Full tos id flags frag ttl proto src dst o (20 + (o.length : Int) + (b.length : Int)) ++ b, 0)
  else ([], 1)
def ip4B0 (s : List UInt8) : Int := ((s.headD 0).toNat : Int)
def ip4Len (s : List UInt8) : Int := 4 * (ip4B0 s % 16)
def ip4Tot (s : List UInt8) : Int := (get s 2 2).1
def ip4Sizes (s : List UInt8) : Int × Int × Int :=
  if (s.length : Int) < 20 then (0, 0, 2)
  else if ip4B0 s / 16 ≠ 4 then (0, 0, 3)
  else if ip4Len s < 20 ∨ ip4Len s > s.length then (0, 0, 4)
  else if ip4Tot s < ip4Len s ∨ ip4Tot s > s.length then (0, 0, 5)
  else if ip4Tot s > 1500 then (0, 0, 18) else (ip4Len s, ip4Tot s, 0)
theorem ip4B0_bounds (s : List UInt8) : 0 ≤ ip4B0 s ∧ ip4B0 s ≤ 255 := by
  have := (s.headD 0).toNat_lt
  unfold ip4B0; omega
theorem ip4Sizes_ok {s : List UInt8} (h : (ip4Sizes s).2.2 = 0) : 20 ≤ (s.length : Int) ∧ ip4B0 s / 16 = 4 ∧ 20 ≤ ip4Len s ∧ ip4Len s ≤ s.length ∧ ip4Len s ≤ ip4Tot s ∧ ip4Tot s ≤ s.length ∧ ip4Tot s ≤ 1500 ∧ ip4Sizes s = (ip4Len s, ip4Tot s, 0) := by
  unfold ip4Sizes at h ⊢
  by_cases h1 : (s.length : Int) < 20
  · rw [if_pos h1] at h; simp at h
  · rw [if_neg h1] at h ⊢
    by_cases h2 : ip4B0 s / 16 ≠ 4
    · rw [if_pos h2] at h; simp at h
    · rw [if_neg h2] at h ⊢
      by_cases h3 : ip4Len s < 20 ∨ ip4Len s > s.length
      · rw [if_pos h3] at h; simp at h
      · rw [if_neg h3] at h ⊢
        by_cases h4 : ip4Tot s < ip4Len s ∨ ip4Tot s > s.length
        · rw [if_pos h4] at h; simp at h
        · rw [if_neg h4] at h ⊢
          by_cases h5 : ip4Tot s > 1500
          · rw [if_pos h5] at h; simp at h
          · rw [if_neg h5]
            refine ⟨by omega, by omega, by omega, by omega, by omega, by omega, by omega, rfl⟩
structure Ip4 where
  tos : Int
  id : Int
  flags : Int
  frag : Int
  ttl : Int
  proto : Int
  src : Int
  dst : Int
  opts : List UInt8
  body : List UInt8
  e : Int
def ip4None (e : Int) : Ip4 := ⟨0, 0, 0, 0, 0, 0, 0, 0, [], [], e⟩
def ip4Fields (s : List UInt8) (h t : Int) : Ip4 := ⟨(get s 1 1).1, (get s 4 2).1, (get s 6 2).1 / 8192, (get s 6 2).1 % 8192, (get s 8 1).1, (get s 9 1).1, (get s 12 4).1, (get s 16 4).1, (s.take h.toNat).drop 20, (s.take t.toNat).drop h.toNat, 0⟩
def ip4Parse (s : List UInt8) : Ip4 :=
  if (ip4Sizes s).2.2 = 0 then
    if sum (s.take (ip4Len s).toNat) = 65535 then
      if optsOk ((s.take (ip4Len s).toNat).drop 20) = true then ip4Fields s (ip4Len s) (ip4Tot s) else ip4None 6
    else ip4None 7
  else ip4None (ip4Sizes s).2.2
/-! ### ICMP, read -/
def byteAt (s : List UInt8) (i : Nat) : Int := ((s.getD i 0).toNat : Int)
theorem byteAt_bounds (s : List UInt8) (i : Nat) : 0 ≤ byteAt s i ∧ byteAt s i ≤ 255 := by
  have := (s.getD i 0).toNat_lt
  unfold byteAt; omega
theorem byteAt_zero (s : List UInt8) : byteAt s 0 = ip4B0 s := by cases s <;> rfl
structure Icmp where
  t : Int
  c : Int
  r : Int
  body : List UInt8
  e : Int
def icmpNone (e : Int) : Icmp := ⟨0, 0, 0, [], e⟩
def icmpParse (s : List UInt8) : Icmp :=
  if s.length < 8 then icmpNone 2
  else if sum s = 65535 then ⟨byteAt s 0, byteAt s 1, (get s 4 4).1, s.drop 8, 0⟩
  else icmpNone 7
/-! ### packets -/
structure Pkt where
  kind : Int
  at_ : Int
  total : Int
  proto : Int
  tsrc : Int
  tdst : Int
  sp : Int
  dp : Int
  flags : Int
  ttl : Int
  src : Int
  dst : Int
  quote : Int
  inner : Int
  e : Int
def pktNone (e : Int) : Pkt := ⟨0, 0, 0, 0, 0, 0, 0, 0, 0, 0, 0, 0, 0, 0, e⟩
/-- what is wrong of a quote -/
def qErr (q : List UInt8) : Int :=
  if (q.length : Int) < 20 then 2
  else if ip4B0 q / 16 ≠ 4 then 3
  else if ip4Len q < 20 ∨ ip4Len q > q.length then 4
  else if (get q 6 2).1 % 8192 ≠ 0 then 8
  else if byteAt q 9 ≠ 6 ∧ byteAt q 9 ≠ 17 then 9
  else if (q.length : Int) - ip4Len q < 8 then 2 else 0
def icmpErr (t : Int) : Bool := decide (t = 3 ∨ t = 11 ∨ t = 12)
/-- what is wrong of a message about another packet -/
def aboutErr (m : Icmp) : Int := if m.e = 0 then (if icmpErr m.t = true then qErr m.body else 10) else m.e
def pktQuoted (h : Ip4) (n t : Int) (q : List UInt8) : Pkt :=
  ⟨2, n, t, byteAt q 9, (get q 12 4).1, (get q 16 4).1, (get q (ip4Len q) 2).1, (get q (ip4Len q + 2) 2).1, 0, h.ttl, h.src, h.dst, n + 8, n + 8 + ip4Len q, 0⟩
def pktAbout (h : Ip4) (n t : Int) : Pkt := if aboutErr (icmpParse h.body) = 0 then pktQuoted h n t (icmpParse h.body).body else pktNone (aboutErr (icmpParse h.body))
/-- what a body of TCP or UDP says: ports, flags, the error -/
def endsOf (p : Int) (s : List UInt8) : Int × Int × Int × Int :=
  if p = 6 then ((tcpParse s).sp, (tcpParse s).dp, (tcpParse s).flags, (tcpParse s).e) else ((udpParse s).1, (udpParse s).2.1, 0, (udpParse s).2.2.2)
def plainErr (h : Ip4) : Int := if (endsOf h.proto h.body).2.2.2 = 0 then pverify h.proto h.src h.dst h.body else (endsOf h.proto h.body).2.2.2
def pktPlain (h : Ip4) (n t : Int) : Pkt :=
  if plainErr h = 0 then ⟨1, n, t, h.proto, h.src, h.dst, (endsOf h.proto h.body).1, (endsOf h.proto h.body).2.1, (endsOf h.proto h.body).2.2.1, h.ttl, h.src, h.dst, 0, 0, 0⟩ else pktNone (plainErr h)
def pktOf (h : Ip4) (n t : Int) : Pkt :=
  if h.e = 0 then
    if h.flags % 2 = 0 ∧ h.frag = 0 then
      if h.proto = 1 then pktAbout h n t
      else if h.proto = 6 ∨ h.proto = 17 then pktPlain h n t else pktNone 9
    else pktNone 8
  else pktNone h.e
def pkt (s : List UInt8) : Pkt := pktOf (ip4Parse s) (ip4Len s) (ip4Tot s)
/-- a tuple's key -/
def keyOk (p a b : Int) : Bool := fits 1 p && fits 2 a && fits 2 b
def key (p s d a b : Int) : List UInt8 × Bool := if keyOk p a b = true then (beBytes 1 p ++ beBytes 4 s ++ beBytes 4 d ++ beBytes 2 a ++ beBytes 2 b, true) else ([], false)
/-! ### frames: packets by what they have -/
def segment (p src dst sp dp fl : Int) (zero : Bool) (b : List UInt8) : List UInt8 :=
  if p = 6 then (pfill 6 src dst (tcpBuild sp dp 7 0 (fl % 64) 9 0 [] (b.take 40)).1).1
  else if zero = true then (udpBuild sp dp (b.take 40)).1 else (pfill p src dst (udpBuild sp dp (b.take 40)).1).1
def protoOf (kind : Int) : Int := if kind % 2 = 1 then 17 else 6
def inner (kind src dst sp dp fl ttl : Int) (b : List UInt8) (zero : Bool) : List UInt8 := (ip4Build 0 5 0 0 ttl (protoOf kind) src dst [] (segment (protoOf kind) src dst sp dp fl zero b)).1
def about (fl : Int) (zero : Bool) (s : List UInt8) : List UInt8 := (icmpBuild 3 (fl % 6) 1400 (if zero = true then s.take 28 else s)).1
def frame (kind src dst sp dp fl ttl : Int) (b : List UInt8) (zero : Bool) (frm to_ : Int) : List UInt8 :=
  if kind % 4 < 2 then inner kind src dst sp dp fl ttl b zero
  else (ip4Build 0 0 0 0 ttl 1 frm to_ [] (about fl zero (inner kind src dst sp dp fl ttl b zero))).1
/-! ### packets turned -/
def bput (s : List UInt8) (a b n : Int) : List UInt8 := if (set s a b n).2 = true then (set s a b n).1 else s
def recheck (s : List UInt8) (a f t : Int) : List UInt8 := bput (bput s a 2 0) a 2 (check (((bput s a 2 0).take t.toNat).drop f.toNat))
def turnEnds (s : List UInt8) (src dst : Int) : List UInt8 := bput (bput (bput s 8 1 ((get s 8 1).1 - 1)) 12 4 src) 16 4 dst
def outer (s : List UInt8) (n src dst : Int) : List UInt8 := recheck (turnEnds s src dst) 10 0 n
def ready (s : List UInt8) (kind sp dp : Int) : Int :=
  if (pkt s).e = 0 then (if (pkt s).kind = kind ∧ fits 2 sp = true ∧ fits 2 dp = true then (if (pkt s).ttl < 2 then 11 else 0) else 1) else (pkt s).e
def turnPlain (s : List UInt8) (n total proto src dst sp dp : Int) : List UInt8 := bput (bput (outer (s.take total.toNat) n src dst) n 2 sp) (n + 2) 2 dp
def fillPlain (b : List UInt8) (n proto src dst : Int) : List UInt8 :=
  if proto = 17 ∧ (get b (n + (place proto).1) 2).1 = 0 then b else b.take n.toNat ++ (pfill proto src dst (b.drop n.toNat)).1
def patchPlain (s : List UInt8) (src dst sp dp : Int) : List UInt8 × Int :=
  if ready s 1 sp dp = 0 then (fillPlain (turnPlain s (pkt s).at_ (pkt s).total (pkt s).proto src dst sp dp) (pkt s).at_ (pkt s).proto src dst, 0) else ([], ready s 1 sp dp)
/-- a check that is gone on with, of both addresses -/
def moved (c os od src dst : Int) : Int := update32 (update32 c os src) od dst
def movedPorts (c osp odp sp dp : Int) : Int := update (update c osp sp) odp dp
/-- the check of the inner segment, if it stands there -/
def turnCheck (b : List UInt8) (p : Pkt) (src dst sp dp : Int) : List UInt8 :=
  if p.inner + (place p.proto).1 + 2 ≤ b.length ∧ ¬ (p.proto = 17 ∧ (get b (p.inner + (place p.proto).1) 2).1 = 0) then
    bput b (p.inner + (place p.proto).1) 2 (if p.proto = 17 ∧ movedPorts (moved (get b (p.inner + (place p.proto).1) 2).1 p.tsrc p.tdst src dst) p.sp p.dp sp dp = 0 then 65535 else movedPorts (moved (get b (p.inner + (place p.proto).1) 2).1 p.tsrc p.tdst src dst) p.sp p.dp sp dp)
  else b
def turnQuote (b : List UInt8) (p : Pkt) (src dst : Int) : List UInt8 := bput b (p.quote + 10) 2 (moved (get b (p.quote + 10) 2).1 p.tsrc p.tdst src dst)
def turnInner (b : List UInt8) (p : Pkt) (src dst sp dp : Int) : List UInt8 := bput (bput (bput (bput b (p.quote + 12) 4 src) (p.quote + 16) 4 dst) p.inner 2 sp) (p.inner + 2) 2 dp
def turnAbout (s : List UInt8) (p : Pkt) (osrc odst src dst sp dp : Int) : List UInt8 :=
  recheck (turnInner (turnCheck (turnQuote (outer (s.take p.total.toNat) p.at_ osrc odst) p src dst) p src dst sp dp) p src dst sp dp) (p.at_ + 2) p.at_ p.total
def patchAbout (s : List UInt8) (osrc odst src dst sp dp : Int) : List UInt8 × Int :=
  if ready s 2 sp dp = 0 then (turnAbout s (pkt s) osrc odst src dst sp dp, 0) else ([], ready s 2 sp dp)
end Go.Proofs.YtfnjohklmpiboaaGreat.Sp
