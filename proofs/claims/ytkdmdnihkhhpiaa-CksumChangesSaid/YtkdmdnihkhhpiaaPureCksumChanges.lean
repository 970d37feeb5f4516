/- Where a word of a text is another one, the check that is gone on with is the new text's, if that is not all 0; two words at once, too. -/
import Derived.Test.YtkdmdnihkhhpiaaPr16
import Derived.Test.YtkdmdnihkhhpiaaLem
set_option linter.unusedVariables false
set_option linter.unusedSimpArgs false
namespace Go.Proofs.Ytkdmdnihkhhpiaa.Pure
open Go.RowKit Go.Proofs.Ytkdmdnihkhhpiaa.Pr Go.Proofs.Ytkdmdnihkhhpiaa.Sp Go.Proofs.Ytkdmdnihkhhpiaa.Lem Go.Proofs.YtkdmdnihkhhpiaaW.PrintWords Go.Proofs.YtkdmdnihkhhpiaaW.PrintLast Go.Proofs.YtkdmdnihkhhpiaaW.PrintMore

theorem or32 (i : Nat) (hi : i ≤ 31) {x y : Int} (hx : 0 ≤ x) (hd : x % 2 ^ i = 0) (hy : 0 ≤ y) (hy1 : y < 2 ^ i) (hs : x + y ≤ 4294967295) : Go.bits .or .u32 x y = x + y :=
  bits_join .u32 32 (by decide) (fun n a b => IntWalk.u32_in n ⟨a, by omega⟩) i x y hx hd (by omega) hy hy1 (by omega)
theorem or_four {a b c d : Int} (ha : 0 ≤ a ∧ a ≤ 255) (hb : 0 ≤ b ∧ b ≤ 255) (hc : 0 ≤ c ∧ c ≤ 255) (hd : 0 ≤ d ∧ d ≤ 255) :
    Go.bits .or .u32 (Go.bits .or .u32 (Go.bits .or .u32 (((a % 4294967296) * 16777216) % 4294967296) (((b % 4294967296) * 65536) % 4294967296)) (((c % 4294967296) * 256) % 4294967296)) (d % 4294967296) = a * 16777216 + b * 65536 + c * 256 + d := by
  rw [show ((a % 4294967296) * 16777216) % 4294967296 = a * 16777216 by omega, show ((b % 4294967296) * 65536) % 4294967296 = b * 65536 by omega, show ((c % 4294967296) * 256) % 4294967296 = c * 256 by omega, show d % 4294967296 = d by omega]
  have p24 : (2 : Int) ^ 24 = 16777216 := by decide
  have p16 : (2 : Int) ^ 16 = 65536 := by decide
  have p8 : (2 : Int) ^ 8 = 256 := by decide
  rw [or32 24 (by decide) (x := a * 16777216) (y := b * 65536) (by omega) (by rw [p24]; omega) (by omega) (by rw [p24]; omega) (by omega),
    or32 16 (by decide) (x := a * 16777216 + b * 65536) (y := c * 256) (by omega) (by rw [p16]; omega) (by omega) (by rw [p16]; omega) (by omega),
    or32 8 (by decide) (x := a * 16777216 + b * 65536 + c * 256) (y := d) (by omega) (by rw [p8]; omega) (by omega) (by rw [p8]; omega) (by omega)]
theorem nums_set (s : ByteArray) (j : Nat) {v : Int} (h0 : 0 ≤ v) (h1 : v ≤ 255) : (numsOf s).set j v = numsOf (lb ((bl s).set j (UInt8.ofNat v.toNat))) := by
  have e : numsOf (lb ((bl s).set j (UInt8.ofNat v.toNat))) = ((bl s).set j (UInt8.ofNat v.toNat)).map (fun b : UInt8 => (b.toNat : Int)) := by unfold numsOf lb; rfl
  rw [e, List.map_set]
  have : (((UInt8.ofNat v.toNat).toNat : Nat) : Int) = v := by rw [UInt8.toNat_ofNat']; omega
  rw [this]; rfl
theorem str_nums (s : ByteArray) : strOfNums (numsOf s) = s := by
  apply bl_inj
  show (numsOf s).map (fun n => UInt8.ofNat n.toNat) = _
  unfold numsOf
  rw [List.map_map]
  have e : ((fun n : Int => UInt8.ofNat n.toNat) ∘ fun b : UInt8 => (b.toNat : Int)) = id := by funext b; simp
  rw [e, List.map_id]; rfl
theorem nums_length (s : ByteArray) : (numsOf s).length = s.size := by unfold numsOf; rw [List.length_map]; simp
theorem emp_loop (s : ByteArray) (hs : s.size ≤ 281474976710656) : ∀ (n i m : Nat), i + n = s.size → n + 1 ≤ m → ∃ e, weighbridgelaw03_empty.l0 m s (i : Int) = some e ∧ ((∀ j : Nat, i ≤ j → j < s.size → bt s (j : Int) = 0) → e = true) := by
  intro n
  induction n with
  | zero =>
    intro i m h hm
    obtain ⟨m, rfl⟩ : ∃ m', m = m' + 1 := ⟨m - 1, by omega⟩
    refine ⟨true, ?_, fun _ => rfl⟩
    rw [weighbridgelaw03_empty.l0, if_neg (by omega)]
  | succ n ih =>
    intro i m h hm
    obtain ⟨m, rfl⟩ : ∃ m', m = m' + 1 := ⟨m - 1, by omega⟩
    obtain ⟨e, h1, h2⟩ := ih (i + 1) m (by omega) (by omega)
    rw [weighbridgelaw03_empty.l0, if_pos (by omega), if_pos (by omega), w64 (n := (i : Int) + 1) (by omega) (by omega)]
    by_cases hb : bt s (i : Int) = 0
    · rw [if_pos hb]
      exact ⟨e, h1, fun H => h2 (fun j a b => H j (by omega) b)⟩
    · rw [if_neg hb]
      exact ⟨false, rfl, fun H => absurd (H i (Nat.le_refl _) (by omega)) hb⟩
theorem zero_bytes (l : List UInt8) (h : wsum (wl l) = 0) : ∀ b ∈ l, b = 0 := by
  induction l using wl.induct with
  | case1 => intro b hb; cases hb
  | case2 a =>
    rw [wsum_one] at h
    intro b hb
    obtain rfl := List.mem_singleton.1 hb
    exact UInt8.toNat_inj.1 (by show b.toNat = 0; omega)
  | case3 a b r ih =>
    rw [wsum_two] at h
    have := (wsum_bounds (wl r)).1
    intro c hc
    rcases List.mem_cons.1 hc with rfl | hc
    · exact UInt8.toNat_inj.1 (by show c.toNat = 0; omega)
    · rcases List.mem_cons.1 hc with rfl | hc
      · exact UInt8.toNat_inj.1 (by show c.toNat = 0; omega)
      · exact ih (by omega) c hc
theorem emp (l : List UInt8) (m : Nat) (hs : l.length ≤ 281474976710656) (hm : l.length + 1 ≤ m) : ∃ e, weighbridgelaw03_empty.f m (lb l) = some e ∧ (wsum (wl l) = 0 → e = true) := by
  obtain ⟨e, h1, h2⟩ := emp_loop (lb l) (by rw [lb_size]; exact hs) l.length 0 m (by rw [lb_size]; omega) hm
  refine ⟨e, h1, fun h => h2 (fun j _ hj => ?_)⟩
  rw [lb_size] at hj
  rw [bt_bl _ _ (by rw [lb_size]; omega)]
  have hz := zero_bytes l h (l[j]'hj) (List.getElem_mem hj)
  have : (bl (lb l))[((j : Nat) : Int).toNat]'(by rw [bl_lb]; omega) = l[j]'hj := by simp only [bl_lb, Int.toNat_natCast]
  rw [this, hz]; rfl
/-- going on with a sum -/
theorem go_on {W o n : Int} (h0 : 0 ≤ W - o) (ho : 0 ≤ o ∧ o ≤ 65535) (hn : 0 ≤ n ∧ n ≤ 65535) (h : W - o + n ≠ 0) : fold16 (fold16 W + (65535 - o) + n) = fold16 (W - o + n) := by
  unfold fold16
  (repeat' split) <;> omega
theorem word_set (l : List UInt8) (A B : Nat) (hA : A % 2 = 0) (hB : B = A + 1) (h : B < l.length) (x y : UInt8) :
    wsum (wl ((l.set A x).set B y)) = wsum (wl l) - (((l[A]'(by omega)).toNat : Int) * 256 + ((l[B]'h).toNat : Int)) + ((x.toNat : Int) * 256 + (y.toNat : Int)) := by
  have e1 := wsum_set l A (by omega) x
  have e2 := wsum_set (l.set A x) B (by rw [List.length_set]; exact h) y
  have e3 : (l.set A x)[B]'(by rw [List.length_set]; exact h) = l[B]'h := by rw [List.getElem_set_ne (by omega)]
  rw [e3, if_neg (by omega)] at e2
  rw [if_pos hA] at e1
  rw [e2, e1]
  generalize ((l[A]'(by omega)).toNat : Int) = p
  generalize ((l[B]'h).toNat : Int) = q
  omega
theorem u16_any (n : Int) : IntKind.u16.wrap n = n % 65536 := by
  unfold IntKind.wrap
  simp [IntKind.bits, IntKind.signed]
theorem chg_key (s : ByteArray) (hs : s.size ≤ 140737488351232) (h4 : 4 ≤ s.size) (X now : Int) (hX0 : 0 ≤ X) (hX1 : X ≤ 9223372036854775807) (hn : 0 ≤ now ∧ now ≤ 4294967295) :
    weighbridgelaw03_CksumChanges.j0 (s.size + 5) s X now true = some true := by
  have e0 : wrap64 ((s.size : Int) - 3) = (s.size : Int) - 3 := w64 (by omega) (by omega)
  obtain ⟨A, hA⟩ : ∃ A : Nat, (A : Int) = X % ((s.size : Int) - 3) / 2 * 2 := ⟨(X % ((s.size : Int) - 3) / 2 * 2).toNat, by have := Int.emod_nonneg X (show (s.size : Int) - 3 ≠ 0 by omega); omega⟩
  have hm0 := Int.emod_nonneg X (show (s.size : Int) - 3 ≠ 0 by omega)
  have hm1 := Int.emod_lt_of_pos X (show 0 < (s.size : Int) - 3 by omega)
  have hA2 : A % 2 = 0 := by omega
  have hA3 : A + 3 < s.size := by omega
  have e1 : wrap64 ((wrap64 (Int.tdiv (Int.tmod X ((s.size : Int) - 3)) 2)) * 2) = (A : Int) := by
    rw [tm _ hX0, td _ hm0, w64 (n := X % ((s.size : Int) - 3) / 2) (by omega) (by omega), w64 (by omega) (by omega), hA]
  have e2 : wrap64 ((A : Int) + 1) = ((A + 1 : Nat) : Int) := w64 (by omega) (by omega)
  have e3 : wrap64 ((A : Int) + 2) = ((A + 2 : Nat) : Int) := w64 (by omega) (by omega)
  have e4 : wrap64 ((A : Int) + 3) = ((A + 3 : Nat) : Int) := w64 (by omega) (by omega)
  obtain ⟨l, hl⟩ : ∃ l, bl s = l := ⟨_, rfl⟩
  have hll : l.length = s.size := by rw [← hl, bl_length]
  have r0 : rd (numsOf s) (A : Int) = ((l[A]'(by omega)).toNat : Int) := by subst hl; exact rd_numsOf s A (by rw [bl_length]; omega)
  have r1 : rd (numsOf s) ((A + 1 : Nat) : Int) = ((l[A + 1]'(by omega)).toNat : Int) := by subst hl; exact rd_numsOf s (A + 1) (by rw [bl_length]; omega)
  have r2 : rd (numsOf s) ((A + 2 : Nat) : Int) = ((l[A + 2]'(by omega)).toNat : Int) := by subst hl; exact rd_numsOf s (A + 2) (by rw [bl_length]; omega)
  have r3 : rd (numsOf s) ((A + 3 : Nat) : Int) = ((l[A + 3]'(by omega)).toNat : Int) := by subst hl; exact rd_numsOf s (A + 3) (by rw [bl_length]; omega)
  obtain ⟨L1, hL1⟩ : ∃ L1, (l.set A (UInt8.ofNat ((now / 16777216) % 256).toNat)).set (A + 1) (UInt8.ofNat ((now / 65536) % 256).toNat) = L1 := ⟨_, rfl⟩
  have hL1l : L1.length = l.length := by rw [← hL1, List.length_set, List.length_set]
  obtain ⟨L2, hL2⟩ : ∃ L2, (L1.set (A + 2) (UInt8.ofNat ((now / 256) % 256).toNat)).set (A + 3) (UInt8.ofNat (now % 256).toNat) = L2 := ⟨_, rfl⟩
  have hL2l : L2.length = l.length := by rw [← hL2, List.length_set, List.length_set, hL1l]
  have y1 : ((numsOf s).set A ((now / 16777216) % 256)).set (A + 1) ((now / 65536) % 256) = numsOf (lb L1) := by
    rw [nums_set s A (by omega) (by omega), nums_set _ (A + 1) (by omega) (by omega), bl_lb, hl, hL1]
  have y2 : ((numsOf (lb L1)).set (A + 2) ((now / 256) % 256)).set (A + 3) (now % 256) = numsOf (lb L2) := by
    rw [nums_set _ (A + 2) (by omega) (by omega), nums_set _ (A + 3) (by omega) (by omega), bl_lb, bl_lb, hL2]
  -- the sums
  have W1 := word_set l A (A + 1) hA2 rfl (by omega) (UInt8.ofNat ((now / 16777216) % 256).toNat) (UInt8.ofNat ((now / 65536) % 256).toNat)
  have Z1 := word_set l A (A + 1) hA2 rfl (by omega) 0 0
  have W2 := word_set L1 (A + 2) (A + 3) (by omega) rfl (by omega) (UInt8.ofNat ((now / 256) % 256).toNat) (UInt8.ofNat (now % 256).toNat)
  have Z2 := word_set L1 (A + 2) (A + 3) (by omega) rfl (by omega) 0 0
  have Z3 := word_set l (A + 2) (A + 3) (by omega) rfl (by omega) 0 0
  have g2 : L1[A + 2]'(by omega) = l[A + 2]'(by omega) := by subst hL1; rw [List.getElem_set_ne (by omega), List.getElem_set_ne (by omega)]
  have g3 : L1[A + 3]'(by omega) = l[A + 3]'(by omega) := by subst hL1; rw [List.getElem_set_ne (by omega), List.getElem_set_ne (by omega)]
  rw [hL1, ofNat_mod, ofNat_mod] at W1
  rw [g2, g3, hL2, ofNat_mod, ofNat_mod] at W2
  rw [g2, g3] at Z2
  have p1 := (wsum_bounds (wl ((l.set A 0).set (A + 1) 0))).1
  have p2 := (wsum_bounds (wl ((L1.set (A + 2) 0).set (A + 3) 0))).1
  have p3 := (wsum_bounds (wl ((l.set (A + 2) 0).set (A + 3) 0))).1
  have p4 := (wsum_bounds (wl l)).1
  have z0 : (((0 : UInt8).toNat : Nat) : Int) = 0 := rfl
  rw [Z1, z0] at p1
  rw [Z2, z0] at p2
  rw [Z3, z0] at p3
  clear Z1 Z2 Z3 g2 g3
  have b0 := (l[A]'(by omega)).toNat_lt
  have b1 := (l[A + 1]'(by omega)).toNat_lt
  have b2 := (l[A + 2]'(by omega)).toNat_lt
  have b3 := (l[A + 3]'(by omega)).toNat_lt
  obtain ⟨E0, hE0, kE0⟩ := emp l (s.size + 4) (by omega) (by omega)
  obtain ⟨E1, hE1, kE1⟩ := emp L1 (s.size + 4) (by omega) (by omega)
  obtain ⟨E2, hE2, kE2⟩ := emp L2 (s.size + 4) (by omega) (by omega)
  rw [show lb l = s by rw [← hl, lb_bl]] at hE0
  have kc0 := cksum_Check_eq (a0 := s) (by omega)
  have kc1 := cksum_Check_eq (a0 := lb L1) (by rw [lb_size]; omega)
  have kc2 := cksum_Check_eq (a0 := lb L2) (by rw [lb_size]; omega)
  rw [hl] at kc0
  rw [bl_lb] at kc1 kc2
  have cb := check_bounds l
  rw [weighbridgelaw03_CksumChanges.j0]
  simp only [e1, e2, e3, e4, r0, r1, r2, r3, Int.toNat_natCast, Option.bind_some, nums_length, y1, y2, str_nums, e0, hE0, hE1, hE2, kc0, kc1, kc2]
  obtain ⟨c0, hc0⟩ : ∃ c, ((l[A]'(by omega)).toNat : Int) = c := ⟨_, rfl⟩
  obtain ⟨c1, hc1⟩ : ∃ c, ((l[A + 1]'(by omega)).toNat : Int) = c := ⟨_, rfl⟩
  obtain ⟨c2, hc2⟩ : ∃ c, ((l[A + 2]'(by omega)).toNat : Int) = c := ⟨_, rfl⟩
  obtain ⟨c3, hc3⟩ : ∃ c, ((l[A + 3]'(by omega)).toNat : Int) = c := ⟨_, rfl⟩
  have d0 : 0 ≤ c0 ∧ c0 ≤ 255 := by omega
  have d1 : 0 ≤ c1 ∧ c1 ≤ 255 := by omega
  have d2 : 0 ≤ c2 ∧ c2 ≤ 255 := by omega
  have d3 : 0 ≤ c3 ∧ c3 ≤ 255 := by omega
  clear b0 b1 b2 b3
  simp only [hc0, hc1, hc2, hc3] at W1 W2 p1 p2 p3 ⊢
  simp only [or_four d0 d1 d2 d3, u16_any]
  have f1 : (c0 * 16777216 + c1 * 65536 + c2 * 256 + c3) / 65536 % 65536 = c0 * 256 + c1 := by omega
  have f2 : (c0 * 16777216 + c1 * 65536 + c2 * 256 + c3) % 65536 = c2 * 256 + c3 := by omega
  have f3 : now / 65536 % 65536 = now / 65536 := by omega
  have o32 : 0 ≤ c0 * 16777216 + c1 * 65536 + c2 * 256 + c3 ∧ c0 * 16777216 + c1 * 65536 + c2 * 256 + c3 ≤ 4294967295 := by omega
  have ku := cksum_Update_eq cb (show 0 ≤ c0 * 256 + c1 ∧ c0 * 256 + c1 ≤ 65535 by omega) (show 0 ≤ now / 65536 ∧ now / 65536 ≤ 65535 by omega)
  have kv := cksum_Update_eq cb (show 0 ≤ c2 * 256 + c3 ∧ c2 * 256 + c3 ≤ 65535 by omega) (show 0 ≤ c2 * 256 + c3 ∧ c2 * 256 + c3 ≤ 65535 by omega)
  have kw := cksum_Update32_eq cb o32 hn
  simp only [f1, f2, f3, ku, kv, kw, Option.bind_some]
  have hA' : update32 (check l) (c0 * 16777216 + c1 * 65536 + c2 * 256 + c3) now = update (update (check l) (c0 * 256 + c1) (now / 65536)) (c2 * 256 + c3) (now % 65536) := by
    unfold update32
    rw [f2, show (c0 * 16777216 + c1 * 65536 + c2 * 256 + c3) / 65536 = c0 * 256 + c1 by omega]
  simp only [hA']
  have q1 : E1 = true ∨ update (check l) (c0 * 256 + c1) (now / 65536) = check L1 := by
    by_cases hz : wsum (wl L1) = 0
    · exact Or.inl (kE1 hz)
    · refine Or.inr ?_
      have := go_on (W := wsum (wl l)) (o := c0 * 256 + c1) (n := now / 65536) (by omega) (by omega) (by omega) (by omega)
      unfold update check sum
      rw [show 65535 - (65535 - fold16 (wsum (wl l))) = fold16 (wsum (wl l)) by omega, this]
      congr 2; omega
  have q2 : E1 = true ∨ E2 = true ∨ update (update (check l) (c0 * 256 + c1) (now / 65536)) (c2 * 256 + c3) (now % 65536) = check L2 := by
    rcases q1 with q1 | q1
    · exact Or.inl q1
    · by_cases hz : wsum (wl L2) = 0
      · exact Or.inr (Or.inl (kE2 hz))
      · refine Or.inr (Or.inr ?_)
        rw [q1]
        have := go_on (W := wsum (wl L1)) (o := c2 * 256 + c3) (n := now % 65536) (by omega) (by omega) (by omega) (by omega)
        unfold update check sum
        rw [show 65535 - (65535 - fold16 (wsum (wl L1))) = fold16 (wsum (wl L1)) by omega, this]
        congr 2; omega
  have q3 : E0 = true ∨ update (check l) (c2 * 256 + c3) (c2 * 256 + c3) = check l := by
    by_cases hz : wsum (wl l) = 0
    · exact Or.inl (kE0 hz)
    · refine Or.inr ?_
      have := go_on (W := wsum (wl l)) (o := c2 * 256 + c3) (n := c2 * 256 + c3) (by omega) (by omega) (by omega) (by omega)
      unfold update check sum
      rw [show 65535 - (65535 - fold16 (wsum (wl l))) = fold16 (wsum (wl l)) by omega, this]
      congr 2; omega
  generalize update (update (check l) (c0 * 256 + c1) (now / 65536)) (c2 * 256 + c3) (now % 65536) = P at *
  generalize update (check l) (c0 * 256 + c1) (now / 65536) = Q at *
  generalize update (check l) (c2 * 256 + c3) (c2 * 256 + c3) = R at *
  generalize check l = C0 at *
  generalize check L1 = C1 at *
  generalize check L2 = C2 at *
  rw [if_neg (by omega), if_pos (by omega), if_pos (by omega), if_pos (by omega), if_pos (by omega), if_pos (by omega), if_pos (by omega), if_pos (by omega), if_pos (by omega), if_pos (by omega)]
  clear W1 W2 p1 p2 p3 p4 kE0 kE1 kE2 hE0 hE1 hE2 kc0 kc1 kc2 ku kv kw hA'
  cases E0 <;> cases E1 <;> cases E2 <;> simp_all
theorem CksumChanges : weighbridgelaw03_CksumChanges.Pure := by
  intro s x now w0 w1 w2
  have bx := wf_i64 w1
  have bn := wf_u32 w2
  refine ⟨s.size + 5, ?_⟩
  unfold weighbridgelaw03_CksumChanges.f
  rw [show weighbridgelaw03_examples.f = some true from rfl, Option.bind_some, if_pos rfl]
  by_cases h4 : (s.size : Int) < 4
  · rw [if_pos h4]
  · rw [if_neg h4]
    by_cases h0 : x < 0
    · rw [if_pos h0, w64 (n := x + 1) (by omega) (by omega), w64 (n := -(x + 1)) (by omega) (by omega)]
      exact chg_key s w0 (by omega) _ now (by omega) (by omega) bn
    · rw [if_neg h0]
      exact chg_key s w0 (by omega) x now (by omega) bx.2 bn

end Go.Proofs.Ytkdmdnihkhhpiaa.Pure
