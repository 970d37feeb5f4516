-- trimmed by trims.py
/- Any message about a packet, with a byte another one or not, gets any ends, outside and inside, as the chapter says, or is refused. -/
import Derived.Test.YtfnjohklmpiboaaGreatPr23
import Derived.Test.YtfnjohklmpiboaaGreatLem
import Derived.Test.YtfnjohklmpiboaaGreatFrm
set_option linter.unusedVariables false
set_option linter.unusedSimpArgs false
namespace Go.Proofs.YtfnjohklmpiboaaGreat.Pure
open Go.RowKit Go.Proofs.YtfnjohklmpiboaaGreat.Pr Go.Proofs.YtfnjohklmpiboaaGreat.Sp Go.Proofs.YtfnjohklmpiboaaGreat.Lem Go.Proofs.YtfnjohklmpiboaaGreatW.PrintWords Go.Proofs.YtfnjohklmpiboaaGreatW.PrintLast Go.Proofs.YtfnjohklmpiboaaGreatW.PrintMore

theorem num_eq (q : List UInt8) (a n : Int) (h : q.length ≤ 281474976710656) : weighbridgeref09_num.f (lb q) a n = some (Sp.get q a n).1 := by
  unfold weighbridgeref09_num.f
  rw [weighbridgeref01_Get_eq _ _ _ (by rw [lb_size]; exact h), Option.bind_some, bl_lb]
theorem bt_byte (q : List UInt8) (i : Nat) (h : i < q.length) : bt (lb q) (i : Int) = byteAt q i := by
  rw [bt_bl _ _ (by rw [lb_size]; omega)]
  unfold byteAt
  have : (bl (lb q))[((i : Nat) : Int).toNat]'(by rw [bl_lb]; omega) = q[i]'h := by simp only [bl_lb, Int.toNat_natCast]
  rw [this, List.getD_eq_getElem?_getD, List.getElem?_eq_getElem h]; rfl
theorem error_eq (t : Int) : weighbridgeref07_Error.f t = some (icmpErr t) := by
  unfold weighbridgeref07_Error.f icmpErr
  by_cases h1 : t = 3
  · rw [if_pos h1]; simp [h1]
  · rw [if_neg h1]
    by_cases h2 : t = 11
    · rw [if_pos h2]; simp [h2]
    · rw [if_neg h2]
      by_cases h3 : t = 12
      · simp [h3]
      · simp [h1, h2, h3]
theorem small_get (s : List UInt8) (a b : Int) : 0 ≤ (Sp.get s a b).1 ∧ (Sp.get s a b).1 < 4294967296 := by
  unfold Sp.get
  split
  case isTrue h => have := Sp.has_iff.1 h; exact Sp.beNum_small _ (by rw [List.length_take]; omega)
  case isFalse => exact ⟨by decide, by decide⟩
def abRes (a1 a2 a8 a9 a10 a11 : Int) (q : List UInt8) : Int × Int × Int × Int × Int × Int × Int × Int × Int × Int × Int × Int × Int × Int × Int :=
  if qErr q = 0 then (2, a1, a2, byteAt q 9, (Sp.get q 12 4).1, (Sp.get q 16 4).1, (Sp.get q (ip4Len q) 2).1, (Sp.get q (ip4Len q + 2) 2).1, a8, a9, a10, a11, a1 + 8, a1 + 8 + ip4Len q, 0) else (0, 0, 0, 0, 0, 0, 0, 0, 0, 0, 0, 0, 0, 0, qErr q)
theorem about_j1 (k : Nat) (q : List UInt8) (hq : q.length ≤ 1000000) (h20 : ¬ (q.length : Int) < 20) (h4 : ip4B0 q / 16 = 4) (hl : ¬ (ip4Len q < 20 ∨ ip4Len q > q.length)) (hf : (Sp.get q 6 2).1 % 8192 = 0) (a0 a1 a2 a3 a4 a5 a6 a7 a8 a9 a10 a11 a12 a13 : Int) (b1 : 0 ≤ a1 ∧ a1 ≤ 100) (z : Bool) (hz : z = decide (byteAt q 9 ≠ 6 ∧ byteAt q 9 ≠ 17)) :
    weighbridgeref09_about.j1 (k + 1) (lb q) (ip4Len q) z a0 a1 a2 a3 a4 a5 a6 a7 a8 a9 a10 a11 a12 a13 = some (abRes a1 a2 a8 a9 a10 a11 q) := by
  have hb := byteAt_bounds q 9
  have s1 := small_get q 12 4
  have s2 := small_get q 16 4
  unfold abRes
  rw [weighbridgeref09_about.j1]
  subst hz
  by_cases hp : byteAt q 9 ≠ 6 ∧ byteAt q 9 ≠ 17
  · have hE : qErr q = 9 := by unfold qErr; rw [if_neg h20, if_neg (by omega), if_neg hl, if_neg (by omega), if_pos hp]
    rw [if_pos (decide_eq_true hp), hE, if_neg (by decide)]
  · rw [if_neg (by rw [decide_eq_true_eq]; exact hp)]
    rw [w64 (n := ip4Len q + 8) (by omega) (by omega), lb_size]
    by_cases hs : (q.length : Int) < ip4Len q + 8
    · have hE : qErr q = 2 := by unfold qErr; rw [if_neg h20, if_neg (by omega), if_neg hl, if_neg (by omega), if_neg hp, if_pos (by omega)]
      rw [if_pos hs, hE, if_neg (by decide)]
    · have hE : qErr q = 0 := by unfold qErr; rw [if_neg h20, if_neg (by omega), if_neg hl, if_neg (by omega), if_neg hp, if_neg (by omega)]
      rw [if_neg hs, hE, if_pos rfl, if_pos (by omega), num_eq q _ _ (by omega), Option.bind_some, num_eq q _ _ (by omega), Option.bind_some, num_eq q _ _ (by omega), Option.bind_some, w64 (n := ip4Len q + 2) (by omega) (by omega), num_eq q _ _ (by omega), Option.bind_some, show bt (lb q) 9 = byteAt q 9 from bt_byte q 9 (by omega), w64 (n := byteAt q 9) (by omega) (by omega), w64 (n := a1 + 8) (by omega) (by omega), w64 (n := a1 + 8 + ip4Len q) (by omega) (by omega), Int.emod_eq_of_lt s1.1 s1.2, Int.emod_eq_of_lt s2.1 s2.2]
theorem about_j0 (k : Nat) (q : List UInt8) (hq : q.length ≤ 1000000) (h20 : ¬ (q.length : Int) < 20) (h4 : ip4B0 q / 16 = 4) (a0 a1 a2 a3 a4 a5 a6 a7 a8 a9 a10 a11 a12 a13 : Int) (b1 : 0 ≤ a1 ∧ a1 ≤ 100) (z : Bool) (hz : z = decide (ip4Len q < 20 ∨ ip4Len q > q.length)) :
    weighbridgeref09_about.j0 (k + 2) (lb q) (ip4Len q) z a0 a1 a2 a3 a4 a5 a6 a7 a8 a9 a10 a11 a12 a13 = some (abRes a1 a2 a8 a9 a10 a11 q) := by
  have hb := byteAt_bounds q 9
  have s0 := small_get q 6 2
  rw [weighbridgeref09_about.j0]
  subst hz
  by_cases hl : ip4Len q < 20 ∨ ip4Len q > q.length
  · have hE : qErr q = 4 := by unfold qErr; rw [if_neg h20, if_neg (by omega), if_pos hl]
    unfold abRes
    rw [if_pos (decide_eq_true hl), hE, if_neg (by decide)]
  · rw [if_neg (by rw [decide_eq_true_eq]; exact hl), num_eq q _ _ (by omega), Option.bind_some, tm 8192 s0.1]
    by_cases hf : (Sp.get q 6 2).1 % 8192 = 0
    · rw [if_pos hf, if_pos (by rw [lb_size]; omega), show bt (lb q) 9 = byteAt q 9 from bt_byte q 9 (by omega), w64 (n := byteAt q 9) (by omega) (by omega)]
      by_cases h6 : byteAt q 9 = 6
      · rw [if_pos h6]
        exact about_j1 k q hq h20 h4 hl hf a0 a1 a2 a3 a4 a5 a6 a7 a8 a9 a10 a11 a12 a13 b1 _ (by simp [h6])
      · rw [if_neg h6]
        exact about_j1 k q hq h20 h4 hl hf a0 a1 a2 a3 a4 a5 a6 a7 a8 a9 a10 a11 a12 a13 b1 _ (by by_cases h7 : byteAt q 9 = 17 <;> simp [h6, h7])
    · have hE : qErr q = 8 := by unfold qErr; rw [if_neg h20, if_neg (by omega), if_neg hl, if_pos (by omega)]
      unfold abRes
      rw [if_neg hf, hE, if_neg (by decide)]
theorem about_eq (k : Nat) (b : List UInt8) (hb : b.length ≤ 1000000) (a0 a1 a2 a3 a4 a5 a6 a7 a8 a9 a10 a11 a12 a13 : Int) (b1 : 0 ≤ a1 ∧ a1 ≤ 100) :
    weighbridgeref09_about.f (k + 2) a0 a1 a2 a3 a4 a5 a6 a7 a8 a9 a10 a11 a12 a13 (lb b) = some (if aboutErr (icmpParse b) = 0 then abRes a1 a2 a8 a9 a10 a11 (icmpParse b).body else (0, 0, 0, 0, 0, 0, 0, 0, 0, 0, 0, 0, 0, 0, aboutErr (icmpParse b))) := by
  have hql : (icmpParse b).body.length ≤ 1000000 := by
    unfold icmpParse
    (repeat' split) <;> simp [icmpNone] <;> omega
  unfold weighbridgeref09_about.f
  rw [show weighbridgeref07_Parse.f (lb b) = some ((Sp.icmpParse b).t, (Sp.icmpParse b).c, (Sp.icmpParse b).r, lb (Sp.icmpParse b).body, (Sp.icmpParse b).e) by unfold weighbridgeref07_Parse.f; rw [if_pos (by rw [lb_size]; exact hb), bl_lb], Option.bind_some]
  simp only
  generalize icmpParse b = m at *
  obtain ⟨t, c, r, q, e⟩ := m
  simp only at hql ⊢
  unfold aboutErr
  simp only
  by_cases he : e = 0
  · rw [if_pos he, if_pos he, error_eq, Option.bind_some]
    by_cases ht : icmpErr t = true
    · rw [if_pos ht, if_pos ht, lb_size]
      have hb0 := ip4B0_bounds q
      by_cases h20 : (q.length : Int) < 20
      · rw [if_pos h20, show qErr q = 2 by unfold qErr; rw [if_pos h20], if_neg (by decide)]
      · have e0 : bt (lb q) 0 = ip4B0 q := (bt_byte q 0 (by omega)).trans (byteAt_zero q)
        rw [if_neg h20, if_pos (by omega), e0, td 16 hb0.1, Int.emod_eq_of_lt (by omega) (by omega), tm 16 hb0.1, w64 (n := ip4B0 q % 16) (by omega) (by omega), w64 (n := 4 * (ip4B0 q % 16)) (by omega) (by omega), show 4 * (ip4B0 q % 16) = ip4Len q from rfl]
        have hR : (if qErr q = 0 then abRes a1 a2 a8 a9 a10 a11 q else (0, 0, 0, 0, 0, 0, 0, 0, 0, 0, 0, 0, 0, 0, qErr q)) = abRes a1 a2 a8 a9 a10 a11 q := by
          unfold abRes; split <;> rfl
        rw [hR]
        by_cases h4 : ip4B0 q / 16 = 4
        · rw [if_pos h4]
          by_cases hl : ip4Len q < 20
          · rw [if_pos hl]
            exact about_j0 k q hql h20 h4 a0 a1 a2 a3 a4 a5 a6 a7 a8 a9 a10 a11 a12 a13 b1 _ (by simp [hl])
          · rw [if_neg hl]
            exact about_j0 k q hql h20 h4 a0 a1 a2 a3 a4 a5 a6 a7 a8 a9 a10 a11 a12 a13 b1 _ (by simp [hl])
        · have hE : qErr q = 3 := by unfold qErr; rw [if_neg h20, if_pos h4]
          unfold abRes
          rw [if_neg h4, hE, if_neg (by decide)]
    · rw [if_neg ht, if_neg ht, if_neg (by decide)]
  · rw [if_neg he, if_neg he, if_neg he]
def tup (p : Pkt) : Int × Int × Int × Int × Int × Int × Int × Int × Int × Int × Int × Int × Int × Int × Int := (p.kind, p.at_, p.total, p.proto, p.tsrc, p.tdst, p.sp, p.dp, p.flags, p.ttl, p.src, p.dst, p.quote, p.inner, p.e)
theorem classify_eq (k : Nat) (s : ByteArray) (hs : s.size ≤ 140737488355328) : weighbridgeref09_Classify.f (k + 3) s = some (tup (pkt (bl s))) := by
  unfold weighbridgeref09_Classify.f pkt
  rw [weighbridgeref04_Parse_eq hs, Option.bind_some]
  simp only
  by_cases he : (ip4Parse (bl s)).e = 0
  · obtain ⟨hz, _, _, hF⟩ := ip4Parse_ok he
    obtain ⟨_, _, l20, _, lt, ts, t15, hS⟩ := ip4Sizes_ok hz
    have hb0 := ip4B0_bounds (bl s)
    have l60 : ip4Len (bl s) ≤ 60 := by unfold ip4Len; omega
    have hSz := weighbridgeref04_Sizes_eq hs
    rw [hS] at hSz
    have f0 : 0 ≤ (ip4Parse (bl s)).flags := by rw [hF]; have := small_get (bl s) 6 2; show 0 ≤ (Sp.get (bl s) 6 2).1 / 8192; omega
    have p0 : 0 ≤ (ip4Parse (bl s)).proto ∧ (ip4Parse (bl s)).proto ≤ 4294967295 := by rw [hF]; have := small_get (bl s) 9 1; show 0 ≤ (Sp.get (bl s) 9 1).1 ∧ (Sp.get (bl s) 9 1).1 ≤ 4294967295; omega
    have x0 : 0 ≤ (ip4Parse (bl s)).src ∧ (ip4Parse (bl s)).src ≤ 4294967295 := by rw [hF]; have := small_get (bl s) 12 4; show 0 ≤ (Sp.get (bl s) 12 4).1 ∧ (Sp.get (bl s) 12 4).1 ≤ 4294967295; omega
    have y0 : 0 ≤ (ip4Parse (bl s)).dst ∧ (ip4Parse (bl s)).dst ≤ 4294967295 := by rw [hF]; have := small_get (bl s) 16 4; show 0 ≤ (Sp.get (bl s) 16 4).1 ∧ (Sp.get (bl s) 16 4).1 ≤ 4294967295; omega
    have bl0 : (ip4Parse (bl s)).body.length ≤ 1500 := by rw [hF]; show (((bl s).take (ip4Tot (bl s)).toNat).drop (ip4Len (bl s)).toNat).length ≤ 1500; rw [List.length_drop, List.length_take]; omega
    clear hF hz hS
    generalize ip4Len (bl s) = n at *
    generalize ip4Tot (bl s) = T at *
    generalize ip4Parse (bl s) = h at *
    obtain ⟨tos, id, fl, fr, ttl, pr, x, y, op, b, e⟩ := h
    simp only at he f0 p0 x0 y0 bl0 ⊢
    rw [if_pos he, tm 2 f0]
    unfold pktOf
    simp only
    rw [if_pos he]
    have hmain : fl % 2 = 0 → fr = 0 → weighbridgeref09_Classify.j0 (k + 3) s (lb b) false tos id fl fr ttl pr x y (lb op) = some (tup (if pr = 1 then pktAbout ⟨tos, id, fl, fr, ttl, pr, x, y, op, b, e⟩ n T else if pr = 6 ∨ pr = 17 then pktPlain ⟨tos, id, fl, fr, ttl, pr, x, y, op, b, e⟩ n T else pktNone 9)) := fun _ _ => by
      rw [weighbridgeref09_Classify.j0, if_neg (by decide), hSz, Option.bind_some]
      simp only
      by_cases h6 : pr = 6
      · subst h6
        rw [if_pos rfl, if_neg (by decide), if_pos (Or.inl rfl), weighbridgeref05_Parse_eq (by rw [lb_size]; omega), Option.bind_some, bl_lb]
        simp only
        unfold pktPlain plainErr endsOf
        simp only [if_true]
        by_cases h0 : (tcpParse b).e = 0
        · rw [if_pos h0, if_pos h0, weighbridgeref08_Verify_eq (by decide) x0 y0 (by rw [lb_size]; omega), Option.bind_some, bl_lb]
          by_cases hv : pverify 6 x y b = 0
          · rw [if_pos hv, if_pos hv]; rfl
          · rw [if_neg hv, if_neg hv]; rfl
        · rw [if_neg h0, if_neg h0, if_neg h0]; rfl
      · rw [if_neg h6]
        by_cases h17 : pr = 17
        · subst h17
          rw [if_pos rfl, if_neg (by decide), if_pos (Or.inr rfl), weighbridgeref06_Parse_eq (by rw [lb_size]; omega), Option.bind_some, bl_lb]
          simp only
          unfold pktPlain plainErr endsOf
          simp only [show ((17 : Int) = 6) = False from eq_false (by decide), if_false]
          by_cases h0 : (udpParse b).2.2.2 = 0
          · rw [if_pos h0, if_pos h0, weighbridgeref08_Verify_eq (by decide) x0 y0 (by rw [lb_size]; omega), Option.bind_some, bl_lb]
            by_cases hv : pverify 17 x y b = 0
            · rw [if_pos hv, if_pos hv]; rfl
            · rw [if_neg hv, if_neg hv]; rfl
          · rw [if_neg h0, if_neg h0, if_neg h0]; rfl
        · rw [if_neg h17]
          by_cases h1 : pr = 1
          · rw [if_pos h1, if_pos h1, about_eq k b (by omega) _ _ _ _ _ _ _ _ _ _ _ _ _ _ ⟨by omega, by omega⟩, Option.bind_some]
            unfold pktAbout
            simp only
            by_cases ha : aboutErr (icmpParse b) = 0
            · have hq : qErr (icmpParse b).body = 0 := by
                unfold aboutErr at ha
                by_cases g1 : (icmpParse b).e = 0
                · rw [if_pos g1] at ha
                  by_cases g2 : icmpErr (icmpParse b).t = true
                  · rw [if_pos g2] at ha; exact ha
                  · rw [if_neg g2] at ha; exact absurd ha (by decide)
                · rw [if_neg g1] at ha; exact absurd ha g1
              rw [if_pos ha, if_pos ha]
              unfold abRes pktQuoted
              rw [if_pos hq]; rfl
            · rw [if_neg ha, if_neg ha]; rfl
          · rw [if_neg h1, if_neg h1, if_neg (by omega)]; rfl
    by_cases hf : fl % 2 = 1
    · rw [if_pos hf, if_neg (by omega), weighbridgeref09_Classify.j0, if_pos rfl]; rfl
    · rw [if_neg hf]
      by_cases hr : fr = 0
      · rw [if_pos ⟨by omega, hr⟩, show (fr != 0) = false by simp [hr]]
        exact hmain (by omega) hr
      · rw [if_neg (fun g => hr g.2), show (fr != 0) = true by simp [hr], weighbridgeref09_Classify.j0, if_pos rfl]; rfl
  · obtain ⟨e, h1, h2⟩ := ip4Parse_err he
    rw [if_neg he, h2]
    unfold pktOf ip4None
    simp only
    rw [if_neg h1]; rfl
theorem nums_len (s : ByteArray) : (numsOf s).length = s.size := by unfold numsOf; rw [List.length_map]; simp
theorem str_size (l : List Int) : (strOfNums l).size = l.length := by
  have : (bl (strOfNums l)).length = l.length := by
    show (l.map (fun n => UInt8.ofNat n.toNat)).length = _
    rw [List.length_map]
  rwa [bl_length] at this
theorem broken_some (F : ByteArray) (hF : F.size ≤ 1000) (a1 a2 : Int) (b1 : -9223372036854775808 ≤ a1 ∧ a1 ≤ 9223372036854775807) : ∃ X, weighbridgelaw10_broken.f F a1 a2 = some X ∧ X.size = F.size := by
  unfold weighbridgelaw10_broken.f
  by_cases h0 : F.toList = ([] : List UInt8)
  · rw [if_pos h0]; exact ⟨F, rfl, rfl⟩
  · rw [if_neg h0]
    have hp : F.size ≠ 0 := fun h => h0 (by rw [toL]; exact List.eq_nil_of_length_eq_zero (by rw [bl_length]; exact h))
    have key : ∀ A : Int, 0 ≤ A → 0 ≤ Int.tmod A ((numsOf F).length : Int) ∧ Int.tmod A ((numsOf F).length : Int) < ((numsOf F).length : Int) := fun A hA => by
      rw [nums_len, tm _ hA]
      exact ⟨Int.emod_nonneg A (by omega), Int.emod_lt_of_pos A (by omega)⟩
    by_cases h1 : a1 < 0
    · rw [if_pos h1, if_pos (by omega), Option.bind_some, if_neg (by rw [nums_len]; omega), w64 (n := a1 + 1) (by omega) (by omega), w64 (n := -(a1 + 1)) (by omega) (by omega)]
      have := key (-(a1 + 1)) (by omega)
      rw [if_pos this.1, if_pos this.2]
      exact ⟨_, rfl, by rw [str_size, List.length_set, nums_len]⟩
    · rw [if_neg h1, if_pos (by omega), Option.bind_some, if_neg (by rw [nums_len]; omega)]
      have := key a1 (by omega)
      rw [if_pos this.1, if_pos this.2]
      exact ⟨_, rfl, by rw [str_size, List.length_set, nums_len]⟩
theorem tn_put {s : List UInt8} {k w : Nat} {n : Int} (hf : fits (w : Int) n = true) (h : k + w ≤ s.length) : bput s (k : Int) (w : Int) n = s.take k ++ beBytes w n ++ s.drop (k + w) ∧ (set s (k : Int) (w : Int) n).2 = true := by
  have hh : has s (k : Int) (w : Int) = true := has_iff.2 ⟨(fits_iff.1 hf).1, (fits_iff.1 hf).2.1, by omega, by omega⟩
  unfold bput
  rw [set_yes hf hh, if_pos rfl]
  rw [show ((k : Int) + (w : Int)).toNat = k + w by omega, Int.toNat_natCast, Int.toNat_natCast]
  exact ⟨rfl, rfl⟩
theorem tn_left {X B : List UInt8} {k w : Nat} {n : Int} (hf : fits (w : Int) n = true) (h : k + w ≤ X.length) : bput (X ++ B) (k : Int) (w : Int) n = bput X (k : Int) (w : Int) n ++ B := by
  rw [(tn_put hf (by rw [List.length_append]; omega)).1, (tn_put hf h).1, List.take_append_of_le_length (by omega), List.drop_append_of_le_length (by omega), List.append_assoc, List.append_assoc, List.append_assoc]
theorem tn_right {X B : List UInt8} {k w : Nat} {n : Int} (hf : fits (w : Int) n = true) (h : k + w ≤ B.length) : bput (X ++ B) ((X.length + k : Nat) : Int) (w : Int) n = X ++ bput B (k : Int) (w : Int) n := by
  rw [(tn_put hf (by rw [List.length_append]; omega)).1, (tn_put hf h).1, List.take_append, List.drop_append, List.take_of_length_le (by omega), List.drop_eq_nil_of_le (by omega), show X.length + k - X.length = k by omega, show X.length + k + w - X.length = k + w by omega, List.nil_append, List.append_assoc, List.append_assoc, List.append_assoc]
theorem tn_get {X B : List UInt8} {k w : Nat} (hw : 1 ≤ w ∧ w ≤ 4) (h : k + w ≤ X.length) : get (X ++ B) (k : Int) (w : Int) = get X (k : Int) (w : Int) := by
  rw [get_yes (has_iff.2 ⟨by omega, by omega, by omega, by rw [List.length_append]; omega⟩), get_yes (has_iff.2 ⟨by omega, by omega, by omega, by omega⟩), Int.toNat_natCast, Int.toNat_natCast, List.drop_append_of_le_length (by omega), List.take_append_of_le_length (by rw [List.length_drop]; omega)]
theorem tn_getr {X B : List UInt8} {k w : Nat} (hw : 1 ≤ w ∧ w ≤ 4) (h : k + w ≤ B.length) : get (X ++ B) ((X.length + k : Nat) : Int) (w : Int) = get B (k : Int) (w : Int) := by
  rw [get_yes (has_iff.2 ⟨by omega, by omega, by omega, by rw [List.length_append]; omega⟩), get_yes (has_iff.2 ⟨by omega, by omega, by omega, by omega⟩), Int.toNat_natCast, Int.toNat_natCast, Int.toNat_natCast, List.drop_append, List.drop_eq_nil_of_le (by omega), show X.length + k - X.length = k by omega, List.nil_append]
theorem tn_fits4 {n : Int} (h : 0 ≤ n ∧ n ≤ 4294967295) : fits 4 n = true := fits_iff.2 ⟨by decide, by decide, h.1, by show n < 4294967296; omega⟩
theorem tn_with {s : List UInt8} {k w : Nat} {n : Int} (hs : s.length ≤ 281474976710656) (hf : fits (w : Int) n = true) (h : k + w ≤ s.length) : weighbridgeref10_with.f (lb s) (k : Int) (w : Int) n = some (lb (bput s (k : Int) (w : Int) n)) := by
  have hn := fits_iff.1 hf
  have hb : n < 4294967296 := by
    rcases (show w = 1 ∨ w = 2 ∨ w = 3 ∨ w = 4 by omega) with rfl | rfl | rfl | rfl
    · have : n < 256 := hn.2.2.2; omega
    · have : n < 65536 := hn.2.2.2; omega
    · have : n < 16777216 := hn.2.2.2; omega
    · have : n < 4294967296 := hn.2.2.2; omega
  unfold weighbridgeref10_with.f
  rw [weighbridgeref01_Set_eq _ _ _ _ (by rw [lb_size]; exact hs) (by omega) (by omega), Option.bind_some, bl_lb]
  unfold bput
  rw [if_pos (tn_put hf h).2]
theorem tn_num {s : List UInt8} (a b : Int) (hs : s.length ≤ 281474976710656) : weighbridgeref10_num.f (lb s) a b = some (get s a b).1 := by
  unfold weighbridgeref10_num.f
  rw [weighbridgeref01_Get_eq _ _ _ (by rw [lb_size]; exact hs), Option.bind_some, bl_lb]
theorem tn_byte {s : List UInt8} (h : 20 ≤ s.length) : (get s 8 1).1 ≤ 255 := by
  rw [get_yes (has_iff.2 ⟨by decide, by decide, by decide, by omega⟩)]
  have hb := (beNum_bounds ((s.drop 8).take 1)).2
  rw [show ((s.drop 8).take 1).length = 1 by rw [List.length_take, List.length_drop]; omega] at hb
  show beNum ((s.drop 8).take 1) ≤ 255
  have : beNum ((s.drop 8).take 1) < 256 := hb
  omega
theorem tn_outer {s : List UInt8} {N : Nat} {u v : Int} (hs : s.length ≤ 1000000) (h20 : 20 ≤ s.length) (hN : N ≤ s.length) (hl : 1 ≤ (get s 8 1).1) (hu : 0 ≤ u ∧ u ≤ 4294967295) (hv : 0 ≤ v ∧ v ≤ 4294967295) :
    weighbridgeref10_outer.f (lb s) (N : Int) u v = some (lb (outer s (N : Int) u v)) := by
  have hg := small_get s 8 1
  have hg1 := tn_byte h20
  have f1 : fits ((1 : Nat) : Int) ((get s 8 1).1 - 1) = true := fits1.2 ⟨by omega, by omega⟩
  unfold weighbridgeref10_outer.f outer recheck turnEnds
  rw [tn_num 8 1 (by omega), Option.bind_some, w64 (n := (get s 8 1).1 - 1) (by omega) (by omega), w64 (n := u) (by omega) (by omega), w64 (n := v) (by omega) (by omega)]
  have e1 : weighbridgeref10_with.f (lb s) 8 1 ((get s 8 1).1 - 1) = some (lb (bput s 8 1 ((get s 8 1).1 - 1))) := tn_with (k := 8) (w := 1) (by omega) f1 (by omega)
  have l1 := pt_len s 8 1 ((get s 8 1).1 - 1)
  rw [e1, Option.bind_some]
  generalize bput s 8 1 ((get s 8 1).1 - 1) = A at *
  have e2 : weighbridgeref10_with.f (lb A) 12 4 u = some (lb (bput A 12 4 u)) := tn_with (k := 12) (w := 4) (by omega) (tn_fits4 hu) (by omega)
  have l2 := pt_len A 12 4 u
  rw [e2, Option.bind_some]
  generalize bput A 12 4 u = A2 at *
  have e3 : weighbridgeref10_with.f (lb A2) 16 4 v = some (lb (bput A2 16 4 v)) := tn_with (k := 16) (w := 4) (by omega) (tn_fits4 hv) (by omega)
  have l3 := pt_len A2 16 4 v
  rw [e3, Option.bind_some]
  generalize bput A2 16 4 v = A3 at *
  have e4 : weighbridgeref10_with.f (lb A3) 10 2 0 = some (lb (bput A3 10 2 0)) := tn_with (k := 10) (w := 2) (by omega) (by decide) (by omega)
  have l4 := pt_len A3 10 2 0
  rw [e4, Option.bind_some]
  generalize bput A3 10 2 0 = A4 at *
  have hc := check_bounds ((A4.take N).drop 0)
  rw [if_pos (by omega), if_pos (by rw [lb_size]; omega), extract_lb, Int.toNat_natCast, weighbridgeref03_Check_eq (by rw [lb_size, List.length_drop, List.length_take]; omega), Option.bind_some, bl_lb, w64 (n := check ((A4.take N).drop 0)) (by omega) (by omega)]
  have e5 : weighbridgeref10_with.f (lb A4) 10 2 (check ((A4.take N).drop 0)) = some (lb (bput A4 10 2 (check ((A4.take N).drop 0)))) := tn_with (k := 10) (w := 2) (by omega) (fits2.2 hc) (by omega)
  rw [e5, Option.bind_some]; rfl
theorem ready_zero {s : List UInt8} {K sp dp : Int} (h : ready s K sp dp = 0) : (pkt s).e = 0 ∧ (pkt s).kind = K ∧ (0 ≤ sp ∧ sp ≤ 65535) ∧ (0 ≤ dp ∧ dp ≤ 65535) ∧ 2 ≤ (pkt s).ttl := by
  unfold ready at h
  by_cases he : (pkt s).e = 0
  · rw [if_pos he] at h
    by_cases hk : (pkt s).kind = K ∧ fits 2 sp = true ∧ fits 2 dp = true
    · rw [if_pos hk] at h
      by_cases ht : (pkt s).ttl < 2
      · rw [if_pos ht] at h; exact absurd h (by decide)
      · exact ⟨he, hk.1, fits2.1 hk.2.1, fits2.1 hk.2.2, by omega⟩
    · rw [if_neg hk] at h; exact absurd h (by decide)
  · rw [if_neg he] at h; exact absurd h he
def rtup (p : Pkt) (e : Int) : Int × Int × Int × Int × Int × Int × Int × Int × Int × Int × Int × Int × Int × Int × Int := (p.kind, p.at_, p.total, p.proto, p.tsrc, p.tdst, p.sp, p.dp, p.flags, p.ttl, p.src, p.dst, p.quote, p.inner, e)
theorem ready_ref (k : Nat) (s : ByteArray) (hs : s.size ≤ 140737488355328) (K u v sp dp : Int) : weighbridgeref10_ready.f (k + 3) s K u v sp dp = some (rtup (pkt (bl s)) (ready (bl s) K sp dp)) := by
  unfold weighbridgeref10_ready.f ready
  rw [classify_eq k s hs, Option.bind_some]
  unfold tup rtup
  simp only
  generalize pkt (bl s) = p
  by_cases he : p.e = 0
  · rw [if_pos he, if_pos he]
    by_cases hk : p.kind = K
    · rw [if_pos hk]
      by_cases h1 : sp < 0
      · rw [if_pos h1, weighbridgeref10_ready.j0, if_pos rfl, if_neg (fun x => by have := fits2.1 x.2.1; omega)]
      · rw [if_neg h1]
        by_cases h2 : sp > 65535
        · rw [if_pos h2, weighbridgeref10_ready.j0, if_pos rfl, if_neg (fun x => by have := fits2.1 x.2.1; omega)]
        · rw [if_neg h2]
          by_cases h3 : dp < 0
          · rw [if_pos h3, weighbridgeref10_ready.j0, if_pos rfl, if_neg (fun x => by have := fits2.1 x.2.2; omega)]
          · rw [if_neg h3, weighbridgeref10_ready.j0]
            by_cases h4 : dp > 65535
            · rw [if_pos (decide_eq_true h4), if_neg (fun x => by have := fits2.1 x.2.2; omega)]
            · rw [if_neg (by rw [decide_eq_true_eq]; exact h4), if_pos (show p.kind = K ∧ fits 2 sp = true ∧ fits 2 dp = true from ⟨hk, fits2.2 ⟨by omega, by omega⟩, fits2.2 ⟨by omega, by omega⟩⟩)]
              by_cases h5 : p.ttl < 2
              · rw [if_pos h5, if_pos h5]
              · rw [if_neg h5, if_neg h5]
    · rw [if_neg hk, weighbridgeref10_ready.j0, if_pos rfl, if_neg (fun x => hk x.1)]
  · rw [if_neg he, if_neg he]
theorem tn_comm {s : List UInt8} {k w j v : Nat} {a b : Int} (hf : fits (w : Int) a = true) (hg : fits (v : Int) b = true) (h : k + w ≤ j) (hj : j + v ≤ s.length) : bput (bput s (j : Int) (v : Int) b) (k : Int) (w : Int) a = bput (bput s (k : Int) (w : Int) a) (j : Int) (v : Int) b := by
  obtain ⟨X, hX⟩ : ∃ X, X = s.take j := ⟨_, rfl⟩
  obtain ⟨B, hB⟩ : ∃ B, B = s.drop j := ⟨_, rfl⟩
  have hs : s = X ++ B := by rw [hX, hB, List.take_append_drop]
  have lX : X.length = j := by rw [hX, List.length_take]; omega
  have lB : B.length = s.length - j := by rw [hB, List.length_drop]
  have e1 := tn_right (X := X) (B := B) (k := 0) (w := v) (n := b) hg (by omega)
  have l1 := pt_len X (k : Int) (w : Int) a
  have e2 := tn_right (X := bput X (k : Int) (w : Int) a) (B := B) (k := 0) (w := v) (n := b) hg (by omega)
  rw [show X.length + 0 = j by omega] at e1
  rw [show (bput X (k : Int) (w : Int) a).length + 0 = j by omega] at e2
  rw [hs, e1, tn_left hf (by omega), tn_left hf (by omega), e2]
theorem tn_getp {s : List UInt8} {k w j v : Nat} {a : Int} (hf : fits (w : Int) a = true) (hv : 1 ≤ v ∧ v ≤ 4) (h : k + w ≤ j) (hj : j + v ≤ s.length) : get (bput s (k : Int) (w : Int) a) (j : Int) (v : Int) = get s (j : Int) (v : Int) := by
  obtain ⟨X, hX⟩ : ∃ X, X = s.take j := ⟨_, rfl⟩
  obtain ⟨B, hB⟩ : ∃ B, B = s.drop j := ⟨_, rfl⟩
  have hs : s = X ++ B := by rw [hX, hB, List.take_append_drop]
  have lX : X.length = j := by rw [hX, List.length_take]; omega
  have lB : B.length = s.length - j := by rw [hB, List.length_drop]
  have l1 := pt_len X (k : Int) (w : Int) a
  have e1 := tn_getr (X := X) (B := B) (k := 0) (w := v) hv (by omega)
  have e2 := tn_getr (X := bput X (k : Int) (w : Int) a) (B := B) (k := 0) (w := v) hv (by omega)
  rw [show X.length + 0 = j by omega] at e1
  rw [show (bput X (k : Int) (w : Int) a).length + 0 = j by omega] at e2
  rw [hs, tn_left hf (by omega), e1, e2]
theorem icmp_body {b : List UInt8} (h : (icmpParse b).e = 0) : (icmpParse b).body.length + 8 = b.length := by
  unfold icmpParse at h ⊢
  by_cases h8 : b.length < 8
  · rw [if_pos h8] at h; exact absurd h (by decide)
  · rw [if_neg h8] at h ⊢
    by_cases hs : sum b = 65535
    · rw [if_pos hs]; show (b.drop 8).length + 8 = b.length; rw [List.length_drop]; omega
    · rw [if_neg hs] at h; exact absurd h (by decide)
theorem about_facts {s : List UInt8} (he : (pkt s).e = 0) (hk : (pkt s).kind = 2) : (pkt s).ttl = (get s 8 1).1 ∧ (pkt s).quote = (pkt s).at_ + 8 ∧ (pkt s).quote + 20 ≤ (pkt s).inner ∧ (pkt s).inner + 8 ≤ (pkt s).total := by
  unfold pkt pktOf at he hk ⊢
  by_cases h : (ip4Parse s).e = 0
  · rw [if_pos h] at he hk ⊢
    obtain ⟨hz, _, _, hF⟩ := ip4Parse_ok h
    obtain ⟨_, _, a1, _, a2, a3, a4, _⟩ := ip4Sizes_ok hz
    have hb : (ip4Parse s).body.length = (ip4Tot s - ip4Len s).toNat := by
      rw [hF]; show ((s.take (ip4Tot s).toNat).drop (ip4Len s).toNat).length = _
      rw [List.length_drop, List.length_take]; omega
    have hl : (ip4Parse s).ttl = (get s 8 1).1 := by rw [hF]; rfl
    by_cases hf : (ip4Parse s).flags % 2 = 0 ∧ (ip4Parse s).frag = 0
    · rw [if_pos hf] at he hk ⊢
      by_cases h1 : (ip4Parse s).proto = 1
      · rw [if_pos h1] at he hk ⊢
        unfold pktAbout at he hk ⊢
        by_cases ha : aboutErr (icmpParse (ip4Parse s).body) = 0
        · rw [if_pos ha]
          unfold aboutErr at ha
          by_cases h0 : (icmpParse (ip4Parse s).body).e = 0
          · rw [if_pos h0] at ha
            by_cases hi : icmpErr (icmpParse (ip4Parse s).body).t = true
            · rw [if_pos hi] at ha
              have hq : (icmpParse (ip4Parse s).body).body.length + 8 = (ip4Parse s).body.length := icmp_body h0
              unfold pktQuoted
              refine ⟨hl, rfl, ?_⟩
              show ip4Len s + 8 + 20 ≤ ip4Len s + 8 + ip4Len (icmpParse (ip4Parse s).body).body ∧ ip4Len s + 8 + ip4Len (icmpParse (ip4Parse s).body).body + 8 ≤ ip4Tot s
              generalize (icmpParse (ip4Parse s).body).body = Q at *
              unfold qErr at ha
              by_cases c1 : (Q.length : Int) < 20
              · rw [if_pos c1] at ha; exact absurd ha (by decide)
              · rw [if_neg c1] at ha
                by_cases c2 : ip4B0 Q / 16 ≠ 4
                · rw [if_pos c2] at ha; exact absurd ha (by decide)
                · rw [if_neg c2] at ha
                  by_cases c3 : ip4Len Q < 20 ∨ ip4Len Q > Q.length
                  · rw [if_pos c3] at ha; exact absurd ha (by decide)
                  · rw [if_neg c3] at ha
                    by_cases c4 : (get Q 6 2).1 % 8192 ≠ 0
                    · rw [if_pos c4] at ha; exact absurd ha (by decide)
                    · rw [if_neg c4] at ha
                      by_cases c5 : byteAt Q 9 ≠ 6 ∧ byteAt Q 9 ≠ 17
                      · rw [if_pos c5] at ha; exact absurd ha (by decide)
                      · rw [if_neg c5] at ha
                        by_cases c6 : (Q.length : Int) - ip4Len Q < 8
                        · rw [if_pos c6] at ha; exact absurd ha (by decide)
                        · omega
            · rw [if_neg hi] at ha; exact absurd ha (by decide)
          · rw [if_neg h0] at ha; exact absurd ha h0
        · rw [if_neg ha] at hk; exact absurd hk (by simp [pktNone])
      · rw [if_neg h1] at hk
        exfalso
        unfold pktPlain at hk
        revert hk
        (repeat' split) <;> (intro hk; first | exact absurd hk (by decide) | (simp [pktNone] at hk))
    · rw [if_neg hf] at hk; exact absurd hk (by simp [pktNone])
  · rw [if_neg h] at hk; exact absurd hk (by simp [pktNone])
theorem j1_eq (k : Nat) {S : List UInt8} {n i : Nat} {u v sp dp y0 y2 y3 y4 y5 y6 y7 y8 y9 y10 y11 y12 : Int} (hs : S.length ≤ 1000000) (hn : n + 4 ≤ S.length) (hi : i + 4 ≤ S.length) (h1 : 0 ≤ sp ∧ sp ≤ 65535) (h2 : 0 ≤ dp ∧ dp ≤ 65535) :
    weighbridgeref10_About.j1 (k + 1) (lb S) u v sp dp y0 (n : Int) y2 y3 y4 y5 y6 y7 y8 y9 y10 y11 y12 (i : Int) = some (lb (recheck (bput (bput S (i : Int) 2 sp) ((i : Int) + 2) 2 dp) ((n : Int) + 2) (n : Int) (S.length : Int)), 0) := by
  rw [weighbridgeref10_About.j1]
  unfold recheck
  have e1 : weighbridgeref10_with.f (lb S) (i : Int) 2 sp = some (lb (bput S (i : Int) 2 sp)) := tn_with (w := 2) (by omega) (fits2.2 h1) (by omega)
  have l1 := pt_len S (i : Int) 2 sp
  rw [e1, Option.bind_some, w64 (n := (i : Int) + 2) (by omega) (by omega), w64 (n := (n : Int) + 2) (by omega) (by omega)]
  generalize bput S (i : Int) 2 sp = A at *
  have e2 : weighbridgeref10_with.f (lb A) ((i : Int) + 2) 2 dp = some (lb (bput A ((i : Int) + 2) 2 dp)) := tn_with (k := i + 2) (w := 2) (by omega) (fits2.2 h2) (by omega)
  have l2 := pt_len A ((i : Int) + 2) 2 dp
  rw [e2, Option.bind_some]
  generalize bput A ((i : Int) + 2) 2 dp = A2 at *
  have e3 : weighbridgeref10_with.f (lb A2) ((n : Int) + 2) 2 0 = some (lb (bput A2 ((n : Int) + 2) 2 0)) := tn_with (k := n + 2) (w := 2) (by omega) (by decide) (by omega)
  have l3 := pt_len A2 ((n : Int) + 2) 2 0
  rw [e3, Option.bind_some]
  generalize bput A2 ((n : Int) + 2) 2 0 = A3 at *
  have hl : A3.length = S.length := by omega
  rw [if_pos (by omega), if_pos (by rw [lb_size]; omega), extract_lb, Int.toNat_natCast, Int.toNat_natCast, lb_size, hl, weighbridgeref03_Check_eq (by rw [lb_size, List.length_drop, List.length_take]; omega), Option.bind_some, bl_lb]
  have hc := check_bounds ((A3.take S.length).drop n)
  rw [w64 (n := check ((A3.take S.length).drop n)) (by omega) (by omega)]
  have e5 : weighbridgeref10_with.f (lb A3) ((n : Int) + 2) 2 (check ((A3.take S.length).drop n)) = some (lb (bput A3 ((n : Int) + 2) 2 (check ((A3.take S.length).drop n)))) := tn_with (k := n + 2) (w := 2) (by omega) (fits2.2 hc) (by omega)
  rw [e5, Option.bind_some]
theorem on_eq {c p a b s d u v sp dp : Int} (hc : 0 ≤ c ∧ c ≤ 65535) (ha : 0 ≤ a ∧ a ≤ 4294967295) (hb : 0 ≤ b ∧ b ≤ 4294967295) (hu : 0 ≤ u ∧ u ≤ 4294967295) (hv : 0 ≤ v ∧ v ≤ 4294967295) :
    weighbridgeref10_on.f c p a b s d u v sp dp = some (moved c a b u v) ∧ 0 ≤ moved c a b u v ∧ moved c a b u v ≤ 65535 := by
  have u1 := r3_update_bounds (c := c) (o := a / 65536) (n := u / 65536) hc.2 (by omega) (by omega)
  have u2 : 0 ≤ update32 c a u ∧ update32 c a u ≤ 65535 := r3_update_bounds u1.2 (by omega) (by omega)
  have u3 := r3_update_bounds (c := update32 c a u) (o := b / 65536) (n := v / 65536) u2.2 (by omega) (by omega)
  have u4 : 0 ≤ moved c a b u v ∧ moved c a b u v ≤ 65535 := r3_update_bounds u3.2 (by omega) (by omega)
  refine ⟨?_, u4⟩
  unfold weighbridgeref10_on.f
  rw [r3_u16 hc.1 hc.2, weighbridgeref03_Update32_eq hc ha hu, Option.bind_some, weighbridgeref03_Update32_eq u2 hb hv, Option.bind_some]
  exact congrArg some (w64 (n := moved c a b u v) (by omega) (by omega))
theorem ports_eq {c s d sp dp : Int} (hc : 0 ≤ c ∧ c ≤ 65535) (h1 : 0 ≤ s ∧ s ≤ 65535) (h2 : 0 ≤ d ∧ d ≤ 65535) (h3 : 0 ≤ sp ∧ sp ≤ 65535) (h4 : 0 ≤ dp ∧ dp ≤ 65535) :
    0 ≤ update c s sp ∧ update c s sp ≤ 65535 ∧ 0 ≤ movedPorts c s d sp dp ∧ movedPorts c s d sp dp ≤ 65535 := by
  have u1 := r3_update_bounds (c := c) (o := s) (n := sp) hc.2 h1.2 h3.1
  have u2 := r3_update_bounds (c := update c s sp) (o := d) (n := dp) u1.2 h2.2 h4.1
  exact ⟨u1.1, u1.2, u2⟩
theorem j0_eq (k : Nat) {S : List UInt8} {n i g : Nat} {old u v sp dp y0 y2 y3 a b s d y8 y9 y10 y11 y12 : Int} (z18 z : Bool) (hs : S.length ≤ 1000000) (hn : n + 4 ≤ S.length) (hi : i + 4 ≤ S.length) (hg : z = true → g + 2 ≤ S.length) (ho : 0 ≤ old ∧ old ≤ 65535)
    (ha : 0 ≤ a ∧ a ≤ 4294967295) (hb : 0 ≤ b ∧ b ≤ 4294967295) (hs' : 0 ≤ s ∧ s ≤ 65535) (hd' : 0 ≤ d ∧ d ≤ 65535) (hu : 0 ≤ u ∧ u ≤ 4294967295) (hv : 0 ≤ v ∧ v ≤ 4294967295) (h1 : 0 ≤ sp ∧ sp ≤ 65535) (h2 : 0 ≤ dp ∧ dp ≤ 65535) :
    weighbridgeref10_About.j0 (k + 2) (lb S) (g : Int) old z18 z u v sp dp y0 (n : Int) y2 y3 a b s d y8 y9 y10 y11 y12 (i : Int) = some (lb (recheck (bput (bput (if z = true then bput S (g : Int) 2 (if z18 = true ∧ movedPorts (moved old a b u v) s d sp dp = 0 then 65535 else movedPorts (moved old a b u v) s d sp dp) else S) (i : Int) 2 sp) ((i : Int) + 2) 2 dp) ((n : Int) + 2) (n : Int) (S.length : Int)), 0) := by
  rw [weighbridgeref10_About.j0]
  cases z
  · rw [if_neg (by decide), if_neg (by decide)]
    exact j1_eq k hs hn hi h1 h2
  · obtain ⟨e1, m0, m1⟩ := on_eq (p := y3) (s := s) (d := d) (sp := sp) (dp := dp) ho ha hb hu hv
    obtain ⟨p0, p1, p2, p3⟩ := ports_eq (c := moved old a b u v) (d := d) (dp := dp) ⟨m0, m1⟩ hs' hd' h1 h2
    have hg' := hg rfl
    rw [if_pos rfl, if_pos rfl, e1, Option.bind_some, r3_u16 m0 m1, r3_u16 hs'.1 hs'.2, r3_u16 h1.1 h1.2, weighbridgeref03_Update_eq ⟨m0, m1⟩ hs' h1, Option.bind_some, r3_u16 hd'.1 hd'.2, r3_u16 h2.1 h2.2, weighbridgeref03_Update_eq ⟨p0, p1⟩ hd' h2, Option.bind_some]
    show (if z18 = true then if movedPorts (moved old a b u v) s d sp dp = 0 then _ else _ else _) = _
    have fin : ∀ c : Int, 0 ≤ c ∧ c ≤ 65535 → ((weighbridgeref10_with.f (lb S) (g : Int) 2 c).bind fun t => weighbridgeref10_About.j1 (k + 1) t u v sp dp y0 (n : Int) y2 y3 a b s d y8 y9 y10 y11 y12 (i : Int)) = some (lb (recheck (bput (bput (bput S (g : Int) 2 c) (i : Int) 2 sp) ((i : Int) + 2) 2 dp) ((n : Int) + 2) (n : Int) (S.length : Int)), 0) := fun c hc => by
      have e2 : weighbridgeref10_with.f (lb S) (g : Int) 2 c = some (lb (bput S (g : Int) 2 c)) := tn_with (w := 2) (by omega) (fits2.2 hc) hg'
      have l := pt_len S (g : Int) 2 c
      rw [e2, Option.bind_some, j1_eq k (by omega) (by omega) (by omega) h1 h2, l]
    change (if z18 = true then if movedPorts (moved old a b u v) s d sp dp = 0 then (weighbridgeref10_with.f (lb S) (g : Int) 2 65535).bind _ else (weighbridgeref10_with.f (lb S) (g : Int) 2 (wrap64 (movedPorts (moved old a b u v) s d sp dp))).bind _ else (weighbridgeref10_with.f (lb S) (g : Int) 2 (wrap64 (movedPorts (moved old a b u v) s d sp dp))).bind _) = _
    rw [w64 (n := movedPorts (moved old a b u v) s d sp dp) (by omega) (by omega)]
    cases z18
    · rw [if_neg (by decide), if_neg (fun x => absurd x.1 (by decide))]
      exact fin _ ⟨p2, p3⟩
    · rw [if_pos rfl]
      by_cases h0 : movedPorts (moved old a b u v) s d sp dp = 0
      · rw [if_pos h0, if_pos ⟨rfl, h0⟩]; exact fin _ ⟨by decide, by decide⟩
      · rw [if_neg h0, if_neg (fun x => h0 x.2)]; exact fin _ ⟨p2, p3⟩
theorem msg_eq (k : Nat) (s : ByteArray) (hs : s.size ≤ 140737488355328) {x y u v sp dp : Int} (hx : 0 ≤ x ∧ x ≤ 4294967295) (hy : 0 ≤ y ∧ y ≤ 4294967295) (hu : 0 ≤ u ∧ u ≤ 4294967295) (hv : 0 ≤ v ∧ v ≤ 4294967295) :
    weighbridgeref10_About.f (k + 3) s x y u v sp dp = some (lb (patchAbout (bl s) x y u v sp dp).1, (patchAbout (bl s) x y u v sp dp).2) := by
  unfold weighbridgeref10_About.f patchAbout
  rw [ready_ref k s hs, Option.bind_some]
  unfold rtup
  simp only
  obtain ⟨q, rfl⟩ : ∃ q, s = lb q := ⟨bl s, (lb_bl s).symm⟩
  rw [bl_lb]
  rw [lb_size] at hs
  by_cases hr : ready q 2 sp dp = 0
  · obtain ⟨he, hk, hsp, hdp, ht⟩ := ready_zero hr
    obtain ⟨a1, a2, a3, a4, hp, hts, htd, hos, hod, _, _⟩ := pt_two he hk
    obtain ⟨hl, hq, hq2, hi⟩ := about_facts he hk
    rw [hl] at ht
    rw [if_pos hr, if_pos hr]
    unfold turnAbout turnInner turnCheck turnQuote
    clear hr he hk hl
    generalize pkt q = p at *
    obtain ⟨kd, N, T, pr, ts, td, osp, odp, fl, tl, xs, xd, Q, I, er⟩ := p
    simp only at *
    subst hq
    obtain ⟨n, rfl⟩ := Int.eq_ofNat_of_zero_le (show 0 ≤ N by omega)
    obtain ⟨t, rfl⟩ := Int.eq_ofNat_of_zero_le (show 0 ≤ T by omega)
    obtain ⟨i, rfl⟩ := Int.eq_ofNat_of_zero_le (show 0 ≤ I by omega)
    have g1 : (get (q.take t) 8 1).1 = (get q 8 1).1 := by
      have := tn_get (X := q.take t) (B := q.drop t) (k := 8) (w := 1) ⟨by omega, by omega⟩ (by rw [List.length_take]; omega)
      rw [List.take_append_drop] at this
      exact congrArg (·.1) this.symm
    rw [if_pos (by omega), if_pos (by rw [lb_size]; omega), extract_lb, Int.toNat_natCast, List.drop_zero, tn_outer (by rw [List.length_take]; omega) (by rw [List.length_take]; omega) (by rw [List.length_take]; omega) (by omega) hx hy, Option.bind_some]
    have lO := pt_outer_len (q.take t) (n : Int) x y
    rw [List.length_take] at lO
    generalize outer (q.take t) (n : Int) x y = O at *
    have gO := pt_get2 O ((n : Int) + 8 + 10)
    obtain ⟨eo, o0, o1⟩ := on_eq (p := pr) (s := osp) (d := odp) (sp := sp) (dp := dp) gO hts htd hu hv
    rw [w64 (n := (n : Int) + 8 + 10) (by omega) (by omega), w64 (n := (n : Int) + 8 + 12) (by omega) (by omega), w64 (n := (n : Int) + 8 + 16) (by omega) (by omega), w64 (n := u) (by omega) (by omega), w64 (n := v) (by omega) (by omega), tn_num _ _ (by omega), Option.bind_some, eo, Option.bind_some]
    generalize moved (get O ((n : Int) + 8 + 10) 2).1 ts td u v = c0 at *
    have e1 : weighbridgeref10_with.f (lb O) ((n : Int) + 8 + 10) 2 c0 = some (lb (bput O ((n : Int) + 8 + 10) 2 c0)) := tn_with (k := n + 8 + 10) (w := 2) (by omega) (fits2.2 ⟨o0, o1⟩) (by omega)
    have l1 := pt_len O ((n : Int) + 8 + 10) 2 c0
    rw [e1, Option.bind_some]
    generalize bput O ((n : Int) + 8 + 10) 2 c0 = M at *
    have f2 : fits ((4 : Nat) : Int) u = true := tn_fits4 hu
    have f3 : fits ((4 : Nat) : Int) v = true := tn_fits4 hv
    have e2 : weighbridgeref10_with.f (lb M) ((n : Int) + 8 + 12) 4 u = some (lb (bput M ((n : Int) + 8 + 12) 4 u)) := tn_with (k := n + 8 + 12) (w := 4) (by omega) f2 (by omega)
    have l2 := pt_len M ((n : Int) + 8 + 12) 4 u
    obtain ⟨A, hA⟩ : ∃ A, A = bput M ((n : Int) + 8 + 12) 4 u := ⟨_, rfl⟩
    rw [e2, Option.bind_some, ← hA]
    rw [← hA] at l2
    have e3 : weighbridgeref10_with.f (lb A) ((n : Int) + 8 + 16) 4 v = some (lb (bput A ((n : Int) + 8 + 16) 4 v)) := tn_with (k := n + 8 + 16) (w := 4) (by omega) f3 (by omega)
    have l3 := pt_len A ((n : Int) + 8 + 16) 4 v
    obtain ⟨A2, hA2⟩ : ∃ A2, A2 = bput A ((n : Int) + 8 + 16) 4 v := ⟨_, rfl⟩
    rw [e3, Option.bind_some, ← hA2]
    rw [← hA2] at l3
    obtain ⟨pl, hpl, hpb⟩ : ∃ pl : Nat, place pr = ((pl : Int), true) ∧ pl ≤ 16 := by
      rcases hp with rfl | rfl
      · exact ⟨16, rfl, by omega⟩
      · exact ⟨6, rfl, by omega⟩
    rw [show weighbridgeref08_Place.f pr = some (place pr) from rfl, Option.bind_some, hpl]
    simp only
    rw [w64 (n := (i : Int) + (pl : Int)) (by omega) (by omega), weighbridgeref01_Get_eq _ _ _ (by rw [lb_size]; omega), Option.bind_some, bl_lb]
    have lM : (M.length : Int) = (t : Int) := by omega
    have hj := fun (o : Int) (z18 z : Bool) (ho : 0 ≤ o ∧ o ≤ 65535) (hg : z = true → i + pl + 2 ≤ A2.length) => j0_eq (k + 1) (S := A2) (n := n) (i := i) (g := i + pl) (old := o) (y0 := kd) (y2 := (t : Int)) (y3 := pr) (y8 := fl) (y9 := tl) (y10 := xs) (y11 := xd) (y12 := (n : Int) + 8) z18 z (by omega) (by omega) (by omega) hg ho hts htd hos hod hu hv hsp hdp
    rw [show ((A2.length : Nat) : Int) = (t : Int) by omega] at hj
    by_cases hat : i + pl + 2 ≤ t
    · have gM : get A2 ((i : Int) + (pl : Int)) 2 = get M ((i : Int) + (pl : Int)) 2 := by
        have c1 := tn_getp (s := A) (k := n + 8 + 16) (w := 4) (j := i + pl) (v := 2) f3 ⟨by omega, by omega⟩ (by omega) (by omega)
        have c2 := tn_getp (s := M) (k := n + 8 + 12) (w := 4) (j := i + pl) (v := 2) f2 ⟨by omega, by omega⟩ (by omega) (by omega)
        rw [hA2, hA]
        rw [hA] at c1
        exact c1.trans c2
      have gt : (get M ((i : Int) + (pl : Int)) 2).2 = true := by rw [get_snd]; exact has_iff.2 ⟨by decide, by decide, by omega, by omega⟩
      have gb := pt_get2 M ((i : Int) + (pl : Int))
      rw [gM, if_pos gt]
      generalize (get M ((i : Int) + (pl : Int)) 2).1 = old at *
      have cm : ∀ c : Int, 0 ≤ c ∧ c ≤ 65535 → bput (bput (bput M ((i : Int) + (pl : Int)) 2 c) ((n : Int) + 8 + 12) 4 u) ((n : Int) + 8 + 16) 4 v = bput A2 ((i : Int) + (pl : Int)) 2 c := fun c hc => by
        have c1 := tn_comm (s := M) (k := n + 8 + 12) (w := 4) (j := i + pl) (v := 2) f2 (fits2.2 hc) (by omega) (by omega)
        have c2 := tn_comm (s := A) (k := n + 8 + 16) (w := 4) (j := i + pl) (v := 2) f3 (fits2.2 hc) (by omega) (by omega)
        rw [hA2, hA]
        rw [hA] at c2
        exact (congrArg (fun l => bput l ((n : Int) + 8 + 16) 4 v) c1).trans c2
      have mp := ports_eq (c := moved old ts td u v) (s := osp) (d := odp) (sp := sp) (dp := dp) (on_eq (p := pr) (s := osp) (d := odp) (sp := sp) (dp := dp) gb hts htd hu hv).2 hos hod hsp hdp
      have hh := fun (z18 z : Bool) => hj old z18 z gb (fun _ => by omega)
      rcases hp with rfl | rfl
      · rw [if_neg (by decide), if_pos ⟨by omega, fun x => absurd x.1 (by decide)⟩, if_neg (fun x => absurd x.1 (by decide)), cm _ mp.2.2]
        have := hh false true
        rw [if_pos rfl, if_neg (fun x => absurd x.1 (by decide))] at this
        exact this
      · rw [if_pos rfl]
        by_cases h0 : old = 0
        · rw [if_neg (fun x => x.2 ⟨rfl, h0⟩), ← hA, ← hA2]
          have := hh true false
          rw [if_neg (by decide)] at this
          rw [show (!(old == 0)) = false by rw [h0]; rfl]
          exact this
        · rw [if_pos ⟨by omega, fun x => h0 x.2⟩, cm _ (by split; exact ⟨by decide, by decide⟩; exact mp.2.2)]
          have := hh true true
          rw [if_pos rfl] at this
          rw [show (!(old == 0)) = true by rw [BF h0]; rfl]
          simp only [true_and] at this ⊢
          exact this
    · have gt : (get A2 ((i : Int) + (pl : Int)) 2).2 = false := by rw [get_snd]; exact has_no (by omega)
      have gb := pt_get2 A2 ((i : Int) + (pl : Int))
      rw [gt, if_neg (by decide), if_neg (fun x => by omega), ← hA, ← hA2]
      have := hj _ (pr == 17) false gb (fun x => absurd x (by decide))
      rw [if_neg (by decide)] at this
      exact this
  · rw [if_neg hr, if_neg hr]; rfl
open Go.Proofs.YtfnjohklmpiboaaGreat.Frm in
theorem PatchAbout : weighbridgelaw10_PatchAbout.Pure := by
  intro k s d sp dp fl tt b z x y a1 a2 p q u v e1 e2 more w0 w1 w2 w3 w4 w5 w6 wb w9 w10 q1 q2 x1 x2 v1 v2 v3 v4 wm
  have b0 := wf_u8 w0
  have b1 := wf_u32 w1
  have b2 := wf_u32 w2
  have b3 := wf_u16 w3
  have b4 := wf_u16 w4
  have b5 := wf_u8 w5
  have b6 := wf_u8 w6
  have b9 := wf_u32 w9
  have b10 := wf_u32 w10
  have c1 := wf_i64 q1
  have hx := wf_u32 x1
  have hy := wf_u32 x2
  have hu := wf_u32 v1
  have hv := wf_u32 v2
  refine ⟨3, ?_⟩
  unfold weighbridgelaw10_PatchAbout.f
  have hl := frame_len (k := k) (z := z) (t := bl b) b1 b2 b3 b4 b5 b6 (u := x) (v := y) b9 b10
  obtain ⟨X, hX, hXs⟩ := broken_some (lb (frame k s d sp dp fl tt (bl b) z x y)) (by rw [lb_size]; omega) a1 a2 c1
  rw [lb_size] at hXs
  rw [show weighbridgelaw10_examples.f = some true from rfl, Option.bind_some, if_pos rfl, weighbridgelaw10_Make_frame_eq b0 b1 b2 b3 b4 b5 b6 (by omega) b9 b10, Option.bind_some, hX, Option.bind_some, if_pos (by omega), patch_About_eq (by rw [ByteArray.size_append]; omega) hx hy hu hv, Option.bind_some, show weighbridgelaw10_ref.f u v e1 e2 = some (u, v, e1, e2) from rfl, Option.bind_some, msg_eq 0 (X ++ more) (by rw [ByteArray.size_append]; omega) hx hy hu hv, Option.bind_some, if_pos rfl, beq_self_eq_true]

end Go.Proofs.YtfnjohklmpiboaaGreat.Pure
