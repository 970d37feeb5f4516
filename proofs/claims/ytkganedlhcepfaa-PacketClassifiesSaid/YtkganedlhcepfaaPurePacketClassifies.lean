/- Any bytes, and any packet with a byte another one, and something behind, are told as the chapter says, or refused with the first of all errors. -/
import Derived.Test.YtkganedlhcepfaaPr23
import Derived.Test.YtkganedlhcepfaaLem
import Derived.Test.YtkganedlhcepfaaFrm
set_option linter.unusedVariables false
set_option linter.unusedSimpArgs false
namespace Go.Proofs.Ytkganedlhcepfaa.Pure
open Go.RowKit Go.Proofs.Ytkganedlhcepfaa.Pr Go.Proofs.Ytkganedlhcepfaa.Sp Go.Proofs.Ytkganedlhcepfaa.Lem Go.Proofs.YtkganedlhcepfaaW.PrintWords Go.Proofs.YtkganedlhcepfaaW.PrintLast Go.Proofs.YtkganedlhcepfaaW.PrintMore

theorem num_eq (q : List UInt8) (a n : Int) (h : q.length ≤ 281474976710656) : weighbridgeref09_num.f (lb q) a n = some (Sp.get q a n).1 := by
  unfold weighbridgeref09_num.f
  rw [weighbridgeref01_Get_eq _ _ _ (by rw [lb_size]; exact h), Option.bind_some, bl_lb]
theorem bt_byte (q : List UInt8) (i : Nat) (h : i < q.length) : bt (lb q) (i : Int) = byteAt q i := by
  rw [bt_bl _ _ (by rw [lb_size]; omega)]
  unfold byteAt
  have : (bl (lb q))[((i : Nat) : Int).toNat]'(by rw [bl_lb]; omega) = q[i]'h := by simp only [bl_lb, Int.toNat_natCast]
  rw [this, List.getD_eq_getElem?_getD, List.getElem?_eq_getElem h]; rfl
theorem error_eq (t : Int) : weighbridgeref07_Error.f t = some (icmpErr t) := by
  unfold weighbridgeref07_Error.f icmpErr
  by_cases h1 : t = 3
  · rw [if_pos h1]; simp [h1]
  · rw [if_neg h1]
    by_cases h2 : t = 11
    · rw [if_pos h2]; simp [h2]
    · rw [if_neg h2]
      by_cases h3 : t = 12
      · simp [h3]
      · simp [h1, h2, h3]
theorem small_get (s : List UInt8) (a b : Int) : 0 ≤ (Sp.get s a b).1 ∧ (Sp.get s a b).1 < 4294967296 := by
  unfold Sp.get
  split
  case isTrue h => have := Sp.has_iff.1 h; exact Sp.beNum_small _ (by rw [List.length_take]; omega)
  case isFalse => exact ⟨by decide, by decide⟩
def abRes (a1 a2 a8 a9 a10 a11 : Int) (q : List UInt8) : Int × Int × Int × Int × Int × Int × Int × Int × Int × Int × Int × Int × Int × Int × Int :=
  if qErr q = 0 then (2, a1, a2, byteAt q 9, (Sp.get q 12 4).1, (Sp.get q 16 4).1, (Sp.get q (ip4Len q) 2).1, (Sp.get q (ip4Len q + 2) 2).1, a8, a9, a10, a11, a1 + 8, a1 + 8 + ip4Len q, 0) else (0, 0, 0, 0, 0, 0, 0, 0, 0, 0, 0, 0, 0, 0, qErr q)
theorem about_j1 (k : Nat) (q : List UInt8) (hq : q.length ≤ 1000000) (h20 : ¬ (q.length : Int) < 20) (h4 : ip4B0 q / 16 = 4) (hl : ¬ (ip4Len q < 20 ∨ ip4Len q > q.length)) (hf : (Sp.get q 6 2).1 % 8192 = 0) (a0 a1 a2 a3 a4 a5 a6 a7 a8 a9 a10 a11 a12 a13 : Int) (b1 : 0 ≤ a1 ∧ a1 ≤ 100) (z : Bool) (hz : z = decide (byteAt q 9 ≠ 6 ∧ byteAt q 9 ≠ 17)) :
    weighbridgeref09_about.j1 (k + 1) (lb q) (ip4Len q) z a0 a1 a2 a3 a4 a5 a6 a7 a8 a9 a10 a11 a12 a13 = some (abRes a1 a2 a8 a9 a10 a11 q) := by
  have hb := byteAt_bounds q 9
  have s1 := small_get q 12 4
  have s2 := small_get q 16 4
  unfold abRes
  rw [weighbridgeref09_about.j1]
  subst hz
  by_cases hp : byteAt q 9 ≠ 6 ∧ byteAt q 9 ≠ 17
  · have hE : qErr q = 9 := by unfold qErr; rw [if_neg h20, if_neg (by omega), if_neg hl, if_neg (by omega), if_pos hp]
    rw [if_pos (decide_eq_true hp), hE, if_neg (by decide)]
  · rw [if_neg (by rw [decide_eq_true_eq]; exact hp)]
    rw [w64 (n := ip4Len q + 8) (by omega) (by omega), lb_size]
    by_cases hs : (q.length : Int) < ip4Len q + 8
    · have hE : qErr q = 2 := by unfold qErr; rw [if_neg h20, if_neg (by omega), if_neg hl, if_neg (by omega), if_neg hp, if_pos (by omega)]
      rw [if_pos hs, hE, if_neg (by decide)]
    · have hE : qErr q = 0 := by unfold qErr; rw [if_neg h20, if_neg (by omega), if_neg hl, if_neg (by omega), if_neg hp, if_neg (by omega)]
      rw [if_neg hs, hE, if_pos rfl, if_pos (by omega), num_eq q _ _ (by omega), Option.bind_some, num_eq q _ _ (by omega), Option.bind_some, num_eq q _ _ (by omega), Option.bind_some, w64 (n := ip4Len q + 2) (by omega) (by omega), num_eq q _ _ (by omega), Option.bind_some, show bt (lb q) 9 = byteAt q 9 from bt_byte q 9 (by omega), w64 (n := byteAt q 9) (by omega) (by omega), w64 (n := a1 + 8) (by omega) (by omega), w64 (n := a1 + 8 + ip4Len q) (by omega) (by omega), Int.emod_eq_of_lt s1.1 s1.2, Int.emod_eq_of_lt s2.1 s2.2]
theorem about_j0 (k : Nat) (q : List UInt8) (hq : q.length ≤ 1000000) (h20 : ¬ (q.length : Int) < 20) (h4 : ip4B0 q / 16 = 4) (a0 a1 a2 a3 a4 a5 a6 a7 a8 a9 a10 a11 a12 a13 : Int) (b1 : 0 ≤ a1 ∧ a1 ≤ 100) (z : Bool) (hz : z = decide (ip4Len q < 20 ∨ ip4Len q > q.length)) :
    weighbridgeref09_about.j0 (k + 2) (lb q) (ip4Len q) z a0 a1 a2 a3 a4 a5 a6 a7 a8 a9 a10 a11 a12 a13 = some (abRes a1 a2 a8 a9 a10 a11 q) := by
  have hb := byteAt_bounds q 9
  have s0 := small_get q 6 2
  rw [weighbridgeref09_about.j0]
  subst hz
  by_cases hl : ip4Len q < 20 ∨ ip4Len q > q.length
  · have hE : qErr q = 4 := by unfold qErr; rw [if_neg h20, if_neg (by omega), if_pos hl]
    unfold abRes
    rw [if_pos (decide_eq_true hl), hE, if_neg (by decide)]
  · rw [if_neg (by rw [decide_eq_true_eq]; exact hl), num_eq q _ _ (by omega), Option.bind_some, tm 8192 s0.1]
    by_cases hf : (Sp.get q 6 2).1 % 8192 = 0
    · rw [if_pos hf, if_pos (by rw [lb_size]; omega), show bt (lb q) 9 = byteAt q 9 from bt_byte q 9 (by omega), w64 (n := byteAt q 9) (by omega) (by omega)]
      by_cases h6 : byteAt q 9 = 6
      · rw [if_pos h6]
        exact about_j1 k q hq h20 h4 hl hf a0 a1 a2 a3 a4 a5 a6 a7 a8 a9 a10 a11 a12 a13 b1 _ (by simp [h6])
      · rw [if_neg h6]
        exact about_j1 k q hq h20 h4 hl hf a0 a1 a2 a3 a4 a5 a6 a7 a8 a9 a10 a11 a12 a13 b1 _ (by by_cases h7 : byteAt q 9 = 17 <;> simp [h6, h7])
    · have hE : qErr q = 8 := by unfold qErr; rw [if_neg h20, if_neg (by omega), if_neg hl, if_pos (by omega)]
      unfold abRes
      rw [if_neg hf, hE, if_neg (by decide)]
theorem about_eq (k : Nat) (b : List UInt8) (hb : b.length ≤ 1000000) (a0 a1 a2 a3 a4 a5 a6 a7 a8 a9 a10 a11 a12 a13 : Int) (b1 : 0 ≤ a1 ∧ a1 ≤ 100) :
    weighbridgeref09_about.f (k + 2) a0 a1 a2 a3 a4 a5 a6 a7 a8 a9 a10 a11 a12 a13 (lb b) = some (if aboutErr (icmpParse b) = 0 then abRes a1 a2 a8 a9 a10 a11 (icmpParse b).body else (0, 0, 0, 0, 0, 0, 0, 0, 0, 0, 0, 0, 0, 0, aboutErr (icmpParse b))) := by
  have hql : (icmpParse b).body.length ≤ 1000000 := by
    unfold icmpParse
    (repeat' split) <;> simp [icmpNone] <;> omega
  unfold weighbridgeref09_about.f
  rw [show weighbridgeref07_Parse.f (lb b) = some ((Sp.icmpParse b).t, (Sp.icmpParse b).c, (Sp.icmpParse b).r, lb (Sp.icmpParse b).body, (Sp.icmpParse b).e) by unfold weighbridgeref07_Parse.f; rw [if_pos (by rw [lb_size]; exact hb), bl_lb], Option.bind_some]
  simp only
  generalize icmpParse b = m at *
  obtain ⟨t, c, r, q, e⟩ := m
  simp only at hql ⊢
  unfold aboutErr
  simp only
  by_cases he : e = 0
  · rw [if_pos he, if_pos he, error_eq, Option.bind_some]
    by_cases ht : icmpErr t = true
    · rw [if_pos ht, if_pos ht, lb_size]
      have hb0 := ip4B0_bounds q
      by_cases h20 : (q.length : Int) < 20
      · rw [if_pos h20, show qErr q = 2 by unfold qErr; rw [if_pos h20], if_neg (by decide)]
      · have e0 : bt (lb q) 0 = ip4B0 q := (bt_byte q 0 (by omega)).trans (byteAt_zero q)
        rw [if_neg h20, if_pos (by omega), e0, td 16 hb0.1, Int.emod_eq_of_lt (by omega) (by omega), tm 16 hb0.1, w64 (n := ip4B0 q % 16) (by omega) (by omega), w64 (n := 4 * (ip4B0 q % 16)) (by omega) (by omega), show 4 * (ip4B0 q % 16) = ip4Len q from rfl]
        have hR : (if qErr q = 0 then abRes a1 a2 a8 a9 a10 a11 q else (0, 0, 0, 0, 0, 0, 0, 0, 0, 0, 0, 0, 0, 0, qErr q)) = abRes a1 a2 a8 a9 a10 a11 q := by
          unfold abRes; split <;> rfl
        rw [hR]
        by_cases h4 : ip4B0 q / 16 = 4
        · rw [if_pos h4]
          by_cases hl : ip4Len q < 20
          · rw [if_pos hl]
            exact about_j0 k q hql h20 h4 a0 a1 a2 a3 a4 a5 a6 a7 a8 a9 a10 a11 a12 a13 b1 _ (by simp [hl])
          · rw [if_neg hl]
            exact about_j0 k q hql h20 h4 a0 a1 a2 a3 a4 a5 a6 a7 a8 a9 a10 a11 a12 a13 b1 _ (by simp [hl])
        · have hE : qErr q = 3 := by unfold qErr; rw [if_neg h20, if_pos h4]
          unfold abRes
          rw [if_neg h4, hE, if_neg (by decide)]
    · rw [if_neg ht, if_neg ht, if_neg (by decide)]
  · rw [if_neg he, if_neg he, if_neg he]
def tup (p : Pkt) : Int × Int × Int × Int × Int × Int × Int × Int × Int × Int × Int × Int × Int × Int × Int := (p.kind, p.at_, p.total, p.proto, p.tsrc, p.tdst, p.sp, p.dp, p.flags, p.ttl, p.src, p.dst, p.quote, p.inner, p.e)
theorem classify_eq (k : Nat) (s : ByteArray) (hs : s.size ≤ 140737488355328) : weighbridgeref09_Classify.f (k + 3) s = some (tup (pkt (bl s))) := by
  unfold weighbridgeref09_Classify.f pkt
  rw [weighbridgeref04_Parse_eq hs, Option.bind_some]
  simp only
  by_cases he : (ip4Parse (bl s)).e = 0
  · obtain ⟨hz, _, _, hF⟩ := ip4Parse_ok he
    obtain ⟨_, _, l20, _, lt, ts, t15, hS⟩ := ip4Sizes_ok hz
    have hb0 := ip4B0_bounds (bl s)
    have l60 : ip4Len (bl s) ≤ 60 := by unfold ip4Len; omega
    have hSz := weighbridgeref04_Sizes_eq hs
    rw [hS] at hSz
    have f0 : 0 ≤ (ip4Parse (bl s)).flags := by rw [hF]; have := small_get (bl s) 6 2; show 0 ≤ (Sp.get (bl s) 6 2).1 / 8192; omega
    have p0 : 0 ≤ (ip4Parse (bl s)).proto ∧ (ip4Parse (bl s)).proto ≤ 4294967295 := by rw [hF]; have := small_get (bl s) 9 1; show 0 ≤ (Sp.get (bl s) 9 1).1 ∧ (Sp.get (bl s) 9 1).1 ≤ 4294967295; omega
    have x0 : 0 ≤ (ip4Parse (bl s)).src ∧ (ip4Parse (bl s)).src ≤ 4294967295 := by rw [hF]; have := small_get (bl s) 12 4; show 0 ≤ (Sp.get (bl s) 12 4).1 ∧ (Sp.get (bl s) 12 4).1 ≤ 4294967295; omega
    have y0 : 0 ≤ (ip4Parse (bl s)).dst ∧ (ip4Parse (bl s)).dst ≤ 4294967295 := by rw [hF]; have := small_get (bl s) 16 4; show 0 ≤ (Sp.get (bl s) 16 4).1 ∧ (Sp.get (bl s) 16 4).1 ≤ 4294967295; omega
    have bl0 : (ip4Parse (bl s)).body.length ≤ 1500 := by rw [hF]; show (((bl s).take (ip4Tot (bl s)).toNat).drop (ip4Len (bl s)).toNat).length ≤ 1500; rw [List.length_drop, List.length_take]; omega
    clear hF hz hS
    generalize ip4Len (bl s) = n at *
    generalize ip4Tot (bl s) = T at *
    generalize ip4Parse (bl s) = h at *
    obtain ⟨tos, id, fl, fr, ttl, pr, x, y, op, b, e⟩ := h
    simp only at he f0 p0 x0 y0 bl0 ⊢
    rw [if_pos he, tm 2 f0]
    unfold pktOf
    simp only
    rw [if_pos he]
    have hmain : fl % 2 = 0 → fr = 0 → weighbridgeref09_Classify.j0 (k + 3) s (lb b) false tos id fl fr ttl pr x y (lb op) = some (tup (if pr = 1 then pktAbout ⟨tos, id, fl, fr, ttl, pr, x, y, op, b, e⟩ n T else if pr = 6 ∨ pr = 17 then pktPlain ⟨tos, id, fl, fr, ttl, pr, x, y, op, b, e⟩ n T else pktNone 9)) := fun _ _ => by
      rw [weighbridgeref09_Classify.j0, if_neg (by decide), hSz, Option.bind_some]
      simp only
      by_cases h6 : pr = 6
      · subst h6
        rw [if_pos rfl, if_neg (by decide), if_pos (Or.inl rfl), weighbridgeref05_Parse_eq (by rw [lb_size]; omega), Option.bind_some, bl_lb]
        simp only
        unfold pktPlain plainErr endsOf
        simp only [if_true]
        by_cases h0 : (tcpParse b).e = 0
        · rw [if_pos h0, if_pos h0, weighbridgeref08_Verify_eq (by decide) x0 y0 (by rw [lb_size]; omega), Option.bind_some, bl_lb]
          by_cases hv : pverify 6 x y b = 0
          · rw [if_pos hv, if_pos hv]; rfl
          · rw [if_neg hv, if_neg hv]; rfl
        · rw [if_neg h0, if_neg h0, if_neg h0]; rfl
      · rw [if_neg h6]
        by_cases h17 : pr = 17
        · subst h17
          rw [if_pos rfl, if_neg (by decide), if_pos (Or.inr rfl), weighbridgeref06_Parse_eq (by rw [lb_size]; omega), Option.bind_some, bl_lb]
          simp only
          unfold pktPlain plainErr endsOf
          simp only [show ((17 : Int) = 6) = False from eq_false (by decide), if_false]
          by_cases h0 : (udpParse b).2.2.2 = 0
          · rw [if_pos h0, if_pos h0, weighbridgeref08_Verify_eq (by decide) x0 y0 (by rw [lb_size]; omega), Option.bind_some, bl_lb]
            by_cases hv : pverify 17 x y b = 0
            · rw [if_pos hv, if_pos hv]; rfl
            · rw [if_neg hv, if_neg hv]; rfl
          · rw [if_neg h0, if_neg h0, if_neg h0]; rfl
        · rw [if_neg h17]
          by_cases h1 : pr = 1
          · rw [if_pos h1, if_pos h1, about_eq k b (by omega) _ _ _ _ _ _ _ _ _ _ _ _ _ _ ⟨by omega, by omega⟩, Option.bind_some]
            unfold pktAbout
            simp only
            by_cases ha : aboutErr (icmpParse b) = 0
            · have hq : qErr (icmpParse b).body = 0 := by
                unfold aboutErr at ha
                by_cases g1 : (icmpParse b).e = 0
                · rw [if_pos g1] at ha
                  by_cases g2 : icmpErr (icmpParse b).t = true
                  · rw [if_pos g2] at ha; exact ha
                  · rw [if_neg g2] at ha; exact absurd ha (by decide)
                · rw [if_neg g1] at ha; exact absurd ha g1
              rw [if_pos ha, if_pos ha]
              unfold abRes pktQuoted
              rw [if_pos hq]; rfl
            · rw [if_neg ha, if_neg ha]; rfl
          · rw [if_neg h1, if_neg h1, if_neg (by omega)]; rfl
    by_cases hf : fl % 2 = 1
    · rw [if_pos hf, if_neg (by omega), weighbridgeref09_Classify.j0, if_pos rfl]; rfl
    · rw [if_neg hf]
      by_cases hr : fr = 0
      · rw [if_pos ⟨by omega, hr⟩, show (fr != 0) = false by simp [hr]]
        exact hmain (by omega) hr
      · rw [if_neg (fun g => hr g.2), show (fr != 0) = true by simp [hr], weighbridgeref09_Classify.j0, if_pos rfl]; rfl
  · obtain ⟨e, h1, h2⟩ := ip4Parse_err he
    rw [if_neg he, h2]
    unfold pktOf ip4None
    simp only
    rw [if_neg h1]; rfl
theorem alike_self (a b c d e f g h i j k l m n : Int) : weighbridgelaw09_alike.f a b c d e f g h i j k l m n a b c d e f g h i j k l m n = some true := by
  unfold weighbridgelaw09_alike.f; simp
theorem nums_len (s : ByteArray) : (numsOf s).length = s.size := by unfold numsOf; rw [List.length_map]; simp
theorem str_size (l : List Int) : (strOfNums l).size = l.length := by
  have : (bl (strOfNums l)).length = l.length := by
    show (l.map (fun n => UInt8.ofNat n.toNat)).length = _
    rw [List.length_map]
  rwa [bl_length] at this
theorem broken_some (F : ByteArray) (hF : F.size ≤ 1000) (a1 a2 : Int) (b1 : -9223372036854775808 ≤ a1 ∧ a1 ≤ 9223372036854775807) : ∃ X, weighbridgelaw09_broken.f F a1 a2 = some X ∧ X.size = F.size := by
  unfold weighbridgelaw09_broken.f
  by_cases h0 : F.toList = ([] : List UInt8)
  · rw [if_pos h0]; exact ⟨F, rfl, rfl⟩
  · rw [if_neg h0]
    have hp : F.size ≠ 0 := fun h => h0 (by rw [toL]; exact List.eq_nil_of_length_eq_zero (by rw [bl_length]; exact h))
    have key : ∀ A : Int, 0 ≤ A → 0 ≤ Int.tmod A ((numsOf F).length : Int) ∧ Int.tmod A ((numsOf F).length : Int) < ((numsOf F).length : Int) := fun A hA => by
      rw [nums_len, tm _ hA]
      exact ⟨Int.emod_nonneg A (by omega), Int.emod_lt_of_pos A (by omega)⟩
    by_cases h1 : a1 < 0
    · rw [if_pos h1, if_pos (by omega), Option.bind_some, if_neg (by rw [nums_len]; omega), w64 (n := a1 + 1) (by omega) (by omega), w64 (n := -(a1 + 1)) (by omega) (by omega)]
      have := key (-(a1 + 1)) (by omega)
      rw [if_pos this.1, if_pos this.2]
      exact ⟨_, rfl, by rw [str_size, List.length_set, nums_len]⟩
    · rw [if_neg h1, if_pos (by omega), Option.bind_some, if_neg (by rw [nums_len]; omega)]
      have := key a1 (by omega)
      rw [if_pos this.1, if_pos this.2]
      exact ⟨_, rfl, by rw [str_size, List.length_set, nums_len]⟩
open Go.Proofs.Ytkganedlhcepfaa.Frm in
theorem PacketClassifies : weighbridgelaw09_PacketClassifies.Pure := by
  intro k s d sp dp fl tt b z x y a1 a2 more st own w0 w1 w2 w3 w4 w5 w6 wb w9 w10 q1 q2 wm ws
  have b0 := wf_u8 w0
  have b1 := wf_u32 w1
  have b2 := wf_u32 w2
  have b3 := wf_u16 w3
  have b4 := wf_u16 w4
  have b5 := wf_u8 w5
  have b6 := wf_u8 w6
  have b9 := wf_u32 w9
  have b10 := wf_u32 w10
  have c1 := wf_i64 q1
  refine ⟨3, ?_⟩
  unfold weighbridgelaw09_PacketClassifies.f
  rw [show weighbridgelaw09_examples.f = some true from rfl, Option.bind_some, if_pos rfl]
  cases own
  · rw [if_neg (by decide), packet_Classify_eq (by omega), Option.bind_some, classify_eq 0 st (by omega), Option.bind_some]
    unfold tup
    simp only
    rw [alike_self, Option.bind_some, if_pos rfl, beq_self_eq_true]
  · have hl := frame_len (k := k) (z := z) (t := bl b) b1 b2 b3 b4 b5 b6 (u := x) (v := y) b9 b10
    obtain ⟨X, hX, hXs⟩ := broken_some (lb (frame k s d sp dp fl tt (bl b) z x y)) (by rw [lb_size]; omega) a1 a2 c1
    rw [lb_size] at hXs
    rw [if_pos rfl, weighbridgelaw09_Make_frame_eq b0 b1 b2 b3 b4 b5 b6 (by omega) b9 b10, Option.bind_some, hX, Option.bind_some, if_pos (by omega), packet_Classify_eq (by rw [ByteArray.size_append]; omega), Option.bind_some, classify_eq 0 (X ++ more) (by rw [ByteArray.size_append]; omega), Option.bind_some]
    unfold tup
    simp only
    rw [alike_self, Option.bind_some, if_pos rfl, beq_self_eq_true]

end Go.Proofs.Ytkganedlhcepfaa.Pure
