/- Words may be summed in any order; a bit that is turned turns the sum. -/
import Derived.Test.YtkdmdnihkhhpiaaPr8
import Derived.Test.YtkdmdnihkhhpiaaLem
import Derived.Laws.BitsAllLaws
set_option linter.unusedVariables false
set_option linter.unusedSimpArgs false
namespace Go.Proofs.Ytkdmdnihkhhpiaa.Pure
open Go.RowKit Go.Proofs.Ytkdmdnihkhhpiaa.Pr Go.Proofs.Ytkdmdnihkhhpiaa.Sp Go.Proofs.Ytkdmdnihkhhpiaa.Lem Go.Proofs.YtkdmdnihkhhpiaaW.PrintWords Go.Proofs.YtkdmdnihkhhpiaaW.PrintLast Go.Proofs.YtkdmdnihkhhpiaaW.PrintMore

theorem xor_le (a : Nat) : ∀ b : Nat, a ^^^ b ≤ a + b := by
  induction a using Nat.strongRecOn with
  | _ a ih =>
    intro b
    by_cases h : a = 0
    · subst h; simp
    · have h1 := ih (a / 2) (by omega) (b / 2)
      have h2 : (a ^^^ b) / 2 = a / 2 ^^^ b / 2 := Nat.xor_div_two
      have h3 : (a ^^^ b) % 2 ≤ a % 2 + b % 2 := by
        have e : (a ^^^ b) % 2 ^ 1 = (a % 2 ^ 1) ^^^ (b % 2 ^ 1) := Nat.xor_mod_two_pow
        rw [show (2 : Nat) ^ 1 = 2 from rfl] at e
        rw [e]
        have ha : a % 2 = 0 ∨ a % 2 = 1 := by omega
        have hb : b % 2 = 0 ∨ b % 2 = 1 := by omega
        rcases ha with ha | ha <;> rcases hb with hb | hb <;> rw [ha, hb] <;> decide
      omega
theorem shl_all : ∀ j : Fin 16, 1 ≤ shl .u16 1 (j.val : Int) ∧ shl .u16 1 (j.val : Int) ≤ 32768 := by decide
theorem word_turned {x k : Int} (h0 : 0 ≤ x ∧ x ≤ 65535) (hk : 0 ≤ k ∧ k ≤ 15) : ∃ v : Int, Go.bits .xor .u16 x (shl .u16 1 k) = v ∧ (0 ≤ v ∧ v ≤ 65535) ∧ v ≠ x ∧ v - x ≤ 32768 ∧ x - v ≤ 32768 := by
  have hs := shl_all ⟨k.toNat, by omega⟩
  have ek : ((k.toNat : Nat) : Int) = k := by omega
  simp only [ek] at hs
  refine ⟨_, u16_xor x (shl .u16 1 k) h0.1 (by omega) (by omega) (by omega), ?_⟩
  obtain ⟨p, hp⟩ : ∃ p, (shl .u16 1 k).toNat = p := ⟨_, rfl⟩
  obtain ⟨y, hy⟩ : ∃ y, x.toNat = y := ⟨_, rfl⟩
  rw [hp, hy]
  have p1 : 1 ≤ p := by omega
  have p2 : p ≤ 32768 := by omega
  have yx : (y : Int) = x := by omega
  have hlt : y ^^^ p < 2 ^ 16 := Nat.xor_lt_two_pow (by show y < 65536; omega) (by show p < 65536; omega)
  have hlt' : y ^^^ p < 65536 := hlt
  have u1 := xor_le y p
  have back : (y ^^^ p) ^^^ p = y := by rw [Nat.xor_assoc, Nat.xor_self, Nat.xor_zero]
  have u2 := xor_le (y ^^^ p) p
  rw [back] at u2
  have hne : y ^^^ p ≠ y := fun h => by
    have : y ^^^ (y ^^^ p) = p := by rw [← Nat.xor_assoc, Nat.xor_self, Nat.zero_xor]
    rw [h, Nat.xor_self] at this
    omega
  refine ⟨⟨by omega, by omega⟩, ?_, by omega, by omega⟩
  intro h
  exact hne (by omega)
theorem sum_set (l : List Int) : ∀ (i : Nat) (h : i < l.length) (v : Int), (l.set i v).sum = l.sum + (v - l[i]'h) := by
  induction l with
  | nil => intro i h; simp at h
  | cons a r ih =>
    intro i h v
    cases i with
    | zero => simp only [List.set_cons_zero, List.sum_cons, List.getElem_cons_zero]; omega
    | succ i =>
      have := ih i (by simpa using h) v
      simp only [List.set_cons_succ, List.sum_cons, List.getElem_cons_succ]; omega
theorem sum_nonneg (l : List Int) (h : ∀ x ∈ l, 0 ≤ x ∧ x ≤ 65535) : 0 ≤ l.sum := by
  induction l with
  | nil => simp
  | cons a r ih =>
    have h1 := (h a (List.mem_cons_self ..)).1
    have h2 := ih (fun x hx => h x (List.mem_cons_of_mem _ hx))
    simp only [List.sum_cons]; omega
theorem rd_get (l : List Int) (i : Nat) (h : i < l.length) : rd l (i : Int) = l[i]'h := by
  unfold rd
  rw [Int.toNat_natCast, List.getD_eq_getElem?_getD, List.getElem?_eq_getElem h]; rfl
/-- a word with a bit turned: another sum -/
theorem turned_join (L : List Int) (hv : ∀ x ∈ L, 0 ≤ x ∧ x ≤ 65535) (i : Nat) (hi : i < L.length) {v : Int} (v0 : 0 ≤ v ∧ v ≤ 65535) (hne : v ≠ L[i]'hi) (d1 : v - L[i]'hi ≤ 32768) (d2 : L[i]'hi - v ≤ 32768) :
    (join (L.set i v) != join L) = true := by
  have hs := sum_set L i hi v
  have n0 := sum_nonneg L hv
  have n1 := sum_nonneg (L.set i v) (fun x hx => by
    rcases List.mem_or_eq_of_mem_set hx with h | h
    · exact hv x h
    · subst h; exact v0)
  rw [bne_iff_ne]
  unfold join
  rw [hs] at n1 ⊢
  generalize L[i]'hi = x at *
  generalize L.sum = S at *
  unfold fold16
  (repeat' split) <;> omega
theorem ord_end (L acc : List Int) (a1 a2 : Int) (hL : L.length ≤ 60) (hv : ∀ x ∈ L, 0 ≤ x ∧ x ≤ 65535) (ha : acc.length ≤ 60) (hw : ∀ x ∈ acc, 0 ≤ x ∧ x ≤ 65535) (hs : acc.sum = L.sum) (b1 : -9223372036854775808 ≤ a1 ∧ a1 ≤ 9223372036854775807) (b2 : 0 ≤ a2 ∧ a2 ≤ 255) :
    weighbridgelaw03_CksumOrder.l0 1 L a1 a2 true acc (-1) = some true := by
  have kk : 0 ≤ a2 % 16 ∧ a2 % 16 ≤ 15 := by omega
  have key : ∀ A : Int, 0 ≤ A → L.length ≠ 0 → ∃ i : Nat, ∃ hi : i < L.length, Int.tmod A (L.length : Int) = (i : Int) := fun A hA hl => by
    have h1 := Int.emod_nonneg A (show (L.length : Int) ≠ 0 by omega)
    have h2 := Int.emod_lt_of_pos A (show 0 < (L.length : Int) by omega)
    exact ⟨(A % (L.length : Int)).toNat, by omega, by rw [tm _ hA]; omega⟩
  have fin : ∀ i : Nat, ∀ hi : i < L.length, ((cksum_Join.f (L.set i (Go.bits .xor .u16 (rd L (i : Int)) (shl .u16 1 (a2 % 16))))).bind fun t163 => ((some (join L)).bind fun t164 => (some (t163 != t164)))) = some true := fun i hi => by
    have hx := hv (L[i]'hi) (List.getElem_mem hi)
    rw [rd_get L i hi]
    obtain ⟨v, e, v0, hne, d1, d2⟩ := word_turned hx kk
    rw [e, cksum_Join_eq (by rw [List.length_set]; omega) (fun x hx => by
      rcases List.mem_or_eq_of_mem_set hx with h | h
      · exact hv x h
      · subst h; exact v0), Option.bind_some, Option.bind_some, turned_join L hv i hi v0 hne d1 d2]
  have hj : join L = join acc := by unfold join; rw [hs]
  rw [weighbridgelaw03_CksumOrder.l0, if_neg (by decide), cksum_Join_eq (by omega) hv, Option.bind_some, cksum_Join_eq (by omega) hw, Option.bind_some, if_pos hj]
  by_cases hl : L.length = 0
  · rw [if_pos (by omega), if_pos rfl, cksum_Join_eq (by simp) (by simp), Option.bind_some]; rfl
  · rw [if_neg (by omega)]
    by_cases h1 : a1 < 0
    · rw [if_pos h1, w64 (n := a1 + 1) (by omega) (by omega), w64 (n := -(a1 + 1)) (by omega) (by omega)]
      obtain ⟨i, hi, he⟩ := key (-(a1 + 1)) (by omega) hl
      rw [he, tm 16 b2.1, List.nil_append, Option.bind_some, if_pos (by simp; omega), if_pos (by omega), if_pos (by omega), if_pos kk.1, if_pos rfl, Int.toNat_natCast]
      exact fin i hi
    · rw [if_neg h1]
      obtain ⟨i, hi, he⟩ := key a1 (by omega) hl
      rw [he, tm 16 b2.1, List.nil_append, Option.bind_some, if_pos (by simp; omega), if_pos (by omega), if_pos (by omega), if_pos kk.1, if_pos rfl, Int.toNat_natCast]
      exact fin i hi
theorem ord_loop (L : List Int) (a1 a2 : Int) (hL : L.length ≤ 60) (hv : ∀ x ∈ L, 0 ≤ x ∧ x ≤ 65535) (b1 : -9223372036854775808 ≤ a1 ∧ a1 ≤ 9223372036854775807) (b2 : 0 ≤ a2 ∧ a2 ≤ 255) :
    ∀ (n : Nat) (acc : List Int), n ≤ L.length → acc.length + n = L.length → (∀ x ∈ acc, 0 ≤ x ∧ x ≤ 65535) → acc.sum + (L.take n).sum = L.sum → weighbridgelaw03_CksumOrder.l0 (n + 1) L a1 a2 true acc ((n : Int) - 1) = some true := by
  intro n
  induction n with
  | zero =>
    intro acc _ hl hw hs
    exact ord_end L acc a1 a2 hL hv (by omega) hw (by simpa using hs) b1 b2
  | succ n ih =>
    intro acc hn hl hw hs
    have e : (((n + 1 : Nat) : Int) - 1) = (n : Int) := by omega
    rw [e, weighbridgelaw03_CksumOrder.l0, if_pos (by omega), if_pos (by omega), if_pos (by omega), if_pos (by omega), rd_get L n (by omega), w64 (by omega) (by omega)]
    refine ih (acc ++ [L[n]'(by omega)]) (by omega) (by rw [List.length_append, List.length_singleton]; omega) ?_ ?_
    · intro x hx
      rcases List.mem_append.1 hx with h | h
      · exact hw x h
      · obtain rfl := List.mem_singleton.1 h; exact hv _ (List.getElem_mem _)
    · rw [List.take_succ_eq_append_getElem (by omega), List.sum_append, List.sum_cons, List.sum_nil] at hs
      rw [List.sum_append, List.sum_cons, List.sum_nil]; omega
theorem CksumOrder : weighbridgelaw03_CksumOrder.Pure := by
  intro l0 a1 a2 hlen hlen2 hwf w1 w2
  have b1 := wf_i64 w1
  have b2 := wf_u8 w2
  obtain ⟨m, hm, m0⟩ : ∃ m : Nat, mn (l0.length : Int) 60 = (m : Int) ∧ m ≤ 60 ∧ m ≤ l0.length := ⟨min l0.length 60, by unfold mn; split <;> omega, by omega, by omega⟩
  have hLl : (l0.take m).length = m := by rw [List.length_take]; omega
  refine ⟨m + 1, ?_⟩
  unfold weighbridgelaw03_CksumOrder.f
  rw [show weighbridgelaw03_examples.f = some true from rfl, Option.bind_some, if_pos rfl, hm, Int.toNat_natCast, if_pos (by omega), if_pos (by omega), hLl, w64 (by omega) (by omega)]
  refine ord_loop (l0.take m) a1 a2 (by omega) (fun x hx => wf_u16 (hwf x (List.mem_of_mem_take hx))) b1 b2 m [] (by omega) (by rw [hLl]; simp) (by simp) ?_
  simp [List.take_take]

end Go.Proofs.Ytkdmdnihkhhpiaa.Pure
