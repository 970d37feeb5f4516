/- A tuple that is turned twice is as it was; two unlike tuples have unlike keys, each of 13 bytes (protocols of 8 bits, ports of 16). -/
import Derived.Test.YtkganedlhcepfaaPr28
import Derived.Test.YtkganedlhcepfaaLem
set_option linter.unusedVariables false
set_option linter.unusedSimpArgs false
namespace Go.Proofs.Ytkganedlhcepfaa.Pure
open Go.RowKit Go.Proofs.Ytkganedlhcepfaa.Pr Go.Proofs.Ytkganedlhcepfaa.Sp Go.Proofs.Ytkganedlhcepfaa.Lem Go.Proofs.YtkganedlhcepfaaW.PrintWords Go.Proofs.YtkganedlhcepfaaW.PrintLast Go.Proofs.YtkganedlhcepfaaW.PrintMore

theorem key_len {p s d a b : Int} (h : keyOk p a b = true) : (key p s d a b).1.length = 13 := by unfold key; rw [if_pos h]; rfl
theorem key_snd (p s d a b : Int) : (key p s d a b).2 = keyOk p a b := by
  unfold key
  by_cases h : keyOk p a b = true
  · rw [if_pos h, h]
  · rw [if_neg h, bool_no h]
theorem keyOk_turn (p a b : Int) : keyOk p a b = keyOk p b a := by unfold keyOk; cases fits 1 p <;> cases fits 2 a <;> cases fits 2 b <;> rfl
theorem key_inj {p s d a b p' s' d' a' b' : Int} (h : keyOk p a b = true) (h' : keyOk p' a' b' = true) (hs : 0 ≤ s ∧ s ≤ 4294967295) (hd : 0 ≤ d ∧ d ≤ 4294967295) (hs' : 0 ≤ s' ∧ s' ≤ 4294967295) (hd' : 0 ≤ d' ∧ d' ≤ 4294967295)
    (e : (key p s d a b).1 = (key p' s' d' a' b').1) : p = p' ∧ s = s' ∧ d = d' ∧ a = a' ∧ b = b' := by
  unfold key at e
  rw [if_pos h, if_pos h'] at e
  unfold keyOk at h h'
  simp only [Bool.and_eq_true] at h h'
  have f1 := fits1.1 h.1.1
  have f2 := fits2.1 h.1.2
  have f3 := fits2.1 h.2
  have g1 := fits1.1 h'.1.1
  have g2 := fits2.1 h'.1.2
  have g3 := fits2.1 h'.2
  have c1 := congrArg (List.take 1) e
  have c2 := congrArg (fun l => (List.drop 1 l).take 4) e
  have c3 := congrArg (fun l => (List.drop 5 l).take 4) e
  have c4 := congrArg (fun l => (List.drop 9 l).take 2) e
  have c5 := congrArg (fun l => (List.drop 11 l).take 2) e
  have c1 : beBytes 1 p = beBytes 1 p' := c1
  have c2 : beBytes 4 s = beBytes 4 s' := c2
  have c3 : beBytes 4 d = beBytes 4 d' := c3
  have c4 : beBytes 2 a = beBytes 2 a' := c4
  have c5 : beBytes 2 b = beBytes 2 b' := c5
  have c1 := congrArg beNum c1
  have c2 := congrArg beNum c2
  have c3 := congrArg beNum c3
  have c4 := congrArg beNum c4
  have c5 := congrArg beNum c5
  rw [be1_of f1, be1_of g1] at c1
  rw [be4_of hs, be4_of hs'] at c2
  rw [be4_of hd, be4_of hd'] at c3
  rw [be2_in f2, be2_in g2] at c4
  rw [be2_in f3, be2_in g3] at c5
  exact ⟨c1, c2, c3, c4, c5⟩
theorem PacketBack : weighbridgelaw09_PacketBack.Pure := by
  intro p s d a b p' s' d' a' b' w0 w1 w2 w3 w4 v0 v1 v2 v3 v4
  have hs := wf_u32 w1
  have hd := wf_u32 w2
  have hs' := wf_u32 v1
  have hd' := wf_u32 v2
  unfold weighbridgelaw09_PacketBack.f packet_Reverse.f
  rw [show weighbridgelaw09_examples.f = some true from rfl, Option.bind_some, if_pos rfl, packet_Key_eq hs hd, Option.bind_some, packet_Key_eq hs' hd', Option.bind_some, Option.bind_some]
  simp only
  rw [packet_Key_eq hd hs, Option.bind_some, Option.bind_some, Option.bind_some, if_pos (by simp)]
  simp only [key_snd]
  rw [keyOk_turn p b a, if_pos (by simp)]
  by_cases h : keyOk p a b = true
  rotate_left
  · rw [if_neg h]
  have h2 : keyOk p b a = true := by rw [keyOk_turn]; exact h
  rw [if_pos h, if_pos (by rw [lb_size, key_len h]; rfl), if_pos (by rw [lb_size, key_len h2]; rfl)]
  by_cases h' : keyOk p' a' b' = true
  rotate_left
  · rw [if_neg h']
  rw [if_pos h']
  congr 1
  have t1 : ∀ l m : List UInt8, ((lb l).toList == (lb m).toList) = (l == m) := fun l m => by rw [toL, toL, bl_lb, bl_lb]
  rw [t1]
  by_cases e : (key p s d a b).1 = (key p' s' d' a' b').1
  · obtain ⟨rfl, rfl, rfl, rfl, rfl⟩ := key_inj h h' hs hd hs' hd' e
    simp
  · have ne : ((key p s d a b).1 == (key p' s' d' a' b').1) = false := by simpa using e
    rw [ne]
    by_cases q : (p == p' && (s == s' && (d == d' && (a == a' && (b == b'))))) = true
    · simp only [Bool.and_eq_true, beq_iff_eq] at q
      obtain ⟨rfl, rfl, rfl, rfl, rfl⟩ := q
      exact absurd rfl e
    · rw [bool_no q]; rfl

end Go.Proofs.Ytkganedlhcepfaa.Pure
