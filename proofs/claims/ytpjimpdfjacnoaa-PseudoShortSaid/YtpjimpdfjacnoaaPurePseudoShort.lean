/- A segment without room for its check is too short; a protocol without a check is told so. -/
import Derived.Test.YtpjimpdfjacnoaaPr13
import Derived.Test.YtpjimpdfjacnoaaLem
set_option linter.unusedVariables false
set_option linter.unusedSimpArgs false
namespace Go.Proofs.Ytpjimpdfjacnoaa.Pure
open Go.RowKit Go.Proofs.Ytpjimpdfjacnoaa.Pr Go.Proofs.Ytpjimpdfjacnoaa.Sp Go.Proofs.Ytpjimpdfjacnoaa.Lem Go.Proofs.YtpjimpdfjacnoaaW.PrintWords Go.Proofs.YtpjimpdfjacnoaaW.PrintLast Go.Proofs.YtpjimpdfjacnoaaW.PrintMore

theorem examples_true : weighbridgelaw08_examples.f = some true := by kernel_rfl
theorem PseudoShort : weighbridgelaw08_PseudoShort.Pure := by
  intro n p w0 w1
  have b0 := wf_u8 w0
  have b1 := wf_i64 w1
  unfold weighbridgelaw08_PseudoShort.f
  rw [examples_true, Option.bind_some, if_pos rfl, tm 40 b0.1, w64 (n := n % 40) (by omega) (by omega)]
  obtain ⟨k, hk⟩ : ∃ k : Nat, n % 40 = (k : Int) := ⟨(n % 40).toNat, by omega⟩
  have hk4 : k < 40 := by omega
  rw [hk, if_pos (by omega), Int.toNat_natCast, if_pos (by omega), Option.bind_some]
  have hz : (strOfNums (List.replicate k 0)).size = k := by rw [strOfNums_size, List.length_replicate]
  generalize strOfNums (List.replicate k 0) = S at hz
  rw [pseudo_Check_eq (by decide) (by decide) (by decide) (by omega), pseudo_Place_eq b1.1 b1.2, pseudo_Verify_eq b1 (by decide) (by decide) (by omega), pseudo_Verify_eq (a0 := 6) (by decide) (by decide) (by decide) (by omega), Option.bind_some, Option.bind_some, Option.bind_some, Option.bind_some]
  have c : (pcheck 6 1 2 (bl S)).2 = decide ((k : Int) ≥ 18) ∧ (pverify 6 1 2 (bl S) == 2) = decide ((k : Int) < 18) := by
    by_cases h : 18 ≤ k
    · have c1 : (pcheck 6 1 2 (bl S)).2 = true := pcheck_snd.2 ⟨rfl, has_iff.2 ⟨by decide, by decide, by decide, by rw [cov_six, bl_length]; show (16 : Int) + 2 ≤ _; omega⟩⟩
      rw [c1, decide_eq_true (by omega), decide_eq_false (by omega)]
      refine ⟨rfl, ?_⟩
      unfold pverify
      rw [if_pos (show (place 6).2 = true from rfl), if_pos c1]
      split <;> rfl
    · have c1 : ¬ (pcheck 6 1 2 (bl S)).2 = true := fun hc => by
        have := (has_iff.1 (pcheck_snd.1 hc).2).2.2.2
        rw [cov_six, bl_length] at this
        have : (16 : Int) + 2 ≤ _ := this
        omega
      rw [bool_no c1, decide_eq_false (by omega), decide_eq_true (by omega)]
      refine ⟨rfl, ?_⟩
      unfold pverify
      rw [if_pos (show (place 6).2 = true from rfl), if_neg c1]; rfl
  rw [c.1, c.2, if_pos (beq_self_eq_true _), if_pos (beq_self_eq_true _), pverify_nine, beq_self_eq_true]
  rcases place_cases p with ⟨h, e⟩ | ⟨h, e⟩ | ⟨h, h', e⟩
  · rw [if_pos h, e]; rfl
  · rw [if_neg (by omega), e, h]; rfl
  · rw [if_neg h, e, beq_eq_false_iff_ne.2 h']; rfl

end Go.Proofs.Ytpjimpdfjacnoaa.Pure
