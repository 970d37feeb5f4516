/- Any segment of any protocol has the check, is filled and is verified alike by both texts. -/
import Derived.Test.YtpjimpdfjacnoaaPr11
import Derived.Test.YtpjimpdfjacnoaaLem
set_option linter.unusedVariables false
set_option linter.unusedSimpArgs false
namespace Go.Proofs.Ytpjimpdfjacnoaa.Pure
open Go.RowKit Go.Proofs.Ytpjimpdfjacnoaa.Pr Go.Proofs.Ytpjimpdfjacnoaa.Sp Go.Proofs.Ytpjimpdfjacnoaa.Lem Go.Proofs.YtpjimpdfjacnoaaW.PrintWords Go.Proofs.YtpjimpdfjacnoaaW.PrintLast Go.Proofs.YtpjimpdfjacnoaaW.PrintMore

theorem examples_true : weighbridgelaw08_examples.f = some true := by kernel_rfl
theorem PseudoChecks_j (p a b : Int) (s : ByteArray) (h0 : -9223372036854775808 ≤ p ∧ p ≤ 9223372036854775807) (h1 : 0 ≤ a ∧ a ≤ 4294967295) (h2 : 0 ≤ b ∧ b ≤ 4294967295) (h3 : s.size ≤ 1500) :
    weighbridgelaw08_PseudoChecks.j0 1 p a b s true = some true := by
  have e : weighbridgeref08_Place.f p = some (place p) := rfl
  simp only [weighbridgelaw08_PseudoChecks.j0]
  rw [pseudo_Check_eq h0 h1 h2 (by omega), weighbridgeref08_Check_eq h0 h1 h2 (by omega), pseudo_Fill_eq h0 h1 h2 (by omega), weighbridgeref08_Fill_eq h0 h1 h2 (by omega), pseudo_Place_eq h0.1 h0.2, e, pseudo_Verify_eq h0 h1 h2 (by omega), weighbridgeref08_Verify_eq h0 h1 h2 (by omega)]
  simp only [Option.bind_some, beq_self_eq_true, if_true]
theorem PseudoChecks : weighbridgelaw08_PseudoChecks.Pure := by
  intro p a b s n w0 w1 w2 hs w4
  have b0 := wf_i64 w0
  have b1 := wf_u32 w1
  have b2 := wf_u32 w2
  have b4 := wf_u8 w4
  refine ⟨1, ?_⟩
  unfold weighbridgelaw08_PseudoChecks.f
  obtain ⟨q, hq, hq1, hq2, hq3⟩ := mn_cut s 1500
  rw [examples_true, Option.bind_some, if_pos rfl, show (1500 : Int) = ((1500 : Nat) : Int) from rfl, hq, if_pos (by omega), if_pos (by omega)]
  by_cases c1 : Int.tmod n 3 = 1
  · rw [if_pos c1]; exact PseudoChecks_j 6 a b _ (by decide) b1 b2 (by omega)
  · rw [if_neg c1]
    by_cases c2 : Int.tmod n 3 = 2
    · rw [if_pos c2]; exact PseudoChecks_j 17 a b _ (by decide) b1 b2 (by omega)
    · rw [if_neg c2]; exact PseudoChecks_j p a b _ b0 b1 b2 (by omega)

end Go.Proofs.Ytpjimpdfjacnoaa.Pure
