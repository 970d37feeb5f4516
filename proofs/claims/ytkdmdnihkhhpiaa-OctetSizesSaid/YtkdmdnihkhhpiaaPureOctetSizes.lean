/- A number of four bytes has room in four, and in fewer just if it is less; its two halves are the whole. -/
import Derived.Test.YtkdmdnihkhhpiaaPr12
import Derived.Test.YtkdmdnihkhhpiaaLem
set_option linter.unusedVariables false
set_option linter.unusedSimpArgs false
namespace Go.Proofs.Ytkdmdnihkhhpiaa.Pure
open Go.RowKit Go.Proofs.Ytkdmdnihkhhpiaa.Pr Go.Proofs.Ytkdmdnihkhhpiaa.Sp Go.Proofs.Ytkdmdnihkhhpiaa.Lem Go.Proofs.YtkdmdnihkhhpiaaW.PrintWords Go.Proofs.YtkdmdnihkhhpiaaW.PrintLast Go.Proofs.YtkdmdnihkhhpiaaW.PrintMore

theorem examples_true : weighbridgelaw01_examples.f = some true := by kernel_rfl
theorem OctetSizes : weighbridgelaw01_OctetSizes.Pure := by
  intro n z w0 w1
  have b0 := wf_u32 w0
  have b1 := wf_u8 w1
  obtain ⟨k, hk, hk1, hk4⟩ := size4 b1.1 b1.2
  unfold weighbridgelaw01_OctetSizes.f
  rw [examples_true]
  simp only [Option.bind_some, if_true, hk, octet_Put.f]
  rw [w64 (n := n) (by omega) (by omega), w64 (n := 8 * (k : Int)) (by omega) (by omega), put_yes (sz := 4) (n := n) (fits_iff.2 ⟨by omega, by omega, by omega, by simp; omega⟩)]
  rw [octet_Get_eq _ _ _ (by simp), octet_Get_eq _ _ _ (by simp)]
  have e := beNum_take4 b0.1 (by omega : n < 4294967296)
  have g1 : Sp.get (beBytes 4 n) 0 2 = (n / 65536, true) := by
    rw [get_yes (has_iff.2 ⟨by omega, by omega, by omega, by simp⟩), ← e.1]; rfl
  have g2 : Sp.get (beBytes 4 n) 2 2 = (n % 65536, true) := by
    rw [get_yes (has_iff.2 ⟨by omega, by omega, by omega, by simp⟩), ← e.2, List.take_of_length_le (by simp)]; rfl
  simp only [bl_lb, Option.bind_some]
  rw [show (4 : Int).toNat = 4 from rfl, g1, g2]
  simp only [if_true]
  rw [if_pos (by omega), wu64 b0.1 (by omega), show 8 * (k : Int) = ((8 * k : Nat) : Int) by omega, shlu64 _ (by omega), w64 (by omega) (by omega), or64 16 (by decide) (by omega) (by omega) (by omega) (by omega) (by omega)]
  rw [pow8, put_snd]
  have hf : fits k n = decide (n < 256 ^ k) := by
    unfold fits; exact decide_eq_decide.2 (by rw [Int.toNat_natCast]; omega)
  rw [hf, show n / 65536 * 65536 + n % 65536 = n by omega]
  simp

end Go.Proofs.Ytkdmdnihkhhpiaa.Pure
