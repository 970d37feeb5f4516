/- Any header and body make the packet that the chapter says, or are refused; any options are right, or not. -/
import Derived.Test.YthdaldicdhpnoaaPr11
import Derived.Test.YthdaldicdhpnoaaLem
set_option linter.unusedVariables false
set_option linter.unusedSimpArgs false
namespace Go.Proofs.Ythdaldicdhpnoaa.Pure
open Go.RowKit Go.Proofs.Ythdaldicdhpnoaa.Pr Go.Proofs.Ythdaldicdhpnoaa.Sp Go.Proofs.Ythdaldicdhpnoaa.Lem Go.Proofs.YthdaldicdhpnoaaW.PrintWords Go.Proofs.YthdaldicdhpnoaaW.PrintLast Go.Proofs.YthdaldicdhpnoaaW.PrintMore

theorem examples_true : weighbridgelaw04_examples.f = some true := by kernel_rfl
theorem Ip4Builds : weighbridgelaw04_Ip4Builds.Pure := by
  intro t i f g l p a b o y w0 w1 w2 w3 w4 w5 w6 w7 wo wy
  have b6 := wf_u32 w6
  have b7 := wf_u32 w7
  unfold weighbridgelaw04_Ip4Builds.f weighbridgelaw04_ref.f
  rw [examples_true, Option.bind_some, if_pos rfl, ip4_Build_eq b6 b7 (by omega) (by omega), Option.bind_some, Option.bind_some]
  simp only
  rw [weighbridgeref04_Build_eq b6 b7 (by omega) (by omega), Option.bind_some, if_pos rfl, if_pos rfl, ip4_Right_eq (by omega), Option.bind_some, Option.bind_some]
  simp only
  rw [weighbridgeref04_Right_eq (by omega), Option.bind_some, if_pos (by simp), ip4_OptsRight_eq (by omega), Option.bind_some, weighbridgeref04_OptsRight_eq (by omega), Option.bind_some]
  simp

end Go.Proofs.Ythdaldicdhpnoaa.Pure
