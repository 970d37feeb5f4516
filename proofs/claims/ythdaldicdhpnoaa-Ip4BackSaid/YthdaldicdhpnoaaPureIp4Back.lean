/- What is built is parsed as it was, with anything behind; its header's sum is 65535. -/
import Derived.Test.YthdaldicdhpnoaaPr12
import Derived.Test.YthdaldicdhpnoaaLem
set_option linter.unusedVariables false
set_option linter.unusedSimpArgs false
namespace Go.Proofs.Ythdaldicdhpnoaa.Pure
open Go.RowKit Go.Proofs.Ythdaldicdhpnoaa.Pr Go.Proofs.Ythdaldicdhpnoaa.Sp Go.Proofs.Ythdaldicdhpnoaa.Lem Go.Proofs.YthdaldicdhpnoaaW.PrintWords Go.Proofs.YthdaldicdhpnoaaW.PrintLast Go.Proofs.YthdaldicdhpnoaaW.PrintMore

theorem examples_true : weighbridgelaw04_examples.f = some true := by kernel_rfl
theorem Ip4Back : weighbridgelaw04_Ip4Back.Pure := by
  intro t i f g l p a b o y more w0 w1 w2 w3 w4 w5 w6 w7 wo wy wm
  have b6 := wf_u32 w6
  have b7 := wf_u32 w7
  have hol := bl_length o
  have hyl := bl_length y
  unfold weighbridgelaw04_Ip4Back.f
  rw [examples_true, Option.bind_some, if_pos rfl, ip4_Build_eq b6 b7 (by omega) (by omega), Option.bind_some]
  simp only
  by_cases he : (ip4Build t i f g l p a b (bl o) (bl y)).2 = 0
  · obtain ⟨R, hz⟩ := ip4Build_ok he
    rw [if_pos he, ip4Build_yes R hz]
    simp only
    have hp := ip4Parse_full R b6 b7 hz (bl more)
    have hs := ip4Full_sum t i f g l p a b (bl o) (20 + ((bl o).length : Int) + ((bl y).length : Int))
    have hF := ip4Full_length t i f g l p a b (bl o) (20 + ((bl o).length : Int) + ((bl y).length : Int))
    obtain ⟨F, hFe⟩ : ∃ F, ip4Full t i f g l p a b (bl o) (20 + ((bl o).length : Int) + ((bl y).length : Int)) = F := ⟨_, rfl⟩
    rw [hFe] at hp hs hF ⊢
    have hsz : (lb (F ++ bl y)).size = 20 + o.size + y.size := by rw [lb_size, List.length_append]; omega
    have hx : (lb (F ++ bl y)).extract 0 (20 + (o.size : Int)).toNat = lb F := bl_inj (by rw [bl_extract, bl_lb, bl_lb, List.drop_zero, List.take_left' (by omega)])
    rw [if_pos (by omega), ip4_Parse_eq (by rw [ByteArray.size_append]; omega), Option.bind_some, bl_append, bl_lb, hp]
    simp only
    rw [hsz, w64 (n := 20 + (o.size : Int)) (by omega) (by omega), w64 (n := 20 + (o.size : Int) + (y.size : Int)) (by omega) (by omega), if_pos (by omega), if_pos trivial, if_pos (by rw [lb_bl]; simp), if_pos (by rw [lb_bl]), if_pos (by omega), if_pos (by omega), hx,
      cksum_Sum_eq (by rw [lb_size]; omega), Option.bind_some, bl_lb, if_pos hs, ip4_Right_eq (by omega), Option.bind_some, R]
  · obtain ⟨e1, e2⟩ := ip4Build_no he
    rw [if_neg he, e1, if_pos (by rw [toL]; rfl), ip4_Right_eq (by omega), Option.bind_some]
    rcases e2 with e2 | e2
    · rw [e2, if_neg (by decide)]
    · by_cases R : ip4Right t i f g l p (bl o) = true
      · rw [if_pos R, w64 (n := 20 + (o.size : Int)) (by omega) (by omega), w64 (n := 20 + (o.size : Int) + (y.size : Int)) (by omega) (by omega), decide_eq_true (by omega)]
      · rw [if_neg R]

end Go.Proofs.Ythdaldicdhpnoaa.Pure
