/- Each field has just the room that it has: at its greatest it is built, one more is refused (which field). -/
import Derived.Test.YthdaldicdhpnoaaPr17
import Derived.Test.YthdaldicdhpnoaaLem
set_option linter.unusedVariables false
set_option linter.unusedSimpArgs false
namespace Go.Proofs.Ythdaldicdhpnoaa.Pure
open Go.RowKit Go.Proofs.Ythdaldicdhpnoaa.Pr Go.Proofs.Ythdaldicdhpnoaa.Sp Go.Proofs.Ythdaldicdhpnoaa.Lem Go.Proofs.YthdaldicdhpnoaaW.PrintWords Go.Proofs.YthdaldicdhpnoaaW.PrintLast Go.Proofs.YthdaldicdhpnoaaW.PrintMore

theorem examples_true : weighbridgelaw04_examples.f = some true := by kernel_rfl
theorem u32m : (0 : Int) ≤ 4294967295 ∧ (4294967295 : Int) ≤ 4294967295 := by decide
theorem z0 : (⟨#[]⟩ : ByteArray).size ≤ 140737488355328 := by decide
theorem build_bad {t i f g l p : Int} (h : ip4Right t i f g l p [] = false) : ∃ b, ip4_Build.f t i f g l p 4294967295 4294967295 (⟨#[]⟩ : ByteArray) (⟨#[]⟩ : ByteArray) = some b ∧ b.2 = 1 := by
  refine ⟨_, ip4_Build_eq u32m u32m z0 z0, ?_⟩
  show (ip4Build t i f g l p 4294967295 4294967295 [] []).2 = 1
  unfold ip4Build
  rw [h, if_neg (by decide)]
theorem lim_case {B C : Option (ByteArray × Int)} (hB : ∃ b, B = some b ∧ b.2 = 1) (hC : ∃ b, C = some b ∧ b.2 = 1) (m : Nat) (hm : m < 1600) :
    (B.bind fun x => (C.bind fun y => (if 0 ≤ (m : Int) then (if ((m : Int)).toNat ≤ 281474976710656 then ((ip4_Build.f 0 0 0 0 0 0 0 0 (⟨#[]⟩ : ByteArray) (strOfNums (List.replicate ((m : Int)).toNat 0))).bind fun z => (if (0 : Int) = 0 then (if (0 : Int) = 0 then (if (65535 : Int) = 65535 then (if (8191 : Int) = 8191 then (if x.2 = 1 then (if y.2 = 1 then (some ((z.2 == 0) == (decide ((m : Int) ≤ 1480)))) else (some false)) else (some false)) else (some false)) else (some false)) else (some false)) else (some false))) else (none)) else (none)))) = some true := by
  obtain ⟨b, rfl, hb⟩ := hB
  obtain ⟨c, rfl, hc⟩ := hC
  have u0 : (0 : Int) ≤ 0 ∧ (0 : Int) ≤ 4294967295 := by decide
  have hz : (strOfNums (List.replicate ((m : Int)).toNat 0)).size = m := by rw [strOfNums_size, List.length_replicate]; omega
  rw [Option.bind_some, Option.bind_some, if_pos (by omega), if_pos (by omega), ip4_Build_eq u0 u0 z0 (by omega), Option.bind_some, if_pos rfl, if_pos rfl, if_pos rfl, if_pos rfl, if_pos hb, if_pos hc]
  have hl : (bl (strOfNums (List.replicate ((m : Int)).toNat 0))).length = m := by rw [bl_length, hz]
  have R : ip4Right 0 0 0 0 0 0 (bl (⟨#[]⟩ : ByteArray)) = true := by decide
  have he : (ip4Build 0 0 0 0 0 0 0 0 (bl (⟨#[]⟩ : ByteArray)) (bl (strOfNums (List.replicate ((m : Int)).toNat 0)))).2 = if (m : Int) ≤ 1480 then 0 else 18 := by
    unfold ip4Build
    rw [if_pos R, hl, show ((bl (⟨#[]⟩ : ByteArray)).length : Int) = 0 from rfl]
    by_cases h : (m : Int) ≤ 1480
    · rw [if_neg (by omega), if_pos h]
    · rw [if_pos (by omega), if_neg h]
  simp only [he]
  by_cases h : (m : Int) ≤ 1480
  · rw [if_pos h, decide_eq_true h]; rfl
  · rw [if_neg h, decide_eq_false h]; rfl
theorem Ip4Limits : weighbridgelaw04_Ip4Limits.Pure := by
  intro a c wa wc
  have ba := wf_u8 wa
  have bc := wf_u16 wc
  unfold weighbridgelaw04_Ip4Limits.f
  have R : ip4Right 255 65535 7 8191 255 255 [] = true := by decide
  have hp := ip4Parse_full (a := 4294967295) (b := 4294967295) (s := []) R u32m u32m (by simp) []
  rw [examples_true, Option.bind_some, if_pos rfl, ip4_Build_eq u32m u32m z0 z0, Option.bind_some, show bl (⟨#[]⟩ : ByteArray) = [] from rfl, ip4Build_yes R (by simp)]
  simp only
  rw [ip4_Parse_eq (by rw [lb_size, List.length_append, ip4Full_length]; simp), Option.bind_some, bl_lb]
  rw [List.append_nil] at hp
  rw [hp]
  simp only
  obtain ⟨m, hm⟩ : ∃ m : Nat, c % 1600 = (m : Int) := ⟨(c % 1600).toNat, by omega⟩
  rw [tm 1600 bc.1, w64 (n := c % 1600) (by omega) (by omega), hm]
  have hml : m < 1600 := by omega
  by_cases h0 : Int.tmod a 6 = 0
  · rw [if_pos h0]; exact lim_case (build_bad (by decide)) (build_bad (by decide)) m hml
  · rw [if_neg h0]
    by_cases h1 : Int.tmod a 6 = 1
    · rw [if_pos h1]; exact lim_case (build_bad (by decide)) (build_bad (by decide)) m hml
    · rw [if_neg h1]
      by_cases h2 : Int.tmod a 6 = 2
      · rw [if_pos h2]; exact lim_case (build_bad (by decide)) (build_bad (by decide)) m hml
      · rw [if_neg h2]
        by_cases h3 : Int.tmod a 6 = 3
        · rw [if_pos h3]; exact lim_case (build_bad (by decide)) (build_bad (by decide)) m hml
        · rw [if_neg h3]
          by_cases h4 : Int.tmod a 6 = 4
          · rw [if_pos h4]; exact lim_case (build_bad (by decide)) (build_bad (by decide)) m hml
          · rw [if_neg h4]; exact lim_case (build_bad (by decide)) (build_bad (by decide)) m hml

end Go.Proofs.Ythdaldicdhpnoaa.Pure
