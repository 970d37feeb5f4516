/- Any tuple is turned, and has the key, that the chapter says, or none. -/
import Derived.Test.YtkganedlhcepfaaPr27
import Derived.Test.YtkganedlhcepfaaLem
set_option linter.unusedVariables false
set_option linter.unusedSimpArgs false
namespace Go.Proofs.Ytkganedlhcepfaa.Pure
open Go.RowKit Go.Proofs.Ytkganedlhcepfaa.Pr Go.Proofs.Ytkganedlhcepfaa.Sp Go.Proofs.Ytkganedlhcepfaa.Lem Go.Proofs.YtkganedlhcepfaaW.PrintWords Go.Proofs.YtkganedlhcepfaaW.PrintLast Go.Proofs.YtkganedlhcepfaaW.PrintMore

theorem ref_key {p s d a b : Int} (h0 : -9223372036854775808 ≤ p ∧ p ≤ 9223372036854775807) (h1 : 0 ≤ s ∧ s ≤ 4294967295) (h2 : 0 ≤ d ∧ d ≤ 4294967295) (h3 : -9223372036854775808 ≤ a ∧ a ≤ 9223372036854775807) (h4 : -9223372036854775808 ≤ b ∧ b ≤ 9223372036854775807) :
    weighbridgeref09_Key.f 1 p s d a b = some (lb (key p s d a b).1, (key p s d a b).2) := by
  have f4 : ∀ n : Int, 0 ≤ n ∧ n ≤ 4294967295 → fits 4 n = true := fun n h => fits_iff.2 ⟨by decide, by decide, h.1, by show n < 256 ^ 4; omega⟩
  have hno : ∀ x y z : ByteArray, weighbridgeref09_Key.j0 1 x y z true p s d a b = some (lb [], false) := fun x y z => by rw [weighbridgeref09_Key.j0, if_pos rfl]; rfl
  unfold weighbridgeref09_Key.f
  rw [weighbridgeref01_Put_eq _ _ h0.1 h0.2, Option.bind_some, weighbridgeref01_Put_eq _ _ h3.1 h3.2, Option.bind_some, weighbridgeref01_Put_eq _ _ h4.1 h4.2, Option.bind_some]
  simp only
  rw [put_snd, put_snd, put_snd]
  by_cases fp : fits 1 p = true
  rotate_left
  · have hk : key p s d a b = ([], false) := by unfold key keyOk; rw [bool_no fp]; rfl
    rw [if_neg fp, hno, hk]
  rw [if_pos fp]
  by_cases fa : fits 2 a = true
  rotate_left
  · have hk : key p s d a b = ([], false) := by unfold key keyOk; rw [fp, bool_no fa]; rfl
    rw [if_neg fa, hno, hk]
  rw [if_pos fa]
  by_cases fb : fits 2 b = true
  rotate_left
  · have hk : key p s d a b = ([], false) := by unfold key keyOk; rw [fp, fa, bool_no fb]; rfl
    rw [bool_no fb]
    show weighbridgeref09_Key.j0 1 _ _ _ true p s d a b = _
    rw [hno, hk]
  have hk : key p s d a b = (beBytes 1 p ++ beBytes 4 s ++ beBytes 4 d ++ beBytes 2 a ++ beBytes 2 b, true) := by unfold key keyOk; rw [fp, fa, fb]; rfl
  rw [fb]
  show weighbridgeref09_Key.j0 1 _ _ _ false p s d a b = _
  rw [weighbridgeref09_Key.j0, if_neg (by decide), put_yes fp, put_yes fa, put_yes fb, w64 (n := s) (by omega) (by omega), w64 (n := d) (by omega) (by omega), weighbridgeref04_Num_eq (by omega) (by omega), Option.bind_some, weighbridgeref04_Num_eq (by omega) (by omega), Option.bind_some, put_yes (f4 s h1), put_yes (f4 d h2)]
  simp only [ByteArray.size_append, lb_size, beBytes_length, lb_append]
  rw [if_pos (by (try simp only [List.length_append, beBytes_length]); decide), if_pos (by (try simp only [List.length_append, beBytes_length]); decide), if_pos (by (try simp only [List.length_append, beBytes_length]); decide), if_pos (by (try simp only [List.length_append, beBytes_length]); decide), hk]
  rfl
theorem PacketKeys : weighbridgelaw09_PacketKeys.Pure := by
  intro p s d a b w0 w1 w2 w3 w4
  refine ⟨1, ?_⟩
  unfold weighbridgelaw09_PacketKeys.f packet_Reverse.f weighbridgeref09_Reverse.f
  rw [show weighbridgelaw09_examples.f = some true from rfl, Option.bind_some, if_pos rfl, packet_Key_eq (wf_u32 w1) (wf_u32 w2), Option.bind_some, ref_key (wf_i64 w0) (wf_u32 w1) (wf_u32 w2) (wf_i64 w3) (wf_i64 w4), Option.bind_some, Option.bind_some, Option.bind_some, if_pos (by simp), if_pos rfl]
  simp

end Go.Proofs.Ytkganedlhcepfaa.Pure
