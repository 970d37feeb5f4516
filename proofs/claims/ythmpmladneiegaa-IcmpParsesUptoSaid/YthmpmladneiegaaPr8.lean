-- Written by a program of the session (wip/tools) out of the translation, over the kit's print; with pieces of the session's own.
import Derived.Test.YthmpmladneiegaaPr0
import Derived.Test.YthmpmladneiegaaPr7
namespace Go.Proofs.Ythmpmladneiegaa.Pr
open Go.RowKit Go.Proofs.YthmpmladneiegaaW.PrintWords Go.Proofs.YthmpmladneiegaaW.PrintLast Go.Proofs.YthmpmladneiegaaW.PrintMore
attribute [local go_sem] max2_int min2_int max_two min_two max_three min_three max_four min_four   -- for this text's walks alone
set_option linter.unusedVariables false
set_option linter.unusedSimpArgs false
open Go.Proofs.Ythmpmladneiegaa.Sp
/-! ### weighbridgeref04_Num_p: function 32 -/
def weighbridgeref04_Num_p.f (a0 : Int) (a1 : Int) : Option (ByteArray) := (weighbridgeref01_Put.f a0 a1).bind fun bt137 => (some bt137.1)
set_option maxHeartbeats 8000000 in
set_option maxRecDepth 100000 in
theorem weighbridgeref04_Num_p.calls (a0 : Int) (a1 : Int) (r : ByteArray) (w : World) (h : weighbridgeref04_Num_p.f a0 a1 = some r) :
    Calls Try.prog 32 #[.int .i64 a0, .int .i64 a1] w fun e w' => e = .returned (.string r) ∧ Below w.heap.size w w' := by
  have HB := Aside0.mk (Below.refl w.heap.size w)
  have H : ((weighbridgeref01_Put.f a0 a1).bind fun bt137 => (some bt137.1)) = some r := h
  clear h
  replace H := Option.bind_eq_some_iff.mp H
  obtain ⟨⟨t137, t138⟩, A30, H⟩ := H
  replace H : (some t137) = some r := H
  have A3 := Aside0.mk A30
  clear A30
  obtain rfl := Option.some.inj H
  go_enter Try.func32, Try.ntmps32
  go_wp2_with (first | ((with_reducible refine gate_callee (f := 41) rfl ?_); refine goesL_ (some 10) rfl rfl Try.func41 (by kernel_rfl) rfl #[.int .i64 a0, .int .i64 a1] rfl (by (try simp only [List.map_toArray, List.map_cons, List.map_nil]); first | done | rfl | (simp only [List.length_drop, List.length_take]; rfl)) ?_; (with_reducible refine (weighbridgeref01_Put.calls a0 a1 t137 t138 _ A3.out).mono ?_); rintro e w4 ⟨rfl, hb⟩; (try clear A3); refine ⟨_, rfl, ?_⟩; have n0_ := Aside0.mk (below_step (by repeat (first | (with_reducible first | exact HB.out | apply below_alloc | apply pw_below_drewN | apply below_drew1) | exact HB.out)) hb); clear HB; have HB := n0_; clear n0_; (try clear hb); (try clear hb2); (try clear hk); (try clear hi)))
  go_ret
  exact ⟨by first | rfl | (simp [errW_none, errW_some] <;> rfl) | (simp [*, errW_none, errW_some] <;> rfl), by repeat (first | (with_reducible first | exact HB.out | apply below_alloc | apply pw_below_drewN | apply below_drew1) | exact HB.out)⟩

def i64b (n : Int) : Bool := decide (-9223372036854775808 ≤ n ∧ n ≤ 9223372036854775807)
def weighbridgeref04_Num.f (a0 a1 : Int) : Option ByteArray := if i64b a1 = true then some (lb (Sp.put a0 a1).1) else none
theorem weighbridgeref04_Num_eq {a0 a1 : Int} (h0 : -9223372036854775808 ≤ a1) (h1 : a1 ≤ 9223372036854775807) : weighbridgeref04_Num.f a0 a1 = some (lb (Sp.put a0 a1).1) := by
  unfold weighbridgeref04_Num.f; exact if_pos (decide_eq_true ⟨h0, h1⟩)
theorem weighbridgeref04_Num_yes {a0 a1 : Int} (h : Sp.fits a0 a1 = true) : weighbridgeref04_Num.f a0 a1 = some (lb (Sp.beBytes a0.toNat a1)) := by
  have hf := Sp.fits_iff.1 h
  have hp : (256 : Int) ^ a0.toNat ≤ 4294967296 := by
    rcases (by omega : a0.toNat = 1 ∨ a0.toNat = 2 ∨ a0.toNat = 3 ∨ a0.toNat = 4) with e | e | e | e <;> rw [e] <;> decide
  rw [weighbridgeref04_Num_eq (by omega) (by omega), Sp.put_yes h]
theorem weighbridgeref04_Num_ev (a0 a1 : Int) (r : ByteArray) (h : weighbridgeref04_Num.f a0 a1 = some r) : weighbridgeref04_Num_p.f a0 a1 = some r := by
  unfold weighbridgeref04_Num.f at h
  split at h
  case isFalse => cases h
  case isTrue hs =>
    have hs := of_decide_eq_true hs
    unfold weighbridgeref04_Num_p.f
    rw [weighbridgeref01_Put_eq _ _ hs.1 hs.2, Option.bind_some]
    exact h

theorem weighbridgeref04_Num.calls (a0 : Int) (a1 : Int) (r : ByteArray) (w : World) (h : weighbridgeref04_Num.f a0 a1 = some r) :
    Calls Try.prog 32 #[.int .i64 a0, .int .i64 a1] w fun e w' => e = .returned (.string r) ∧ Below w.heap.size w w' := by
  have hk := weighbridgeref04_Num_ev a0 a1 _ h
  exact weighbridgeref04_Num_p.calls a0 a1 r w hk

end Go.Proofs.Ythmpmladneiegaa.Pr
