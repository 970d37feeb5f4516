-- Written by a program of the session (wip/tools) out of the translation, over the kit's print; with pieces of the session's own.
import Derived.Test.YtfnjohklmpiboaaGreatRows
import Derived.Test.YtfnjohklmpiboaaGreatPr23
import Derived.Test.YtfnjohklmpiboaaGreatPurePatchAbout
import Derived.WalkKit
import Derived.ProofKit
import Derived.OpenShut
import Derived.ShutString
import Derived.ChangeOld
import Derived.Below
import Derived.SizedLaws
import Derived.Lib.SmallJoins
import Derived.ChangeArms
import Derived.Carry
namespace Go.Proofs.YtfnjohklmpiboaaGreat.patchAbout
open Go.ChangeShapes Go.WideShapes Go.ChangeAt Go.RowKit
open Go.ChangeMaps (open_string shut_string)
set_option linter.unusedVariables false
theorem own : ownKnob Tryz.prog.godebug = none := by kernel_rfl
theorem laidOut : laidOutB Tryz.prog = true := by kernel_rfl
section
variable {H : Type} {enc : TypeId × Value → H} {P : Program} {w : World} {base : Nat} {spare : Nat → Bool} {held : Bool}
open Go.Joins Go.Deep in
theorem open_agg4 {r : Reach} {b0 : Nat} {t : TypeId} {f0 f1 f2 f3 : Field} {v : Value} {d : DataW H} {p : List MemPlace} (hs : P.underlying t = some (.struct #[f0, f1, f2, f3])) (hone : oneCellFields P #[f0, f1, f2, f3] = true) (hC : P.cellsOf t = 4)
    (hv : Value.okWide P w r b0 t v) (h : DataW.Trod enc P w base spare held t v d p) :
    ∃ (v0 v1 v2 v3 : Value) (y0 y1 y2 y3 : DataW H × List MemPlace) (n : Nat), v = .agg #[v0, v1, v2, v3] ∧ d = .agg [y0.1, y1.1, y2.1, y3.1] ∧ p = y0.2 ++ (y1.2 ++ (y2.2 ++ y3.2)) ∧ DataW.trod enc P w base spare held n f0.type [v0] = some y0 ∧ DataW.trod enc P w base spare held n f1.type [v1] = some y1 ∧ DataW.trod enc P w base spare held n f2.type [v2] = some y2 ∧ DataW.trod enc P w base spare held n f3.type [v3] = some y3 := by
  obtain ⟨cs, rfl, hsz⟩ := okWide_struct hs hv
  obtain ⟨l⟩ := cs
  match l, hsz.trans hC with
  | [c0, c1, c2, c3], _ =>
    obtain ⟨fuel, hf⟩ := h
    obtain ⟨xs, n, _, hx, _, hlen, hg⟩ := DataW.trod_struct hs hf
    obtain ⟨o0, k0⟩ := hone_of hone 0 f0 rfl
    obtain ⟨o1, k1⟩ := hone_of hone 1 f1 rfl
    obtain ⟨o2, k2⟩ := hone_of hone 2 f2 rfl
    obtain ⟨o3, k3⟩ := hone_of hone 3 f3 rfl
    match xs, hlen with
    | [y0, y1, y2, y3], _ =>
      simp only [Prod.mk.injEq] at hx
      exact ⟨c0, c1, c2, c3, y0, y1, y2, y3, n, rfl, by simpa using hx.1, by simpa using hx.2, by simpa [Value.cells, o0, k0] using hg 0 f0 rfl, by simpa [Value.cells, o1, k1] using hg 1 f1 rfl, by simpa [Value.cells, o2, k2] using hg 2 f2 rfl, by simpa [Value.cells, o3, k3] using hg 3 f3 rfl⟩
end
section
variable {H : Type} {enc : TypeId × Value → H} {P : Program} {w : World} {base : Nat} {spare : Nat → Bool} {held : Bool}
open Go.Joins Go.Deep in
theorem open_agg11 {r : Reach} {b0 : Nat} {t : TypeId} {f0 f1 f2 f3 f4 f5 f6 f7 f8 f9 f10 : Field} {v : Value} {d : DataW H} {p : List MemPlace} (hs : P.underlying t = some (.struct #[f0, f1, f2, f3, f4, f5, f6, f7, f8, f9, f10])) (hone : oneCellFields P #[f0, f1, f2, f3, f4, f5, f6, f7, f8, f9, f10] = true) (hC : P.cellsOf t = 11)
    (hv : Value.okWide P w r b0 t v) (h : DataW.Trod enc P w base spare held t v d p) :
    ∃ (v0 v1 v2 v3 v4 v5 v6 v7 v8 v9 v10 : Value) (y0 y1 y2 y3 y4 y5 y6 y7 y8 y9 y10 : DataW H × List MemPlace) (n : Nat), v = .agg #[v0, v1, v2, v3, v4, v5, v6, v7, v8, v9, v10] ∧ d = .agg [y0.1, y1.1, y2.1, y3.1, y4.1, y5.1, y6.1, y7.1, y8.1, y9.1, y10.1] ∧ p = y0.2 ++ (y1.2 ++ (y2.2 ++ (y3.2 ++ (y4.2 ++ (y5.2 ++ (y6.2 ++ (y7.2 ++ (y8.2 ++ (y9.2 ++ y10.2))))))))) ∧ DataW.trod enc P w base spare held n f0.type [v0] = some y0 ∧ DataW.trod enc P w base spare held n f1.type [v1] = some y1 ∧ DataW.trod enc P w base spare held n f2.type [v2] = some y2 ∧ DataW.trod enc P w base spare held n f3.type [v3] = some y3 ∧ DataW.trod enc P w base spare held n f4.type [v4] = some y4 ∧ DataW.trod enc P w base spare held n f5.type [v5] = some y5 ∧ DataW.trod enc P w base spare held n f6.type [v6] = some y6 ∧ DataW.trod enc P w base spare held n f7.type [v7] = some y7 ∧ DataW.trod enc P w base spare held n f8.type [v8] = some y8 ∧ DataW.trod enc P w base spare held n f9.type [v9] = some y9 ∧ DataW.trod enc P w base spare held n f10.type [v10] = some y10 := by
  obtain ⟨cs, rfl, hsz⟩ := okWide_struct hs hv
  obtain ⟨l⟩ := cs
  match l, hsz.trans hC with
  | [c0, c1, c2, c3, c4, c5, c6, c7, c8, c9, c10], _ =>
    obtain ⟨fuel, hf⟩ := h
    obtain ⟨xs, n, _, hx, _, hlen, hg⟩ := DataW.trod_struct hs hf
    obtain ⟨o0, k0⟩ := hone_of hone 0 f0 rfl
    obtain ⟨o1, k1⟩ := hone_of hone 1 f1 rfl
    obtain ⟨o2, k2⟩ := hone_of hone 2 f2 rfl
    obtain ⟨o3, k3⟩ := hone_of hone 3 f3 rfl
    obtain ⟨o4, k4⟩ := hone_of hone 4 f4 rfl
    obtain ⟨o5, k5⟩ := hone_of hone 5 f5 rfl
    obtain ⟨o6, k6⟩ := hone_of hone 6 f6 rfl
    obtain ⟨o7, k7⟩ := hone_of hone 7 f7 rfl
    obtain ⟨o8, k8⟩ := hone_of hone 8 f8 rfl
    obtain ⟨o9, k9⟩ := hone_of hone 9 f9 rfl
    obtain ⟨o10, k10⟩ := hone_of hone 10 f10 rfl
    match xs, hlen with
    | [y0, y1, y2, y3, y4, y5, y6, y7, y8, y9, y10], _ =>
      simp only [Prod.mk.injEq] at hx
      exact ⟨c0, c1, c2, c3, c4, c5, c6, c7, c8, c9, c10, y0, y1, y2, y3, y4, y5, y6, y7, y8, y9, y10, n, rfl, by simpa using hx.1, by simpa using hx.2, by simpa [Value.cells, o0, k0] using hg 0 f0 rfl, by simpa [Value.cells, o1, k1] using hg 1 f1 rfl, by simpa [Value.cells, o2, k2] using hg 2 f2 rfl, by simpa [Value.cells, o3, k3] using hg 3 f3 rfl, by simpa [Value.cells, o4, k4] using hg 4 f4 rfl, by simpa [Value.cells, o5, k5] using hg 5 f5 rfl, by simpa [Value.cells, o6, k6] using hg 6 f6 rfl, by simpa [Value.cells, o7, k7] using hg 7 f7 rfl, by simpa [Value.cells, o8, k8] using hg 8 f8 rfl, by simpa [Value.cells, o9, k9] using hg 9 f9 rfl, by simpa [Value.cells, o10, k10] using hg 10 f10 rfl⟩
end
set_option maxRecDepth 100000 in
theorem lifted (os : Os) (started : os.Started) (H : Type) (enc : TypeId × Value → H) :
    ReturnsInHanded {} Tryz.checked os 3 .any (Rows.patchAboutSpec.pre6 enc Tryz.prog Tryz.f3 Rows.patchAboutRow.domain false) (Rows.patchAboutSpec.post enc Tryz.prog Tryz.f3 false true false false) := by
  refine returnsInHanded_of_change_sized (C := Tryz.checked) own started (by kernel_rfl) Tryz.func3
    (ChangeSpec.witness6 (enc := enc) (C := Tryz.checked) false ⟨#[], #[.agg #[.int .u8 0, .int .u32 0, .int .u32 0, .int .u16 0, .int .u16 0, .int .u8 0, .int .u8 0, .string ByteArray.empty, .bool false, .int .u32 0, .int .u32 0], .int .i64 0, .int .u8 0, .int .u32 0, .int .u32 0, .agg #[.int .u32 0, .int .u32 0, .int .i64 0, .int .i64 0], .string ByteArray.empty], []⟩ 8 (by kernel_rfl) (by kernel_rfl) (by kernel_rfl) (by kernel_rfl)) ?_
  intro W base args ds gs before hval0 hW hcnd hsz0 _
  have hsz : (DataW.weightsEach Tryz.prog (Tryz.f3.params.toList ++ Rows.patchAboutSpec.plain.varTypes Tryz.prog) (ds ++ gs)).all (· ≤ reachBytes) = true := hsz0
  have hval : ∀ (j : Nat) t v, Tryz.f3.params[j]? = some t → args[j]? = some v → Value.okWide Tryz.prog W .any base t v := hval0
  have hW' := hW
  obtain ⟨p, q, hA0, hV, rfl, hfz, hnd⟩ := hW
  have hA : DataW.TrodAll enc Tryz.prog W 0 (fun _ => true) true Tryz.f3.params.toList args.toList ds p := hA0
  rw [Tryz.params3] at hA hval hsz
  obtain ⟨v0, vs0, d0, ds0, p0, q0, hargs, rfl, rfl, h0, r0⟩ := trodAll_cons hA
  obtain ⟨v1, vs1, d1, ds1, p1, q1, rfl, rfl, rfl, h1, r1⟩ := trodAll_cons r0
  obtain ⟨v2, vs2, d2, ds2, p2, q2, rfl, rfl, rfl, h2, r2⟩ := trodAll_cons r1
  obtain ⟨v3, vs3, d3, ds3, p3, q3, rfl, rfl, rfl, h3, r3⟩ := trodAll_cons r2
  obtain ⟨v4, vs4, d4, ds4, p4, q4, rfl, rfl, rfl, h4, r4⟩ := trodAll_cons r3
  obtain ⟨v5, vs5, d5, ds5, p5, q5, rfl, rfl, rfl, h5, r5⟩ := trodAll_cons r4
  obtain ⟨v6, vs6, d6, ds6, p6, q6, rfl, rfl, rfl, h6, r6⟩ := trodAll_cons r5
  obtain ⟨rfl, rfl, rfl⟩ := trodAll_nil r6
  obtain rfl : args = #[v0, v1, v2, v3, v4, v5, v6] := by cases args; simp_all
  obtain ⟨rfl, rfl⟩ := trodVars_none hV
  have k0 := h0
  have lt0 : ∀ x ∈ p0, x.block < W.heap.size := by obtain ⟨m, hm⟩ := k0; exact DataW.trod_lt m _ _ _ hm
  obtain ⟨v0_0, v0_1, v0_2, v0_3, v0_4, v0_5, v0_6, v0_7, v0_8, v0_9, v0_10, y0_0, y0_1, y0_2, y0_3, y0_4, y0_5, y0_6, y0_7, y0_8, y0_9, y0_10, n0, hv0, hd0, hp0, g0_0, g0_1, g0_2, g0_3, g0_4, g0_5, g0_6, g0_7, g0_8, g0_9, g0_10⟩ := open_agg11 Tryz.underlying25 (by kernel_rfl) (by kernel_rfl) (hval 0 25 v0 rfl rfl) h0
  subst hv0 hd0
  have sz0 : (DataW.weightsEach Tryz.prog [5, 22, 22, 23, 23, 5, 5, 9, 4, 22, 22] [y0_0.1, y0_1.1, y0_2.1, y0_3.1, y0_4.1, y0_5.1, y0_6.1, y0_7.1, y0_8.1, y0_9.1, y0_10.1]).all (· ≤ reachBytes) = true := List.all_eq_true.2 fun n hn => List.all_eq_true.1 hsz n (DataW.weights_mem_each (j := 0) (t := 25) rfl rfl n (by simp only [DataW.weights, Tryz.underlying25]; exact hn))
  obtain ⟨a0_0, hc0_0, hy0_0, w0_0⟩ := DataW.trod_int Tryz.underlying5 g0_0
  obtain rfl := (List.cons.inj hc0_0).1
  rw [hy0_0] at sz0
  obtain ⟨a0_1, hc0_1, hy0_1, w0_1⟩ := DataW.trod_int Tryz.underlying22 g0_1
  obtain rfl := (List.cons.inj hc0_1).1
  rw [hy0_1] at sz0
  obtain ⟨a0_2, hc0_2, hy0_2, w0_2⟩ := DataW.trod_int Tryz.underlying22 g0_2
  obtain rfl := (List.cons.inj hc0_2).1
  rw [hy0_2] at sz0
  obtain ⟨a0_3, hc0_3, hy0_3, w0_3⟩ := DataW.trod_int Tryz.underlying23 g0_3
  obtain rfl := (List.cons.inj hc0_3).1
  rw [hy0_3] at sz0
  obtain ⟨a0_4, hc0_4, hy0_4, w0_4⟩ := DataW.trod_int Tryz.underlying23 g0_4
  obtain rfl := (List.cons.inj hc0_4).1
  rw [hy0_4] at sz0
  obtain ⟨a0_5, hc0_5, hy0_5, w0_5⟩ := DataW.trod_int Tryz.underlying5 g0_5
  obtain rfl := (List.cons.inj hc0_5).1
  rw [hy0_5] at sz0
  obtain ⟨a0_6, hc0_6, hy0_6, w0_6⟩ := DataW.trod_int Tryz.underlying5 g0_6
  obtain rfl := (List.cons.inj hc0_6).1
  rw [hy0_6] at sz0
  obtain ⟨a0_7, hc0_7, hy0_7, b0_7⟩ := DataW.trod_string Tryz.underlying9 g0_7
  obtain rfl := (List.cons.inj hc0_7).1
  rw [hy0_7] at sz0
  have w0_7 : a0_7.size ≤ 140737488351232 := by
    have z := sized_string sz0 (j := 7) (t := 9) rfl rfl
    rw [Array.length_toList] at z
    exact z
  obtain ⟨a0_8, hc0_8, hy0_8⟩ := DataW.trod_bool Tryz.underlying4 g0_8
  obtain rfl := (List.cons.inj hc0_8).1
  rw [hy0_8] at sz0
  obtain ⟨a0_9, hc0_9, hy0_9, w0_9⟩ := DataW.trod_int Tryz.underlying22 g0_9
  obtain rfl := (List.cons.inj hc0_9).1
  rw [hy0_9] at sz0
  obtain ⟨a0_10, hc0_10, hy0_10, w0_10⟩ := DataW.trod_int Tryz.underlying22 g0_10
  obtain rfl := (List.cons.inj hc0_10).1
  rw [hy0_10] at sz0
  obtain ⟨a1, rfl, rfl, rfl, w1⟩ := open_int Tryz.underlying3 (hval 1 3 v1 rfl rfl) h1
  obtain ⟨a2, rfl, rfl, rfl, w2⟩ := open_int Tryz.underlying5 (hval 2 5 v2 rfl rfl) h2
  obtain ⟨a3, rfl, rfl, rfl, w3⟩ := open_int Tryz.underlying22 (hval 3 22 v3 rfl rfl) h3
  obtain ⟨a4, rfl, rfl, rfl, w4⟩ := open_int Tryz.underlying22 (hval 4 22 v4 rfl rfl) h4
  have k5 := h5
  have lt5 : ∀ x ∈ p5, x.block < W.heap.size := by obtain ⟨m, hm⟩ := k5; exact DataW.trod_lt m _ _ _ hm
  obtain ⟨v5_0, v5_1, v5_2, v5_3, y5_0, y5_1, y5_2, y5_3, n5, hv5, hd5, hp5, g5_0, g5_1, g5_2, g5_3⟩ := open_agg4 Tryz.underlying27 (by kernel_rfl) (by kernel_rfl) (hval 5 27 v5 rfl rfl) h5
  subst hv5 hd5
  have sz5 : (DataW.weightsEach Tryz.prog [22, 22, 3, 3] [y5_0.1, y5_1.1, y5_2.1, y5_3.1]).all (· ≤ reachBytes) = true := List.all_eq_true.2 fun n hn => List.all_eq_true.1 hsz n (DataW.weights_mem_each (j := 5) (t := 27) rfl rfl n (by simp only [DataW.weights, Tryz.underlying27]; exact hn))
  obtain ⟨a5_0, hc5_0, hy5_0, w5_0⟩ := DataW.trod_int Tryz.underlying22 g5_0
  obtain rfl := (List.cons.inj hc5_0).1
  rw [hy5_0] at sz5
  obtain ⟨a5_1, hc5_1, hy5_1, w5_1⟩ := DataW.trod_int Tryz.underlying22 g5_1
  obtain rfl := (List.cons.inj hc5_1).1
  rw [hy5_1] at sz5
  obtain ⟨a5_2, hc5_2, hy5_2, w5_2⟩ := DataW.trod_int Tryz.underlying3 g5_2
  obtain rfl := (List.cons.inj hc5_2).1
  rw [hy5_2] at sz5
  obtain ⟨a5_3, hc5_3, hy5_3, w5_3⟩ := DataW.trod_int Tryz.underlying3 g5_3
  obtain rfl := (List.cons.inj hc5_3).1
  rw [hy5_3] at sz5
  obtain ⟨a6, rfl, rfl, rfl, y6⟩ := open_string Tryz.underlying9 (hval 6 9 v6 rfl rfl) h6
  have w6 : a6.size ≤ 140737488351232 := by
    have z := sized_string hsz (j := 6) (t := 9) rfl rfl
    rw [Array.length_toList] at z
    exact z
  clear hA0 hval0 hsz0 hsz
  refine (Pr.weighbridgelaw10_PatchAbout.walk Pure.PatchAbout a0_0 a0_1 a0_2 a0_3 a0_4 a0_5 a0_6 a0_7 a0_8 a0_9 a0_10 a1 a2 a3 a4 a5_0 a5_1 a5_2 a5_3 a6 W w0_0 w0_1 w0_2 w0_3 w0_4 w0_5 w0_6 w0_7 w0_9 w0_10 w1 w2 w3 w4 w5_0 w5_1 w5_2 w5_3 w6).mono fun e W' ⟨he, bel⟩ => ?_
  subst he
  exact ⟨_, rfl, _, _, _, [], _, [], hW', trodAll_mk1 (shut_bool Tryz.underlying4 _), (trodAll_cons_mk (Below.trod laidOut (by kernel_rfl) (of_decide_eq_true (by kernel_rfl)) k0 bel lt0) (trodAll_cons_mk (shut_int Tryz.underlying3 w1) (trodAll_cons_mk (shut_int Tryz.underlying5 w2) (trodAll_cons_mk (shut_int Tryz.underlying22 w3) (trodAll_cons_mk (shut_int Tryz.underlying22 w4) (trodAll_cons_mk (Below.trod laidOut (by kernel_rfl) (of_decide_eq_true (by kernel_rfl)) k5 bel lt5) (trodAll_cons_mk (shut_string Tryz.underlying9 y6) trodAll_mk0))))))), rfl, bel.frame _, fun h => by cases h⟩
theorem over : Rows.patchAboutRow.holds Tryz.pinned (OpenSpec.ofChange Rows.patchAboutSpec) :=
  OpenClaim.holds_of_wide 3 Tryz.f3 rfl rfl rfl rfl rfl rfl rfl ⟨rfl, rfl, rfl, rfl, rfl⟩ rfl rfl rfl rfl rfl (by kernel_rfl) Tryz.func3 (by kernel_rfl)
    (of_decide_eq_true (by kernel_rfl)) (by unfold Func.isWrapper; first | (rw [if_pos (by decide +kernel)]; kernel_rfl) | (rw [if_neg (by decide +kernel)]; exact ⟨rfl, rfl⟩))
    (fun os started H enc _ => lifted os started H enc)
theorem proved : Rows.PatchAboutSaid := over
#print axioms proved
end Go.Proofs.YtfnjohklmpiboaaGreat.patchAbout
namespace Go.Proofs.YtfnjohklmpiboaaGreat
/-- The row, under a short name, for the claim. -/
theorem patchAbout_holds : Rows.PatchAboutSaid := patchAbout.proved
end Go.Proofs.YtfnjohklmpiboaaGreat
