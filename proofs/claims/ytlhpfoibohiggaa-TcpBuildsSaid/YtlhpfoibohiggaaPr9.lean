-- Written by a program of the session (wip/tools) out of the translation, over the kit's print; with pieces of the session's own.
import Derived.Test.YtlhpfoibohiggaaPr0
import Derived.Test.YtlhpfoibohiggaaPr4
import Derived.Test.YtlhpfoibohiggaaPr5
import Derived.Test.YtlhpfoibohiggaaPr6
import Derived.Test.YtlhpfoibohiggaaPr7
namespace Go.Proofs.Ytlhpfoibohiggaa.Pr
open Go.RowKit Go.Proofs.YtlhpfoibohiggaaW.PrintWords Go.Proofs.YtlhpfoibohiggaaW.PrintLast Go.Proofs.YtlhpfoibohiggaaW.PrintMore
attribute [local go_sem] max2_int min2_int max_two min_two max_three min_three max_four min_four   -- for this text's walks alone
set_option linter.unusedVariables false
set_option linter.unusedSimpArgs false
open Go.Proofs.Ytlhpfoibohiggaa.Sp
/-! ### weighbridgelaw05_TcpBuilds: function 3 -/
def weighbridgelaw05_TcpBuilds.f (a0_0 : Int) (a0_1 : Int) (a0_2 : Int) (a0_3 : Int) (a0_4 : Int) (a0_5 : Int) (a0_6 : Int) (a0_7 : ByteArray) (a1 : ByteArray) (a2 : Int) : Option (Bool) := (weighbridgelaw05_examples.f).bind fun t162 => (if t162 = true then ((tcp_Build.f a0_0 a0_1 a0_2 a0_3 a0_4 a0_5 a0_6 a0_7 a1).bind fun bt163 => ((weighbridgelaw05_ref.f a0_0 a0_1 a0_2 a0_3 a0_4 a0_5 a0_6 a0_7).bind fun bt165 => ((weighbridgeref05_Build.f bt165.1 bt165.2.1 bt165.2.2.1 bt165.2.2.2.1 bt165.2.2.2.2.1 bt165.2.2.2.2.2.1 bt165.2.2.2.2.2.2.1 bt165.2.2.2.2.2.2.2 a1).bind fun bt173 => (if bt163.1.toList = bt173.1.toList then (if bt163.2 = bt173.2 then ((tcp_Right.f a0_0 a0_1 a0_2 a0_3 a0_4 a0_5 a0_6 a0_7).bind fun t175 => ((weighbridgelaw05_ref.f a0_0 a0_1 a0_2 a0_3 a0_4 a0_5 a0_6 a0_7).bind fun bt176 => ((weighbridgeref05_Right.f bt176.1 bt176.2.1 bt176.2.2.1 bt176.2.2.2.1 bt176.2.2.2.2.1 bt176.2.2.2.2.2.1 bt176.2.2.2.2.2.2.1 bt176.2.2.2.2.2.2.2).bind fun t184 => (if (t175 == t184) = true then ((tcp_OptsRight.f a0_7).bind fun t185 => ((weighbridgeref04_OptsRight.f a0_7).bind fun t186 => (if (t185 == t186) = true then ((tcp_Name.f a2).bind fun t187 => ((weighbridgeref05_Name.f a2).bind fun t188 => (some (t187.toList == t188.toList)))) else (some false)))) else (some false))))) else (some false)) else (some false))))) else (some false))
def weighbridgelaw05_TcpBuilds.T6 : Bool × List (List Nat × List Nat) := (true, [([], []), ([0], [0]), ([1], [1]), ([1], [1]), ([2, 3, 1], [1, 2, 3]), ([1, 4], [1, 4]), ([5, 1], [5]), ([6], [6]), ([6], [6]), ([7, 8, 6], [6, 7, 8]), ([6, 9], [6, 9]), ([10, 6], [10]), ([11], [11]), ([12, 11, 11], [11, 12]), ([11], [11]), ([14, 13, 11], [11, 14]), ([15, 15, 11], [11, 15]), ([13, 16, 11], [11, 13, 16]), ([11, 17], [11, 17]), ([18, 16], [18]), ([19], [19]), ([20, 19], [19, 20]), ([21, 19, 19], [19, 21]), ([19], [19]), ([23, 19], [19, 23]), ([24, 22, 19], [19, 24]), ([22, 25, 19], [19, 22, 25]), ([19, 26], [19, 26]), ([27, 25], [27]), ([28], [28]), ([29, 28, 28], [28, 29]), ([28], [28]), ([31, 30, 28], [28, 31]), ([30, 32, 28], [28, 30, 32]), ([28, 33], [28, 33]), ([34, 32, 0, 1, 2, 3, 4, 5, 6, 7, 8, 9, 10, 11, 12, 13, 14, 15, 16, 17, 18, 19, 20, 21, 22, 23, 24, 25, 26, 27, 28, 29, 30, 31, 32, 33, 34], [34])])
def weighbridgelaw05_TcpBuilds.B6 : List Nat := [0, 1, 3, 3, 15, 31, 63, 127, 127, 511, 1023, 2047, 4095, 8191, 4095, 32767, 65535, 131071, 262143, 524287, 1048575, 2097151, 4194303, 1048575, 9437183, 33554431, 67108863, 134217727, 268435455, 536870911, 1073741823, 536870911, 4294967295, 8589934591, 17179869183, 34359738367]
theorem weighbridgelaw05_TcpBuilds.tab6 : rtab .any (opsOf Try.f3 6) = weighbridgelaw05_TcpBuilds.T6 := by kernel_rfl
theorem weighbridgelaw05_TcpBuilds.bits6 : waitsOk weighbridgelaw05_TcpBuilds.T6.2 weighbridgelaw05_TcpBuilds.B6 = true := by kernel_rfl
set_option maxHeartbeats 8000000 in
set_option maxRecDepth 100000 in
theorem weighbridgelaw05_TcpBuilds.calls (a0_0 : Int) (a0_1 : Int) (a0_2 : Int) (a0_3 : Int) (a0_4 : Int) (a0_5 : Int) (a0_6 : Int) (a0_7 : ByteArray) (a1 : ByteArray) (a2 : Int) (r : Bool) (w : World) (h : weighbridgelaw05_TcpBuilds.f a0_0 a0_1 a0_2 a0_3 a0_4 a0_5 a0_6 a0_7 a1 a2 = some r) (hr_ : r = true) :
    Calls Try.prog 3 #[.agg #[.int .i64 a0_0, .int .i64 a0_1, .int .u32 a0_2, .int .u32 a0_3, .int .i64 a0_4, .int .i64 a0_5, .int .i64 a0_6, .string a0_7], .string a1, .int .i64 a2] w fun e w' => e = .returned (.bool r) ∧ Below w.heap.size w w' := by
  have hu24 := Try.underlying24
  have HB := Aside0.mk (Below.refl w.heap.size w)
  have H : ((weighbridgelaw05_examples.f).bind fun t162 => (if t162 = true then ((tcp_Build.f a0_0 a0_1 a0_2 a0_3 a0_4 a0_5 a0_6 a0_7 a1).bind fun bt163 => ((weighbridgelaw05_ref.f a0_0 a0_1 a0_2 a0_3 a0_4 a0_5 a0_6 a0_7).bind fun bt165 => ((weighbridgeref05_Build.f bt165.1 bt165.2.1 bt165.2.2.1 bt165.2.2.2.1 bt165.2.2.2.2.1 bt165.2.2.2.2.2.1 bt165.2.2.2.2.2.2.1 bt165.2.2.2.2.2.2.2 a1).bind fun bt173 => (if bt163.1.toList = bt173.1.toList then (if bt163.2 = bt173.2 then ((tcp_Right.f a0_0 a0_1 a0_2 a0_3 a0_4 a0_5 a0_6 a0_7).bind fun t175 => ((weighbridgelaw05_ref.f a0_0 a0_1 a0_2 a0_3 a0_4 a0_5 a0_6 a0_7).bind fun bt176 => ((weighbridgeref05_Right.f bt176.1 bt176.2.1 bt176.2.2.1 bt176.2.2.2.1 bt176.2.2.2.2.1 bt176.2.2.2.2.2.1 bt176.2.2.2.2.2.2.1 bt176.2.2.2.2.2.2.2).bind fun t184 => (if (t175 == t184) = true then ((tcp_OptsRight.f a0_7).bind fun t185 => ((weighbridgeref04_OptsRight.f a0_7).bind fun t186 => (if (t185 == t186) = true then ((tcp_Name.f a2).bind fun t187 => ((weighbridgeref05_Name.f a2).bind fun t188 => (some (t187.toList == t188.toList)))) else (some false)))) else (some false))))) else (some false)) else (some false))))) else (some false))) = some r := h
  clear h
  replace H := Option.bind_eq_some_iff.mp H
  obtain ⟨t162, A40, H⟩ := H
  replace H : (if t162 = true then ((tcp_Build.f a0_0 a0_1 a0_2 a0_3 a0_4 a0_5 a0_6 a0_7 a1).bind fun bt163 => ((weighbridgelaw05_ref.f a0_0 a0_1 a0_2 a0_3 a0_4 a0_5 a0_6 a0_7).bind fun bt165 => ((weighbridgeref05_Build.f bt165.1 bt165.2.1 bt165.2.2.1 bt165.2.2.2.1 bt165.2.2.2.2.1 bt165.2.2.2.2.2.1 bt165.2.2.2.2.2.2.1 bt165.2.2.2.2.2.2.2 a1).bind fun bt173 => (if bt163.1.toList = bt173.1.toList then (if bt163.2 = bt173.2 then ((tcp_Right.f a0_0 a0_1 a0_2 a0_3 a0_4 a0_5 a0_6 a0_7).bind fun t175 => ((weighbridgelaw05_ref.f a0_0 a0_1 a0_2 a0_3 a0_4 a0_5 a0_6 a0_7).bind fun bt176 => ((weighbridgeref05_Right.f bt176.1 bt176.2.1 bt176.2.2.1 bt176.2.2.2.1 bt176.2.2.2.2.1 bt176.2.2.2.2.2.1 bt176.2.2.2.2.2.2.1 bt176.2.2.2.2.2.2.2).bind fun t184 => (if (t175 == t184) = true then ((tcp_OptsRight.f a0_7).bind fun t185 => ((weighbridgeref04_OptsRight.f a0_7).bind fun t186 => (if (t185 == t186) = true then ((tcp_Name.f a2).bind fun t187 => ((weighbridgeref05_Name.f a2).bind fun t188 => (some (t187.toList == t188.toList)))) else (some false)))) else (some false))))) else (some false)) else (some false))))) else (some false)) = some r := H
  have A4 := Aside0.mk A40
  clear A40
  by_cases c5 : t162 = true
  · subst c5
    have H1 : ((tcp_Build.f a0_0 a0_1 a0_2 a0_3 a0_4 a0_5 a0_6 a0_7 a1).bind fun bt163 => ((weighbridgelaw05_ref.f a0_0 a0_1 a0_2 a0_3 a0_4 a0_5 a0_6 a0_7).bind fun bt165 => ((weighbridgeref05_Build.f bt165.1 bt165.2.1 bt165.2.2.1 bt165.2.2.2.1 bt165.2.2.2.2.1 bt165.2.2.2.2.2.1 bt165.2.2.2.2.2.2.1 bt165.2.2.2.2.2.2.2 a1).bind fun bt173 => (if bt163.1.toList = bt173.1.toList then (if bt163.2 = bt173.2 then ((tcp_Right.f a0_0 a0_1 a0_2 a0_3 a0_4 a0_5 a0_6 a0_7).bind fun t175 => ((weighbridgelaw05_ref.f a0_0 a0_1 a0_2 a0_3 a0_4 a0_5 a0_6 a0_7).bind fun bt176 => ((weighbridgeref05_Right.f bt176.1 bt176.2.1 bt176.2.2.1 bt176.2.2.2.1 bt176.2.2.2.2.1 bt176.2.2.2.2.2.1 bt176.2.2.2.2.2.2.1 bt176.2.2.2.2.2.2.2).bind fun t184 => (if (t175 == t184) = true then ((tcp_OptsRight.f a0_7).bind fun t185 => ((weighbridgeref04_OptsRight.f a0_7).bind fun t186 => (if (t185 == t186) = true then ((tcp_Name.f a2).bind fun t187 => ((weighbridgeref05_Name.f a2).bind fun t188 => (some (t187.toList == t188.toList)))) else (some false)))) else (some false))))) else (some false)) else (some false))))) = some r := by first | (rw [if_pos rfl] at H; exact H) | (rw [if_pos trivial] at H; exact H)
    clear H
    have H := H1
    clear H1
    replace H := Option.bind_eq_some_iff.mp H
    obtain ⟨⟨t163, t164⟩, A60, H⟩ := H
    replace H : ((weighbridgelaw05_ref.f a0_0 a0_1 a0_2 a0_3 a0_4 a0_5 a0_6 a0_7).bind fun bt165 => ((weighbridgeref05_Build.f bt165.1 bt165.2.1 bt165.2.2.1 bt165.2.2.2.1 bt165.2.2.2.2.1 bt165.2.2.2.2.2.1 bt165.2.2.2.2.2.2.1 bt165.2.2.2.2.2.2.2 a1).bind fun bt173 => (if t163.toList = bt173.1.toList then (if t164 = bt173.2 then ((tcp_Right.f a0_0 a0_1 a0_2 a0_3 a0_4 a0_5 a0_6 a0_7).bind fun t175 => ((weighbridgelaw05_ref.f a0_0 a0_1 a0_2 a0_3 a0_4 a0_5 a0_6 a0_7).bind fun bt176 => ((weighbridgeref05_Right.f bt176.1 bt176.2.1 bt176.2.2.1 bt176.2.2.2.1 bt176.2.2.2.2.1 bt176.2.2.2.2.2.1 bt176.2.2.2.2.2.2.1 bt176.2.2.2.2.2.2.2).bind fun t184 => (if (t175 == t184) = true then ((tcp_OptsRight.f a0_7).bind fun t185 => ((weighbridgeref04_OptsRight.f a0_7).bind fun t186 => (if (t185 == t186) = true then ((tcp_Name.f a2).bind fun t187 => ((weighbridgeref05_Name.f a2).bind fun t188 => (some (t187.toList == t188.toList)))) else (some false)))) else (some false))))) else (some false)) else (some false)))) = some r := H
    have A6 := Aside0.mk A60
    clear A60
    replace H := Option.bind_eq_some_iff.mp H
    obtain ⟨⟨t165, t166, t167, t168, t169, t170, t171, t172⟩, A70, H⟩ := H
    replace H : ((weighbridgeref05_Build.f t165 t166 t167 t168 t169 t170 t171 t172 a1).bind fun bt173 => (if t163.toList = bt173.1.toList then (if t164 = bt173.2 then ((tcp_Right.f a0_0 a0_1 a0_2 a0_3 a0_4 a0_5 a0_6 a0_7).bind fun t175 => ((weighbridgelaw05_ref.f a0_0 a0_1 a0_2 a0_3 a0_4 a0_5 a0_6 a0_7).bind fun bt176 => ((weighbridgeref05_Right.f bt176.1 bt176.2.1 bt176.2.2.1 bt176.2.2.2.1 bt176.2.2.2.2.1 bt176.2.2.2.2.2.1 bt176.2.2.2.2.2.2.1 bt176.2.2.2.2.2.2.2).bind fun t184 => (if (t175 == t184) = true then ((tcp_OptsRight.f a0_7).bind fun t185 => ((weighbridgeref04_OptsRight.f a0_7).bind fun t186 => (if (t185 == t186) = true then ((tcp_Name.f a2).bind fun t187 => ((weighbridgeref05_Name.f a2).bind fun t188 => (some (t187.toList == t188.toList)))) else (some false)))) else (some false))))) else (some false)) else (some false))) = some r := H
    have A7 := Aside0.mk A70
    clear A70
    replace H := Option.bind_eq_some_iff.mp H
    obtain ⟨⟨t173, t174⟩, A80, H⟩ := H
    replace H : (if t163.toList = t173.toList then (if t164 = t174 then ((tcp_Right.f a0_0 a0_1 a0_2 a0_3 a0_4 a0_5 a0_6 a0_7).bind fun t175 => ((weighbridgelaw05_ref.f a0_0 a0_1 a0_2 a0_3 a0_4 a0_5 a0_6 a0_7).bind fun bt176 => ((weighbridgeref05_Right.f bt176.1 bt176.2.1 bt176.2.2.1 bt176.2.2.2.1 bt176.2.2.2.2.1 bt176.2.2.2.2.2.1 bt176.2.2.2.2.2.2.1 bt176.2.2.2.2.2.2.2).bind fun t184 => (if (t175 == t184) = true then ((tcp_OptsRight.f a0_7).bind fun t185 => ((weighbridgeref04_OptsRight.f a0_7).bind fun t186 => (if (t185 == t186) = true then ((tcp_Name.f a2).bind fun t187 => ((weighbridgeref05_Name.f a2).bind fun t188 => (some (t187.toList == t188.toList)))) else (some false)))) else (some false))))) else (some false)) else (some false)) = some r := H
    have A8 := Aside0.mk A80
    clear A80
    by_cases c9 : t163.toList = t173.toList
    · rw [if_pos c9] at H
      have c9b0 : (t163.toList == t173.toList) = true := beq_iff_eq.mpr c9
      have c9b1 : (t163.toList != t173.toList) = false := bne_eq_false_iff_eq.mpr c9
      clear c9
      by_cases c10 : t164 = t174
      · rw [if_pos c10] at H
        have c10b0 : (t164 == t174) = true := beq_iff_eq.mpr c10
        have c10b1 : (t164 != t174) = false := bne_eq_false_iff_eq.mpr c10
        clear c10
        replace H := Option.bind_eq_some_iff.mp H
        obtain ⟨t175, A110, H⟩ := H
        replace H : ((weighbridgelaw05_ref.f a0_0 a0_1 a0_2 a0_3 a0_4 a0_5 a0_6 a0_7).bind fun bt176 => ((weighbridgeref05_Right.f bt176.1 bt176.2.1 bt176.2.2.1 bt176.2.2.2.1 bt176.2.2.2.2.1 bt176.2.2.2.2.2.1 bt176.2.2.2.2.2.2.1 bt176.2.2.2.2.2.2.2).bind fun t184 => (if (t175 == t184) = true then ((tcp_OptsRight.f a0_7).bind fun t185 => ((weighbridgeref04_OptsRight.f a0_7).bind fun t186 => (if (t185 == t186) = true then ((tcp_Name.f a2).bind fun t187 => ((weighbridgeref05_Name.f a2).bind fun t188 => (some (t187.toList == t188.toList)))) else (some false)))) else (some false)))) = some r := H
        have A11 := Aside0.mk A110
        clear A110
        replace H := Option.bind_eq_some_iff.mp H
        obtain ⟨⟨t176, t177, t178, t179, t180, t181, t182, t183⟩, A120, H⟩ := H
        replace H : ((weighbridgeref05_Right.f t176 t177 t178 t179 t180 t181 t182 t183).bind fun t184 => (if (t175 == t184) = true then ((tcp_OptsRight.f a0_7).bind fun t185 => ((weighbridgeref04_OptsRight.f a0_7).bind fun t186 => (if (t185 == t186) = true then ((tcp_Name.f a2).bind fun t187 => ((weighbridgeref05_Name.f a2).bind fun t188 => (some (t187.toList == t188.toList)))) else (some false)))) else (some false))) = some r := H
        have A12 := Aside0.mk A120
        clear A120
        replace H := Option.bind_eq_some_iff.mp H
        obtain ⟨t184, A130, H⟩ := H
        replace H : (if (t175 == t184) = true then ((tcp_OptsRight.f a0_7).bind fun t185 => ((weighbridgeref04_OptsRight.f a0_7).bind fun t186 => (if (t185 == t186) = true then ((tcp_Name.f a2).bind fun t187 => ((weighbridgeref05_Name.f a2).bind fun t188 => (some (t187.toList == t188.toList)))) else (some false)))) else (some false)) = some r := H
        have A13 := Aside0.mk A130
        clear A130
        by_cases c14 : (t175 == t184) = true
        · rw [if_pos c14] at H
          have c14b0 : (t175 == t184) = true := c14
          (try (have c14b1 : decide (t175 = t184) = true := by simpa using c14))
          (try (have c14b2 : (t175 == t184) = true := by simpa using c14))
          clear c14
          replace H := Option.bind_eq_some_iff.mp H
          obtain ⟨t185, A150, H⟩ := H
          replace H : ((weighbridgeref04_OptsRight.f a0_7).bind fun t186 => (if (t185 == t186) = true then ((tcp_Name.f a2).bind fun t187 => ((weighbridgeref05_Name.f a2).bind fun t188 => (some (t187.toList == t188.toList)))) else (some false))) = some r := H
          have A15 := Aside0.mk A150
          clear A150
          replace H := Option.bind_eq_some_iff.mp H
          obtain ⟨t186, A160, H⟩ := H
          replace H : (if (t185 == t186) = true then ((tcp_Name.f a2).bind fun t187 => ((weighbridgeref05_Name.f a2).bind fun t188 => (some (t187.toList == t188.toList)))) else (some false)) = some r := H
          have A16 := Aside0.mk A160
          clear A160
          by_cases c17 : (t185 == t186) = true
          · rw [if_pos c17] at H
            have c17b0 : (t185 == t186) = true := c17
            (try (have c17b1 : decide (t185 = t186) = true := by simpa using c17))
            (try (have c17b2 : (t185 == t186) = true := by simpa using c17))
            clear c17
            replace H := Option.bind_eq_some_iff.mp H
            obtain ⟨t187, A180, H⟩ := H
            replace H : ((weighbridgeref05_Name.f a2).bind fun t188 => (some (t187.toList == t188.toList))) = some r := H
            have A18 := Aside0.mk A180
            clear A180
            replace H := Option.bind_eq_some_iff.mp H
            obtain ⟨t188, A190, H⟩ := H
            replace H : (some (t187.toList == t188.toList)) = some r := H
            have A19 := Aside0.mk A190
            clear A190
            obtain rfl := Option.some.inj H
            go_enter Try.func3, Try.ntmps3
            try go_wp2_with (first | ((with_reducible refine gate_dst (N := 3) rfl ?_); refine box_event ?hg (N := 3) ?hd (cs := #[.int .i64 a0_0, .int .i64 a0_1, .int .u32 a0_2, .int .u32 a0_3, .int .i64 a0_4, .int .i64 a0_5, .int .i64 a0_6, .string a0_7]) (t := 24) ?hr ?_; (case hd => rfl); (case hg => rfl); (case hr => first | (go_simp; done) | (go_simp; rfl)); intro gb161 hg w20 hbox hb; have n0_ := Aside0.mk (below_step (by repeat (first | (with_reducible first | exact HB.out | apply below_alloc | apply pw_below_drewN | apply below_drew1) | exact HB.out)) hb); have n1_ := Aside0.mk (hbox); have n2_ := Aside0.mk ((by rw [hg]; exact (below_size (by repeat (first | (with_reducible first | exact HB.out | apply below_alloc | apply pw_below_drewN | apply below_drew1) | exact HB.out))) : w.heap.size ≤ gb161)); have n3_ := Aside0.mk ((by rw [hg]; exact (below_size (by repeat (first | (with_reducible first | exact HB.out | apply below_alloc | apply pw_below_drewN | apply below_drew1) | exact HB.out))) : w.heap.size ≤ gb161)); clear HB; have HB := n0_; have BK161 := n1_; have GW161 := n2_; have GE161 := n3_; clear n0_ n1_ n2_ n3_; clear hb hbox hg) | ((with_reducible refine gate_callee (f := 10) rfl ?_); refine goesL_ (some 12) rfl rfl Try.func10 (by kernel_rfl) rfl #[] rfl (by (try simp only [List.map_toArray, List.map_cons, List.map_nil]); first | done | rfl | (simp only [List.length_drop, List.length_take]; rfl)) ?_; (with_reducible refine (weighbridgelaw05_examples.calls  true _ A4.out).mono ?_); rintro e w21 ⟨rfl, hb⟩; (try clear A4); refine ⟨_, rfl, ?_⟩; have n0_ := Aside0.mk (blk_below (g := gb161) (o := .cells #[.int .i64 a0_0, .int .i64 a0_1, .int .u32 a0_2, .int .u32 a0_3, .int .i64 a0_4, .int .i64 a0_5, .int .i64 a0_6, .string a0_7] 24 (0, 0)) (by (with_reducible repeat (first | refine blk_drewN ?_ _ | refine blk_drew ?_ | refine blk_alloc ?_ _)); exact BK161.out) hb); have n1_ := Aside0.mk (below_step (by repeat (first | (with_reducible first | exact HB.out | apply below_alloc | apply pw_below_drewN | apply below_drew1 | refine below_set ?_ GE161.out) | exact HB.out)) hb); clear BK161; clear HB; have BK161 := n0_; have HB := n1_; clear n0_ n1_; (try clear hb); (try clear hb2); (try clear hk); (try clear hi); have hcz22_0 : w21.cell? ⟨gb161, 0, none⟩ = some (.int .i64 a0_0) := (blk_cell BK161.out 0).trans rfl; have hcz22_1 : w21.cell? ⟨gb161, 1, none⟩ = some (.int .i64 a0_1) := (blk_cell BK161.out 1).trans rfl; have hcz22_2 : w21.cell? ⟨gb161, 2, none⟩ = some (.int .u32 a0_2) := (blk_cell BK161.out 2).trans rfl; have hcz22_3 : w21.cell? ⟨gb161, 3, none⟩ = some (.int .u32 a0_3) := (blk_cell BK161.out 3).trans rfl; have hcz22_4 : w21.cell? ⟨gb161, 4, none⟩ = some (.int .i64 a0_4) := (blk_cell BK161.out 4).trans rfl; have hcz22_5 : w21.cell? ⟨gb161, 5, none⟩ = some (.int .i64 a0_5) := (blk_cell BK161.out 5).trans rfl; have hcz22_6 : w21.cell? ⟨gb161, 6, none⟩ = some (.int .i64 a0_6) := (blk_cell BK161.out 6).trans rfl; have hcz22_7 : w21.cell? ⟨gb161, 7, none⟩ = some (.string a0_7) := (blk_cell BK161.out 7).trans rfl; have hfz22_0 := blk_frozen BK161.out 0; have hfz22_1 := blk_frozen BK161.out 1; have hfz22_2 := blk_frozen BK161.out 2; have hfz22_3 := blk_frozen BK161.out 3; have hfz22_4 := blk_frozen BK161.out 4; have hfz22_5 := blk_frozen BK161.out 5; have hfz22_6 := blk_frozen BK161.out 6; have hfz22_7 := blk_frozen BK161.out 7) | ((with_reducible refine gate_callee (f := 11) rfl ?_); refine goesL_ (some 18) rfl rfl Try.func11 (by kernel_rfl) rfl #[.agg #[.int .i64 a0_0, .int .i64 a0_1, .int .u32 a0_2, .int .u32 a0_3, .int .i64 a0_4, .int .i64 a0_5, .int .i64 a0_6, .string a0_7], .string a1] rfl (by (try simp only [List.map_toArray, List.map_cons, List.map_nil]); first | done | rfl | (simp only [List.length_drop, List.length_take]; rfl)) ?_; (with_reducible refine (tcp_Build.calls a0_0 a0_1 a0_2 a0_3 a0_4 a0_5 a0_6 a0_7 a1 t163 t164 _ A6.out).mono ?_); rintro e w23 ⟨rfl, hb⟩; (try clear A6); refine ⟨_, rfl, ?_⟩; have n0_ := Aside0.mk (blk_below (g := gb161) (o := .cells #[.int .i64 a0_0, .int .i64 a0_1, .int .u32 a0_2, .int .u32 a0_3, .int .i64 a0_4, .int .i64 a0_5, .int .i64 a0_6, .string a0_7] 24 (0, 0)) (by (with_reducible repeat (first | refine blk_drewN ?_ _ | refine blk_drew ?_ | refine blk_alloc ?_ _)); exact BK161.out) hb); have n1_ := Aside0.mk (below_step (by repeat (first | (with_reducible first | exact HB.out | apply below_alloc | apply pw_below_drewN | apply below_drew1 | refine below_set ?_ GE161.out) | exact HB.out)) hb); clear BK161; clear HB; have BK161 := n0_; have HB := n1_; clear n0_ n1_; (try clear hb); (try clear hb2); (try clear hk); (try clear hi); have hcz24_0 : w23.cell? ⟨gb161, 0, none⟩ = some (.int .i64 a0_0) := (blk_cell BK161.out 0).trans rfl; have hcz24_1 : w23.cell? ⟨gb161, 1, none⟩ = some (.int .i64 a0_1) := (blk_cell BK161.out 1).trans rfl; have hcz24_2 : w23.cell? ⟨gb161, 2, none⟩ = some (.int .u32 a0_2) := (blk_cell BK161.out 2).trans rfl; have hcz24_3 : w23.cell? ⟨gb161, 3, none⟩ = some (.int .u32 a0_3) := (blk_cell BK161.out 3).trans rfl; have hcz24_4 : w23.cell? ⟨gb161, 4, none⟩ = some (.int .i64 a0_4) := (blk_cell BK161.out 4).trans rfl; have hcz24_5 : w23.cell? ⟨gb161, 5, none⟩ = some (.int .i64 a0_5) := (blk_cell BK161.out 5).trans rfl; have hcz24_6 : w23.cell? ⟨gb161, 6, none⟩ = some (.int .i64 a0_6) := (blk_cell BK161.out 6).trans rfl; have hcz24_7 : w23.cell? ⟨gb161, 7, none⟩ = some (.string a0_7) := (blk_cell BK161.out 7).trans rfl; have hfz24_0 := blk_frozen BK161.out 0; have hfz24_1 := blk_frozen BK161.out 1; have hfz24_2 := blk_frozen BK161.out 2; have hfz24_3 := blk_frozen BK161.out 3; have hfz24_4 := blk_frozen BK161.out 4; have hfz24_5 := blk_frozen BK161.out 5; have hfz24_6 := blk_frozen BK161.out 6; have hfz24_7 := blk_frozen BK161.out 7) | ((with_reducible refine gate_callee (f := 13) rfl ?_); refine goesL_ (some 23) rfl rfl Try.func13 (by kernel_rfl) rfl #[.agg #[.int .i64 a0_0, .int .i64 a0_1, .int .u32 a0_2, .int .u32 a0_3, .int .i64 a0_4, .int .i64 a0_5, .int .i64 a0_6, .string a0_7]] rfl (by (try simp only [List.map_toArray, List.map_cons, List.map_nil]); first | done | rfl | (simp only [List.length_drop, List.length_take]; rfl)) ?_; (with_reducible refine (weighbridgelaw05_ref.calls a0_0 a0_1 a0_2 a0_3 a0_4 a0_5 a0_6 a0_7 t165 t166 t167 t168 t169 t170 t171 t172 _ A7.out).mono ?_); rintro e w25 ⟨rfl, hb⟩; (try clear A7); refine ⟨_, rfl, ?_⟩; have n0_ := Aside0.mk (blk_below (g := gb161) (o := .cells #[.int .i64 a0_0, .int .i64 a0_1, .int .u32 a0_2, .int .u32 a0_3, .int .i64 a0_4, .int .i64 a0_5, .int .i64 a0_6, .string a0_7] 24 (0, 0)) (by (with_reducible repeat (first | refine blk_drewN ?_ _ | refine blk_drew ?_ | refine blk_alloc ?_ _)); exact BK161.out) hb); have n1_ := Aside0.mk (below_step (by repeat (first | (with_reducible first | exact HB.out | apply below_alloc | apply pw_below_drewN | apply below_drew1 | refine below_set ?_ GE161.out) | exact HB.out)) hb); clear BK161; clear HB; have BK161 := n0_; have HB := n1_; clear n0_ n1_; (try clear hb); (try clear hb2); (try clear hk); (try clear hi)) | ((with_reducible refine gate_callee (f := 12) rfl ?_); refine goesL_ (some 25) rfl rfl Try.func12 (by kernel_rfl) rfl #[.agg #[.int .i64 t165, .int .i64 t166, .int .u32 t167, .int .u32 t168, .int .i64 t169, .int .i64 t170, .int .i64 t171, .string t172], .string a1] rfl (by (try simp only [List.map_toArray, List.map_cons, List.map_nil]); first | done | rfl | (simp only [List.length_drop, List.length_take]; rfl)) ?_; (with_reducible refine (weighbridgeref05_Build.calls t165 t166 t167 t168 t169 t170 t171 t172 a1 t173 t174 _ A8.out).mono ?_); rintro e w26 ⟨rfl, hb⟩; (try clear A8); refine ⟨_, rfl, ?_⟩; have n0_ := Aside0.mk (blk_below (g := gb161) (o := .cells #[.int .i64 a0_0, .int .i64 a0_1, .int .u32 a0_2, .int .u32 a0_3, .int .i64 a0_4, .int .i64 a0_5, .int .i64 a0_6, .string a0_7] 24 (0, 0)) (by (with_reducible repeat (first | refine blk_drewN ?_ _ | refine blk_drew ?_ | refine blk_alloc ?_ _)); exact BK161.out) hb); have n1_ := Aside0.mk (below_step (by repeat (first | (with_reducible first | exact HB.out | apply below_alloc | apply pw_below_drewN | apply below_drew1 | refine below_set ?_ GE161.out) | exact HB.out)) hb); clear BK161; clear HB; have BK161 := n0_; have HB := n1_; clear n0_ n1_; (try clear hb); (try clear hb2); (try clear hk); (try clear hi)))
            have n0_ := Aside0.mk (blk_drew BK161.out)
            have n1_ := Aside0.mk (below_drew1 HB.out)
            clear BK161
            clear HB
            have BK161 := n0_
            have HB := n1_
            clear n0_ n1_
            refine start_ (n := 36) (S := fun w' => w'.cell? ⟨gb161, 0, none⟩ = some (.int .i64 a0_0) ∧ w'.cell? ⟨gb161, 1, none⟩ = some (.int .i64 a0_1) ∧ w'.cell? ⟨gb161, 2, none⟩ = some (.int .u32 a0_2) ∧ w'.cell? ⟨gb161, 3, none⟩ = some (.int .u32 a0_3) ∧ w'.cell? ⟨gb161, 4, none⟩ = some (.int .i64 a0_4) ∧ w'.cell? ⟨gb161, 5, none⟩ = some (.int .i64 a0_5) ∧ w'.cell? ⟨gb161, 6, none⟩ = some (.int .i64 a0_6) ∧ w'.cell? ⟨gb161, 7, none⟩ = some (.string a0_7)) (ds := []) #[false, false, false, false, false, false, false, false, false, false, false, false, false, false, false, false, false, false, false, false, false, false, false, false, false, false, false, false, false, false, false, false, false, false, false, false] (by kernel_rfl) rfl rfl ⟨(blk_cell BK161.out 0).trans rfl, (blk_cell BK161.out 1).trans rfl, (blk_cell BK161.out 2).trans rfl, (blk_cell BK161.out 3).trans rfl, (blk_cell BK161.out 4).trans rfl, (blk_cell BK161.out 5).trans rfl, (blk_cell BK161.out 6).trans rfl, (blk_cell BK161.out 7).trans rfl⟩ (fun hHeld => ?_); refine with_tabW weighbridgelaw05_TcpBuilds.tab6 weighbridgelaw05_TcpBuilds.bits6 (fun HT_ HW_ => ?_)
            generalize w26.drew = w27 at BK161 HB hHeld ⊢
            refine pure_ (i := 0) (N := some 28) (v := ?_) (a' := ?_) #[true, false, false, false, false, false, false, false, false, false, false, false, false, false, false, false, false, false, false, false, false, false, false, false, false, false, false, false, false, false, false, false, false, false, false, false] rfl rfl (any_of HT_.out (by kernel_rfl)) (fun _ _ _ h => h) (Or.inl ⟨by rfl, ?_⟩) ?_ ?_
            rotate_left
            · intro w'
              go_simp
              with_reducible rfl
            rotate_left
            · simp only [Act.put, List.setIfInBounds_toArray, List.set_cons_zero, List.set_cons_succ, i64_w, i32_w]
              rfl
            refine pure_ (i := 1) (N := some 29) (v := ?_) (a' := ?_) #[true, true, false, false, false, false, false, false, false, false, false, false, false, false, false, false, false, false, false, false, false, false, false, false, false, false, false, false, false, false, false, false, false, false, false, false] rfl rfl (any_of HT_.out (by kernel_rfl)) (fun _ _ _ h => h) (Or.inl ⟨by rfl, ?_⟩) ?_ ?_
            rotate_left
            · intro w'
              go_simp
              with_reducible rfl
            rotate_left
            · simp only [Act.put, List.setIfInBounds_toArray, List.set_cons_zero, List.set_cons_succ, i64_w, i32_w]
              rfl
            refine pure_ (i := 2) (N := some 30) (v := ?_) (a' := ?_) #[true, true, true, false, false, false, false, false, false, false, false, false, false, false, false, false, false, false, false, false, false, false, false, false, false, false, false, false, false, false, false, false, false, false, false, false] rfl rfl (any_of HT_.out (by kernel_rfl)) (fun _ _ _ h => h) (Or.inl ⟨by rfl, ?_⟩) ?_ ?_
            rotate_left
            · intro w'
              go_simp
              with_reducible rfl
            rotate_left
            · simp only [Act.put, List.setIfInBounds_toArray, List.set_cons_zero, List.set_cons_succ, i64_w, i32_w]
              rfl
            refine pure_ (i := 3) (N := some 31) (v := ?_) (a' := ?_) #[true, true, true, true, false, false, false, false, false, false, false, false, false, false, false, false, false, false, false, false, false, false, false, false, false, false, false, false, false, false, false, false, false, false, false, false] rfl rfl (any_of HT_.out (by kernel_rfl)) (fun _ _ _ h => h) (Or.inl ⟨by rfl, ?_⟩) ?_ ?_
            rotate_left
            · intro w'
              go_simp
              with_reducible rfl
            rotate_left
            · simp only [Act.put, List.setIfInBounds_toArray, List.set_cons_zero, List.set_cons_succ, i64_w, i32_w]
              rfl
            refine pure_ (i := 4) (N := some 32) (v := ?_) (a' := ?_) #[true, true, true, true, true, false, false, false, false, false, false, false, false, false, false, false, false, false, false, false, false, false, false, false, false, false, false, false, false, false, false, false, false, false, false, false] rfl rfl (any_of HT_.out (by kernel_rfl)) (fun _ _ _ h => h) (Or.inl ⟨by rfl, ?_⟩) ?_ ?_
            rotate_left
            · intro w'
              go_simp
              with_reducible rfl
            rotate_left
            · simp only [Act.put, List.setIfInBounds_toArray, List.set_cons_zero, List.set_cons_succ, i64_w, i32_w]
              rfl
            refine pure_ (i := 5) (N := some 33) (v := ?_) (a' := ?_) #[true, true, true, true, true, true, false, false, false, false, false, false, false, false, false, false, false, false, false, false, false, false, false, false, false, false, false, false, false, false, false, false, false, false, false, false] rfl rfl (any_of HT_.out (by kernel_rfl)) (fun _ _ _ h => h) (Or.inl ⟨by rfl, ?_⟩) ?_ ?_
            rotate_left
            · intro w'
              go_simp
              with_reducible rfl
            rotate_left
            · simp only [Act.put, List.setIfInBounds_toArray, List.set_cons_zero, List.set_cons_succ, i64_w, i32_w]
              rfl
            refine pure_ (i := 6) (N := some 34) (v := ?_) (a' := ?_) #[true, true, true, true, true, true, true, false, false, false, false, false, false, false, false, false, false, false, false, false, false, false, false, false, false, false, false, false, false, false, false, false, false, false, false, false] rfl rfl (any_of HT_.out (by kernel_rfl)) (fun _ _ _ h => h) (Or.inl ⟨by rfl, ?_⟩) ?_ ?_
            rotate_left
            · intro w'
              go_simp
              with_reducible rfl
            rotate_left
            · simp only [Act.put, List.setIfInBounds_toArray, List.set_cons_zero, List.set_cons_succ, i64_w, i32_w]
              rfl
            refine pure_ (i := 7) (N := some 35) (v := ?_) (a' := ?_) #[true, true, true, true, true, true, true, true, false, false, false, false, false, false, false, false, false, false, false, false, false, false, false, false, false, false, false, false, false, false, false, false, false, false, false, false] rfl rfl (any_of HT_.out (by kernel_rfl)) (fun _ _ _ h => h) (Or.inl ⟨by rfl, ?_⟩) ?_ ?_
            rotate_left
            · intro w'
              go_simp
              with_reducible rfl
            rotate_left
            · simp only [Act.put, List.setIfInBounds_toArray, List.set_cons_zero, List.set_cons_succ, i64_w, i32_w]
              rfl
            refine pure_ (i := 8) (N := some 36) (v := ?_) (a' := ?_) #[true, true, true, true, true, true, true, true, true, false, false, false, false, false, false, false, false, false, false, false, false, false, false, false, false, false, false, false, false, false, false, false, false, false, false, false] rfl rfl (any_of HT_.out (by kernel_rfl)) (fun _ _ _ h => h) (Or.inl ⟨by rfl, ?_⟩) ?_ ?_
            rotate_left
            · intro w'
              go_simp
              with_reducible rfl
            rotate_left
            · simp only [Act.put, List.setIfInBounds_toArray, List.set_cons_zero, List.set_cons_succ, i64_w, i32_w]
              rfl
            refine pure_ (i := 9) (N := some 37) (v := ?_) (a' := ?_) #[true, true, true, true, true, true, true, true, true, true, false, false, false, false, false, false, false, false, false, false, false, false, false, false, false, false, false, false, false, false, false, false, false, false, false, false] rfl rfl (any_of HT_.out (by kernel_rfl)) (fun _ _ _ h => h) (Or.inl ⟨by rfl, ?_⟩) ?_ ?_
            rotate_left
            · intro w'
              go_simp
              with_reducible rfl
            rotate_left
            · simp only [Act.put, List.setIfInBounds_toArray, List.set_cons_zero, List.set_cons_succ, i64_w, i32_w]
              rfl
            refine pure_ (i := 10) (N := some 38) (v := ?_) (a' := ?_) #[true, true, true, true, true, true, true, true, true, true, true, false, false, false, false, false, false, false, false, false, false, false, false, false, false, false, false, false, false, false, false, false, false, false, false, false] rfl rfl (any_of HT_.out (by kernel_rfl)) (fun _ _ _ h => h) (Or.inl ⟨by rfl, ?_⟩) ?_ ?_
            rotate_left
            · intro w'
              go_simp
              with_reducible rfl
            rotate_left
            · simp only [Act.put, List.setIfInBounds_toArray, List.set_cons_zero, List.set_cons_succ, i64_w, i32_w]
              rfl
            refine pure_ (i := 11) (N := some 39) (v := ?_) (a' := ?_) #[true, true, true, true, true, true, true, true, true, true, true, true, false, false, false, false, false, false, false, false, false, false, false, false, false, false, false, false, false, false, false, false, false, false, false, false] rfl rfl (any_of HT_.out (by kernel_rfl)) (fun _ _ _ h => h) (Or.inl ⟨by rfl, ?_⟩) ?_ ?_
            rotate_left
            · intro w'
              go_simp
              with_reducible rfl
            rotate_left
            · simp only [Act.put, List.setIfInBounds_toArray, List.set_cons_zero, List.set_cons_succ, i64_w, i32_w]
              rfl
            refine take_ (i := 12) (N := some 40) (v := ?_) (a' := ?_) #[true, true, true, true, true, true, true, true, true, true, true, true, true, false, false, false, false, false, false, false, false, false, false, false, false, false, false, false, false, false, false, false, false, false, false, false] rfl rfl (take_ofW HT_.out HW_.out (by kernel_rfl)) (fun _ _ _ h => h) (Or.inl ⟨by rfl, ?_⟩) hHeld ?_ ?_
            rotate_left
            · rintro w' ⟨s0, s1, s2, s3, s4, s5, s6, s7⟩
              go_simp
              with_reducible rfl
            rotate_left
            · simp only [Act.put, List.setIfInBounds_toArray, List.set_cons_zero, List.set_cons_succ, i64_w, i32_w]
              rfl
            refine take_ (i := 14) (N := some 42) (v := ?_) (a' := ?_) #[true, true, true, true, true, true, true, true, true, true, true, true, true, false, true, false, false, false, false, false, false, false, false, false, false, false, false, false, false, false, false, false, false, false, false, false] rfl rfl (take_ofW HT_.out HW_.out (by kernel_rfl)) (fun _ _ _ h => h) (Or.inl ⟨by rfl, ?_⟩) hHeld ?_ ?_
            rotate_left
            · rintro w' ⟨s0, s1, s2, s3, s4, s5, s6, s7⟩
              go_simp
              with_reducible rfl
            rotate_left
            · simp only [Act.put, List.setIfInBounds_toArray, List.set_cons_zero, List.set_cons_succ, i64_w, i32_w]
              rfl
            refine one_ (i := 13) (N := some 41) #[true, true, true, true, true, true, true, true, true, true, true, true, true, true, true, false, false, false, false, false, false, false, false, false, false, false, false, false, false, false, false, false, false, false, false, false] rfl rfl (one_of HT_.out (by kernel_rfl)) (by decide) (fun K hK => ?_)
            refine goes_ Try.func14 (by kernel_rfl) rfl #[.agg #[.int .i64 a0_0, .int .i64 a0_1, .int .u32 a0_2, .int .u32 a0_3, .int .i64 a0_4, .int .i64 a0_5, .int .i64 a0_6, .string a0_7]] (by rfl) rfl rfl (by (try simp only [List.map_toArray, List.map_cons, List.map_nil]); first | done | rfl | (simp only [List.length_drop, List.length_take]; rfl)) ?_
            with_reducible refine (tcp_Right.calls a0_0 a0_1 a0_2 a0_3 a0_4 a0_5 a0_6 a0_7 t175 _ A11.out).mono ?_
            rintro e w28 ⟨rfl, hb⟩
            refine ⟨_, rfl, ?_⟩
            have n0_ := Aside0.mk (blk_below (g := gb161) (o := .cells #[.int .i64 a0_0, .int .i64 a0_1, .int .u32 a0_2, .int .u32 a0_3, .int .i64 a0_4, .int .i64 a0_5, .int .i64 a0_6, .string a0_7] 24 (0, 0)) (by (with_reducible repeat (first | refine blk_drewN ?_ _ | refine blk_drew ?_ | refine blk_alloc ?_ _)); exact BK161.out) hb)
            have n1_ := Aside0.mk (below_step (by repeat (first | (with_reducible first | exact HB.out | apply below_alloc | apply pw_below_drewN | apply below_drew1 | refine below_set ?_ GE161.out) | exact HB.out)) hb)
            clear BK161
            clear HB
            have BK161 := n0_
            have HB := n1_
            clear n0_ n1_
            (try clear hb)
            (try clear hb2)
            (try clear hk)
            (try clear hi)
            refine hK.out _ _ ⟨(blk_cell BK161.out 0).trans rfl, (blk_cell BK161.out 1).trans rfl, (blk_cell BK161.out 2).trans rfl, (blk_cell BK161.out 3).trans rfl, (blk_cell BK161.out 4).trans rfl, (blk_cell BK161.out 5).trans rfl, (blk_cell BK161.out 6).trans rfl, (blk_cell BK161.out 7).trans rfl⟩ (fun hHeld => ?_)
            clear hK K
            refine norm_ (a' := ?_) ?_ ?_
            rotate_left
            · show Act.put _ (some 41) _ = _
              simp only [Act.put, List.setIfInBounds_toArray, List.set_cons_zero, List.set_cons_succ, i64_w, i32_w]
              rfl
            refine one_ (i := 15) (N := some 43) #[true, true, true, true, true, true, true, true, true, true, true, true, true, true, true, true, false, false, false, false, false, false, false, false, false, false, false, false, false, false, false, false, false, false, false, false] rfl rfl (one_of HT_.out (by kernel_rfl)) (by decide) (fun K hK => ?_)
            refine goes_ Try.func13 (by kernel_rfl) rfl #[.agg #[.int .i64 a0_0, .int .i64 a0_1, .int .u32 a0_2, .int .u32 a0_3, .int .i64 a0_4, .int .i64 a0_5, .int .i64 a0_6, .string a0_7]] (by rfl) rfl rfl (by (try simp only [List.map_toArray, List.map_cons, List.map_nil]); first | done | rfl | (simp only [List.length_drop, List.length_take]; rfl)) ?_
            with_reducible refine (weighbridgelaw05_ref.calls a0_0 a0_1 a0_2 a0_3 a0_4 a0_5 a0_6 a0_7 t176 t177 t178 t179 t180 t181 t182 t183 _ A12.out).mono ?_
            rintro e w29 ⟨rfl, hb⟩
            refine ⟨_, rfl, ?_⟩
            have n0_ := Aside0.mk (blk_below (g := gb161) (o := .cells #[.int .i64 a0_0, .int .i64 a0_1, .int .u32 a0_2, .int .u32 a0_3, .int .i64 a0_4, .int .i64 a0_5, .int .i64 a0_6, .string a0_7] 24 (0, 0)) (by (with_reducible repeat (first | refine blk_drewN ?_ _ | refine blk_drew ?_ | refine blk_alloc ?_ _)); exact BK161.out) hb)
            have n1_ := Aside0.mk (below_step (by repeat (first | (with_reducible first | exact HB.out | apply below_alloc | apply pw_below_drewN | apply below_drew1 | refine below_set ?_ GE161.out) | exact HB.out)) hb)
            clear BK161
            clear HB
            have BK161 := n0_
            have HB := n1_
            clear n0_ n1_
            (try clear hb)
            (try clear hb2)
            (try clear hk)
            (try clear hi)
            refine hK.out _ _ ⟨(blk_cell BK161.out 0).trans rfl, (blk_cell BK161.out 1).trans rfl, (blk_cell BK161.out 2).trans rfl, (blk_cell BK161.out 3).trans rfl, (blk_cell BK161.out 4).trans rfl, (blk_cell BK161.out 5).trans rfl, (blk_cell BK161.out 6).trans rfl, (blk_cell BK161.out 7).trans rfl⟩ (fun hHeld => ?_)
            clear hK K
            refine norm_ (a' := ?_) ?_ ?_
            rotate_left
            · show Act.put _ (some 43) _ = _
              simp only [Act.put, List.setIfInBounds_toArray, List.set_cons_zero, List.set_cons_succ, i64_w, i32_w]
              rfl
            refine one_ (i := 16) (N := some 44) #[true, true, true, true, true, true, true, true, true, true, true, true, true, true, true, true, true, false, false, false, false, false, false, false, false, false, false, false, false, false, false, false, false, false, false, false] rfl rfl (one_of HT_.out (by kernel_rfl)) (by decide) (fun K hK => ?_)
            refine goes_ Try.func15 (by kernel_rfl) rfl #[.agg #[.int .i64 t176, .int .i64 t177, .int .u32 t178, .int .u32 t179, .int .i64 t180, .int .i64 t181, .int .i64 t182, .string t183]] (by rfl) rfl rfl (by (try simp only [List.map_toArray, List.map_cons, List.map_nil]); first | done | rfl | (simp only [List.length_drop, List.length_take]; rfl)) ?_
            with_reducible refine (weighbridgeref05_Right.calls t176 t177 t178 t179 t180 t181 t182 t183 t184 _ A13.out).mono ?_
            rintro e w30 ⟨rfl, hb⟩
            refine ⟨_, rfl, ?_⟩
            have n0_ := Aside0.mk (blk_below (g := gb161) (o := .cells #[.int .i64 a0_0, .int .i64 a0_1, .int .u32 a0_2, .int .u32 a0_3, .int .i64 a0_4, .int .i64 a0_5, .int .i64 a0_6, .string a0_7] 24 (0, 0)) (by (with_reducible repeat (first | refine blk_drewN ?_ _ | refine blk_drew ?_ | refine blk_alloc ?_ _)); exact BK161.out) hb)
            have n1_ := Aside0.mk (below_step (by repeat (first | (with_reducible first | exact HB.out | apply below_alloc | apply pw_below_drewN | apply below_drew1 | refine below_set ?_ GE161.out) | exact HB.out)) hb)
            clear BK161
            clear HB
            have BK161 := n0_
            have HB := n1_
            clear n0_ n1_
            (try clear hb)
            (try clear hb2)
            (try clear hk)
            (try clear hi)
            refine hK.out _ _ ⟨(blk_cell BK161.out 0).trans rfl, (blk_cell BK161.out 1).trans rfl, (blk_cell BK161.out 2).trans rfl, (blk_cell BK161.out 3).trans rfl, (blk_cell BK161.out 4).trans rfl, (blk_cell BK161.out 5).trans rfl, (blk_cell BK161.out 6).trans rfl, (blk_cell BK161.out 7).trans rfl⟩ (fun hHeld => ?_)
            clear hK K
            refine norm_ (a' := ?_) ?_ ?_
            rotate_left
            · show Act.put _ (some 44) _ = _
              simp only [Act.put, List.setIfInBounds_toArray, List.set_cons_zero, List.set_cons_succ, i64_w, i32_w]
              rfl
            refine pure_ (i := 17) (N := some 45) (v := ?_) (a' := ?_) #[true, true, true, true, true, true, true, true, true, true, true, true, true, true, true, true, true, true, false, false, false, false, false, false, false, false, false, false, false, false, false, false, false, false, false, false] rfl rfl (any_of HT_.out (by kernel_rfl)) (fun _ _ _ h => h) (Or.inl ⟨by rfl, ?_⟩) ?_ ?_
            rotate_left
            · intro w'
              go_simp
              with_reducible rfl
            rotate_left
            · simp only [Act.put, List.setIfInBounds_toArray, List.set_cons_zero, List.set_cons_succ, i64_w, i32_w]
              rfl
            refine pure_ (i := 18) (N := some 46) (v := ?_) (a' := ?_) #[true, true, true, true, true, true, true, true, true, true, true, true, true, true, true, true, true, true, true, false, false, false, false, false, false, false, false, false, false, false, false, false, false, false, false, false] rfl rfl (any_of HT_.out (by kernel_rfl)) (fun _ _ _ h => h) (Or.inl ⟨by rfl, ?_⟩) ?_ ?_
            rotate_left
            · intro w'
              go_simp
              with_reducible rfl
            rotate_left
            · simp only [Act.put, List.setIfInBounds_toArray, List.set_cons_zero, List.set_cons_succ, i64_w, i32_w]
              rfl
            refine pure_ (i := 19) (N := some 47) (v := ?_) (a' := ?_) #[true, true, true, true, true, true, true, true, true, true, true, true, true, true, true, true, true, true, true, true, false, false, false, false, false, false, false, false, false, false, false, false, false, false, false, false] rfl rfl (any_of HT_.out (by kernel_rfl)) (fun _ _ _ h => h) (Or.inl ⟨by rfl, ?_⟩) ?_ ?_
            rotate_left
            · intro w'
              go_simp
              with_reducible rfl
            rotate_left
            · simp only [Act.put, List.setIfInBounds_toArray, List.set_cons_zero, List.set_cons_succ, i64_w, i32_w]
              rfl
            refine pure_ (i := 20) (N := some 48) (v := ?_) (a' := ?_) #[true, true, true, true, true, true, true, true, true, true, true, true, true, true, true, true, true, true, true, true, true, false, false, false, false, false, false, false, false, false, false, false, false, false, false, false] rfl rfl (any_of HT_.out (by kernel_rfl)) (fun _ _ _ h => h) (Or.inl ⟨by rfl, ?_⟩) ?_ ?_
            rotate_left
            · intro w'
              go_simp
              with_reducible rfl
            rotate_left
            · simp only [Act.put, List.setIfInBounds_toArray, List.set_cons_zero, List.set_cons_succ, i64_w, i32_w]
              rfl
            refine pure_ (i := 23) (N := some 51) (v := ?_) (a' := ?_) #[true, true, true, true, true, true, true, true, true, true, true, true, true, true, true, true, true, true, true, true, true, false, false, true, false, false, false, false, false, false, false, false, false, false, false, false] rfl rfl (any_of HT_.out (by kernel_rfl)) (fun _ _ _ h => h) (Or.inl ⟨by rfl, ?_⟩) ?_ ?_
            rotate_left
            · intro w'
              go_simp
              with_reducible rfl
            rotate_left
            · simp only [Act.put, List.setIfInBounds_toArray, List.set_cons_zero, List.set_cons_succ, i64_w, i32_w]
              rfl
            refine take_ (i := 21) (N := some 49) (v := ?_) (a' := ?_) #[true, true, true, true, true, true, true, true, true, true, true, true, true, true, true, true, true, true, true, true, true, true, false, true, false, false, false, false, false, false, false, false, false, false, false, false] rfl rfl (take_ofW HT_.out HW_.out (by kernel_rfl)) (fun _ _ _ h => h) (Or.inl ⟨by rfl, ?_⟩) hHeld ?_ ?_
            rotate_left
            · rintro w' ⟨s0, s1, s2, s3, s4, s5, s6, s7⟩
              go_simp
              with_reducible rfl
            rotate_left
            · simp only [Act.put, List.setIfInBounds_toArray, List.set_cons_zero, List.set_cons_succ, i64_w, i32_w]
              rfl
            refine take_ (i := 24) (N := some 52) (v := ?_) (a' := ?_) #[true, true, true, true, true, true, true, true, true, true, true, true, true, true, true, true, true, true, true, true, true, true, false, true, true, false, false, false, false, false, false, false, false, false, false, false] rfl rfl (take_ofW HT_.out HW_.out (by kernel_rfl)) (fun _ _ _ h => h) (Or.inl ⟨by rfl, ?_⟩) hHeld ?_ ?_
            rotate_left
            · rintro w' ⟨s0, s1, s2, s3, s4, s5, s6, s7⟩
              go_simp
              with_reducible rfl
            rotate_left
            · simp only [Act.put, List.setIfInBounds_toArray, List.set_cons_zero, List.set_cons_succ, i64_w, i32_w]
              rfl
            refine one_ (i := 22) (N := some 50) #[true, true, true, true, true, true, true, true, true, true, true, true, true, true, true, true, true, true, true, true, true, true, true, true, true, false, false, false, false, false, false, false, false, false, false, false] rfl rfl (one_of HT_.out (by kernel_rfl)) (by decide) (fun K hK => ?_)
            refine goes_ Try.func16 (by kernel_rfl) rfl #[.string a0_7] (by rfl) rfl rfl (by (try simp only [List.map_toArray, List.map_cons, List.map_nil]); first | done | rfl | (simp only [List.length_drop, List.length_take]; rfl)) ?_
            with_reducible refine (tcp_OptsRight.calls a0_7 t185 _ A15.out).mono ?_
            rintro e w31 ⟨rfl, hb⟩
            refine ⟨_, rfl, ?_⟩
            have n0_ := Aside0.mk (blk_below (g := gb161) (o := .cells #[.int .i64 a0_0, .int .i64 a0_1, .int .u32 a0_2, .int .u32 a0_3, .int .i64 a0_4, .int .i64 a0_5, .int .i64 a0_6, .string a0_7] 24 (0, 0)) (by (with_reducible repeat (first | refine blk_drewN ?_ _ | refine blk_drew ?_ | refine blk_alloc ?_ _)); exact BK161.out) hb)
            have n1_ := Aside0.mk (below_step (by repeat (first | (with_reducible first | exact HB.out | apply below_alloc | apply pw_below_drewN | apply below_drew1 | refine below_set ?_ GE161.out) | exact HB.out)) hb)
            clear BK161
            clear HB
            have BK161 := n0_
            have HB := n1_
            clear n0_ n1_
            (try clear hb)
            (try clear hb2)
            (try clear hk)
            (try clear hi)
            refine hK.out _ _ ⟨(blk_cell BK161.out 0).trans rfl, (blk_cell BK161.out 1).trans rfl, (blk_cell BK161.out 2).trans rfl, (blk_cell BK161.out 3).trans rfl, (blk_cell BK161.out 4).trans rfl, (blk_cell BK161.out 5).trans rfl, (blk_cell BK161.out 6).trans rfl, (blk_cell BK161.out 7).trans rfl⟩ (fun hHeld => ?_)
            clear hK K
            refine norm_ (a' := ?_) ?_ ?_
            rotate_left
            · show Act.put _ (some 50) _ = _
              simp only [Act.put, List.setIfInBounds_toArray, List.set_cons_zero, List.set_cons_succ, i64_w, i32_w]
              rfl
            refine one_ (i := 25) (N := some 53) #[true, true, true, true, true, true, true, true, true, true, true, true, true, true, true, true, true, true, true, true, true, true, true, true, true, true, false, false, false, false, false, false, false, false, false, false] rfl rfl (one_of HT_.out (by kernel_rfl)) (by decide) (fun K hK => ?_)
            refine goes_ Try.func17 (by kernel_rfl) rfl #[.string a0_7] (by rfl) rfl rfl (by (try simp only [List.map_toArray, List.map_cons, List.map_nil]); first | done | rfl | (simp only [List.length_drop, List.length_take]; rfl)) ?_
            with_reducible refine (weighbridgeref04_OptsRight.calls a0_7 t186 _ A16.out).mono ?_
            rintro e w' ⟨rfl, ⟨nd, rfl⟩⟩
            refine ⟨_, rfl, ?_⟩
            refine hK.out _ _ ⟨(blk_cell BK161.out 0).trans rfl, (blk_cell BK161.out 1).trans rfl, (blk_cell BK161.out 2).trans rfl, (blk_cell BK161.out 3).trans rfl, (blk_cell BK161.out 4).trans rfl, (blk_cell BK161.out 5).trans rfl, (blk_cell BK161.out 6).trans rfl, (blk_cell BK161.out 7).trans rfl⟩ (fun hHeld => ?_)
            clear hK K
            refine norm_ (a' := ?_) ?_ ?_
            rotate_left
            · show Act.put _ (some 53) _ = _
              simp only [Act.put, List.setIfInBounds_toArray, List.set_cons_zero, List.set_cons_succ, i64_w, i32_w]
              rfl
            refine pure_ (i := 26) (N := some 54) (v := ?_) (a' := ?_) #[true, true, true, true, true, true, true, true, true, true, true, true, true, true, true, true, true, true, true, true, true, true, true, true, true, true, true, false, false, false, false, false, false, false, false, false] rfl rfl (any_of HT_.out (by kernel_rfl)) (fun _ _ _ h => h) (Or.inl ⟨by rfl, ?_⟩) ?_ ?_
            rotate_left
            · intro w'
              go_simp
              with_reducible rfl
            rotate_left
            · simp only [Act.put, List.setIfInBounds_toArray, List.set_cons_zero, List.set_cons_succ, i64_w, i32_w]
              rfl
            refine pure_ (i := 27) (N := some 55) (v := ?_) (a' := ?_) #[true, true, true, true, true, true, true, true, true, true, true, true, true, true, true, true, true, true, true, true, true, true, true, true, true, true, true, true, false, false, false, false, false, false, false, false] rfl rfl (any_of HT_.out (by kernel_rfl)) (fun _ _ _ h => h) (Or.inl ⟨by rfl, ?_⟩) ?_ ?_
            rotate_left
            · intro w'
              go_simp
              with_reducible rfl
            rotate_left
            · simp only [Act.put, List.setIfInBounds_toArray, List.set_cons_zero, List.set_cons_succ, i64_w, i32_w]
              rfl
            refine pure_ (i := 28) (N := some 56) (v := ?_) (a' := ?_) #[true, true, true, true, true, true, true, true, true, true, true, true, true, true, true, true, true, true, true, true, true, true, true, true, true, true, true, true, true, false, false, false, false, false, false, false] rfl rfl (any_of HT_.out (by kernel_rfl)) (fun _ _ _ h => h) (Or.inl ⟨by rfl, ?_⟩) ?_ ?_
            rotate_left
            · intro w'
              go_simp
              with_reducible rfl
            rotate_left
            · simp only [Act.put, List.setIfInBounds_toArray, List.set_cons_zero, List.set_cons_succ, i64_w, i32_w]
              rfl
            refine pure_ (i := 29) (N := some 57) (v := ?_) (a' := ?_) #[true, true, true, true, true, true, true, true, true, true, true, true, true, true, true, true, true, true, true, true, true, true, true, true, true, true, true, true, true, true, false, false, false, false, false, false] rfl rfl (any_of HT_.out (by kernel_rfl)) (fun _ _ _ h => h) (Or.inl ⟨by rfl, ?_⟩) ?_ ?_
            rotate_left
            · intro w'
              go_simp
              with_reducible rfl
            rotate_left
            · simp only [Act.put, List.setIfInBounds_toArray, List.set_cons_zero, List.set_cons_succ, i64_w, i32_w]
              rfl
            refine pure_ (i := 31) (N := some 59) (v := ?_) (a' := ?_) #[true, true, true, true, true, true, true, true, true, true, true, true, true, true, true, true, true, true, true, true, true, true, true, true, true, true, true, true, true, true, false, true, false, false, false, false] rfl rfl (any_of HT_.out (by kernel_rfl)) (fun _ _ _ h => h) (Or.inl ⟨by rfl, ?_⟩) ?_ ?_
            rotate_left
            · intro w'
              go_simp
              with_reducible rfl
            rotate_left
            · simp only [Act.put, List.setIfInBounds_toArray, List.set_cons_zero, List.set_cons_succ, i64_w, i32_w]
              rfl
            refine one_ (i := 30) (N := some 58) #[true, true, true, true, true, true, true, true, true, true, true, true, true, true, true, true, true, true, true, true, true, true, true, true, true, true, true, true, true, true, true, true, false, false, false, false] rfl rfl (one_of HT_.out (by kernel_rfl)) (by decide) (fun K hK => ?_)
            refine goes_ Try.func18 (by kernel_rfl) rfl #[.int .i64 a2] (by rfl) rfl rfl (by (try simp only [List.map_toArray, List.map_cons, List.map_nil]); first | done | rfl | (simp only [List.length_drop, List.length_take]; rfl)) ?_
            with_reducible refine (tcp_Name.calls a2 t187 _ A18.out).mono ?_
            rintro e w32 ⟨rfl, hb⟩
            refine ⟨_, rfl, ?_⟩
            have n0_ := Aside0.mk (blk_below (g := gb161) (o := .cells #[.int .i64 a0_0, .int .i64 a0_1, .int .u32 a0_2, .int .u32 a0_3, .int .i64 a0_4, .int .i64 a0_5, .int .i64 a0_6, .string a0_7] 24 (0, 0)) (by (with_reducible repeat (first | refine blk_drewN ?_ _ | refine blk_drew ?_ | refine blk_alloc ?_ _)); exact BK161.out) hb)
            have n1_ := Aside0.mk (below_step (by repeat (first | (with_reducible first | exact HB.out | apply below_alloc | apply pw_below_drewN | apply below_drew1 | refine below_set ?_ GE161.out) | exact HB.out)) hb)
            clear BK161
            clear HB
            have BK161 := n0_
            have HB := n1_
            clear n0_ n1_
            (try clear hb)
            (try clear hb2)
            (try clear hk)
            (try clear hi)
            refine hK.out _ _ ⟨(blk_cell BK161.out 0).trans rfl, (blk_cell BK161.out 1).trans rfl, (blk_cell BK161.out 2).trans rfl, (blk_cell BK161.out 3).trans rfl, (blk_cell BK161.out 4).trans rfl, (blk_cell BK161.out 5).trans rfl, (blk_cell BK161.out 6).trans rfl, (blk_cell BK161.out 7).trans rfl⟩ (fun hHeld => ?_)
            clear hK K
            refine norm_ (a' := ?_) ?_ ?_
            rotate_left
            · show Act.put _ (some 58) _ = _
              simp only [Act.put, List.setIfInBounds_toArray, List.set_cons_zero, List.set_cons_succ, i64_w, i32_w]
              rfl
            refine one_ (i := 32) (N := some 60) #[true, true, true, true, true, true, true, true, true, true, true, true, true, true, true, true, true, true, true, true, true, true, true, true, true, true, true, true, true, true, true, true, true, false, false, false] rfl rfl (one_of HT_.out (by kernel_rfl)) (by decide) (fun K hK => ?_)
            refine goes_ Try.func19 (by kernel_rfl) rfl #[.int .i64 a2] (by rfl) rfl rfl (by (try simp only [List.map_toArray, List.map_cons, List.map_nil]); first | done | rfl | (simp only [List.length_drop, List.length_take]; rfl)) ?_
            with_reducible refine (weighbridgeref05_Name.calls a2 t188 _ A19.out).mono ?_
            rintro e w' ⟨rfl, ⟨nd, rfl⟩⟩
            refine ⟨_, rfl, ?_⟩
            refine hK.out _ _ ⟨(blk_cell BK161.out 0).trans rfl, (blk_cell BK161.out 1).trans rfl, (blk_cell BK161.out 2).trans rfl, (blk_cell BK161.out 3).trans rfl, (blk_cell BK161.out 4).trans rfl, (blk_cell BK161.out 5).trans rfl, (blk_cell BK161.out 6).trans rfl, (blk_cell BK161.out 7).trans rfl⟩ (fun hHeld => ?_)
            clear hK K
            refine norm_ (a' := ?_) ?_ ?_
            rotate_left
            · show Act.put _ (some 60) _ = _
              simp only [Act.put, List.setIfInBounds_toArray, List.set_cons_zero, List.set_cons_succ, i64_w, i32_w]
              rfl
            refine pure_ (i := 33) (N := some 61) (v := ?_) (a' := ?_) #[true, true, true, true, true, true, true, true, true, true, true, true, true, true, true, true, true, true, true, true, true, true, true, true, true, true, true, true, true, true, true, true, true, true, false, false] rfl rfl (any_of HT_.out (by kernel_rfl)) (fun _ _ _ h => h) (Or.inl ⟨by rfl, ?_⟩) ?_ ?_
            rotate_left
            · intro w'
              go_simp
              with_reducible rfl
            rotate_left
            · simp only [Act.put, List.setIfInBounds_toArray, List.set_cons_zero, List.set_cons_succ, i64_w, i32_w]
              rfl
            refine pure_ (i := 34) (N := some 62) (v := ?_) (a' := ?_) #[true, true, true, true, true, true, true, true, true, true, true, true, true, true, true, true, true, true, true, true, true, true, true, true, true, true, true, true, true, true, true, true, true, true, true, false] rfl rfl (any_of HT_.out (by kernel_rfl)) (fun _ _ _ h => h) (Or.inl ⟨by rfl, ?_⟩) ?_ ?_
            rotate_left
            · intro w'
              go_simp
              with_reducible rfl
            rotate_left
            · simp only [Act.put, List.setIfInBounds_toArray, List.set_cons_zero, List.set_cons_succ, i64_w, i32_w]
              rfl
            refine pure_ (i := 35) (N := some 6) (v := ?_) (a' := ?_) #[true, true, true, true, true, true, true, true, true, true, true, true, true, true, true, true, true, true, true, true, true, true, true, true, true, true, true, true, true, true, true, true, true, true, true, true] rfl rfl (any_of HT_.out (by kernel_rfl)) (fun _ _ _ h => h) (Or.inl ⟨by rfl, ?_⟩) ?_ ?_
            rotate_left
            · intro w'
              go_simp
              with_reducible rfl
            rotate_left
            · simp only [Act.put, List.setIfInBounds_toArray, List.set_cons_zero, List.set_cons_succ, i64_w, i32_w]
              rfl
            refine done_ (done_of HT_.out (by kernel_rfl)) ?_
            try go_wp2
            go_ret
            exact ⟨by first | rfl | (simp [errW_none, errW_some] <;> rfl) | (simp [*, errW_none, errW_some] <;> rfl), by repeat (first | (with_reducible first | exact HB.out | apply below_alloc | apply pw_below_drewN | apply below_drew1 | refine below_set ?_ GE161.out) | exact HB.out)⟩
          · rw [if_neg c17] at H
            have c17b0 : (t185 == t186) = false := by simpa using c17
            (try (have c17b1 : decide (t185 = t186) = false := by simpa using c17))
            (try (have c17b2 : (t185 == t186) = false := by simpa using c17))
            (try (have c17b3 : ¬ (t185 = t186) := by simpa using c17))
            clear c17
            exact absurd ((Option.some.inj H).trans hr_) (by decide)
        · rw [if_neg c14] at H
          have c14b0 : (t175 == t184) = false := by simpa using c14
          (try (have c14b1 : decide (t175 = t184) = false := by simpa using c14))
          (try (have c14b2 : (t175 == t184) = false := by simpa using c14))
          (try (have c14b3 : ¬ (t175 = t184) := by simpa using c14))
          clear c14
          exact absurd ((Option.some.inj H).trans hr_) (by decide)
      · rw [if_neg c10] at H
        have c10b0 : (t164 == t174) = false := beq_eq_false_iff_ne.mpr c10
        have c10b1 : (t164 != t174) = true := bne_iff_ne.mpr c10
        exact absurd ((Option.some.inj H).trans hr_) (by decide)
    · rw [if_neg c9] at H
      have c9b0 : (t163.toList == t173.toList) = false := beq_eq_false_iff_ne.mpr c9
      have c9b1 : (t163.toList != t173.toList) = true := bne_iff_ne.mpr c9
      exact absurd ((Option.some.inj H).trans hr_) (by decide)
  · replace c5 := Bool.eq_false_iff.mpr c5
    subst c5
    have H1 : (some false) = some r := by rw [if_neg (show ¬ (false = true) by decide)] at H; exact H
    clear H
    have H := H1
    clear H1
    exact absurd ((Option.some.inj H).trans hr_) (by decide)

/-- THE ONE PURE STATEMENT of weighbridgelaw05_TcpBuilds: yours. -/
def weighbridgelaw05_TcpBuilds.Pure : Prop := ∀ (a0_0 : Int) (a0_1 : Int) (a0_2 : Int) (a0_3 : Int) (a0_4 : Int) (a0_5 : Int) (a0_6 : Int) (a0_7 : ByteArray) (a1 : ByteArray) (a2 : Int), (Lit.int .i64 a0_0).wf = true → (Lit.int .i64 a0_1).wf = true → (Lit.int .u32 a0_2).wf = true → (Lit.int .u32 a0_3).wf = true → (Lit.int .i64 a0_4).wf = true → (Lit.int .i64 a0_5).wf = true → (Lit.int .i64 a0_6).wf = true → a0_7.size ≤ 140737488351232 → a1.size ≤ 140737488351232 → (Lit.int .i64 a2).wf = true → weighbridgelaw05_TcpBuilds.f a0_0 a0_1 a0_2 a0_3 a0_4 a0_5 a0_6 a0_7 a1 a2 = some true
theorem weighbridgelaw05_TcpBuilds.walk (P : weighbridgelaw05_TcpBuilds.Pure) (a0_0 : Int) (a0_1 : Int) (a0_2 : Int) (a0_3 : Int) (a0_4 : Int) (a0_5 : Int) (a0_6 : Int) (a0_7 : ByteArray) (a1 : ByteArray) (a2 : Int) (w : World) (w0_0 : (Lit.int .i64 a0_0).wf = true) (w0_1 : (Lit.int .i64 a0_1).wf = true) (w0_2 : (Lit.int .u32 a0_2).wf = true) (w0_3 : (Lit.int .u32 a0_3).wf = true) (w0_4 : (Lit.int .i64 a0_4).wf = true) (w0_5 : (Lit.int .i64 a0_5).wf = true) (w0_6 : (Lit.int .i64 a0_6).wf = true) (w0_7 : a0_7.size ≤ 140737488351232) (w1 : a1.size ≤ 140737488351232) (w2 : (Lit.int .i64 a2).wf = true) :
    Calls Try.prog 3 #[.agg #[.int .i64 a0_0, .int .i64 a0_1, .int .u32 a0_2, .int .u32 a0_3, .int .i64 a0_4, .int .i64 a0_5, .int .i64 a0_6, .string a0_7], .string a1, .int .i64 a2] w fun e w' => e = .returned (.bool true) ∧ Below w.heap.size w w' := by
  have h := P a0_0 a0_1 a0_2 a0_3 a0_4 a0_5 a0_6 a0_7 a1 a2 w0_0 w0_1 w0_2 w0_3 w0_4 w0_5 w0_6 w0_7 w1 w2
  refine (weighbridgelaw05_TcpBuilds.calls a0_0 a0_1 a0_2 a0_3 a0_4 a0_5 a0_6 a0_7 a1 a2 true w h rfl).mono ?_
  rintro e w' ⟨rfl, hd⟩
  exact ⟨rfl, hd⟩
def weighbridgelaw05_TcpBuilds.PureU : Prop := ∀ (a0_0 : Int) (a0_1 : Int) (a0_2 : Int) (a0_3 : Int) (a0_4 : Int) (a0_5 : Int) (a0_6 : Int) (a0_7 : ByteArray) (a1 : ByteArray) (a2 : Int), (Lit.int .i64 a0_0).wf = true → (Lit.int .i64 a0_1).wf = true → (Lit.int .u32 a0_2).wf = true → (Lit.int .u32 a0_3).wf = true → (Lit.int .i64 a0_4).wf = true → (Lit.int .i64 a0_5).wf = true → (Lit.int .i64 a0_6).wf = true → a0_7.size ≤ 1048576 → a1.size ≤ 1048576 → (Lit.int .i64 a2).wf = true → weighbridgelaw05_TcpBuilds.f a0_0 a0_1 a0_2 a0_3 a0_4 a0_5 a0_6 a0_7 a1 a2 = some true
theorem weighbridgelaw05_TcpBuilds.walkU (P : weighbridgelaw05_TcpBuilds.PureU) (a0_0 : Int) (a0_1 : Int) (a0_2 : Int) (a0_3 : Int) (a0_4 : Int) (a0_5 : Int) (a0_6 : Int) (a0_7 : ByteArray) (a1 : ByteArray) (a2 : Int) (w : World) (w0_0 : (Lit.int .i64 a0_0).wf = true) (w0_1 : (Lit.int .i64 a0_1).wf = true) (w0_2 : (Lit.int .u32 a0_2).wf = true) (w0_3 : (Lit.int .u32 a0_3).wf = true) (w0_4 : (Lit.int .i64 a0_4).wf = true) (w0_5 : (Lit.int .i64 a0_5).wf = true) (w0_6 : (Lit.int .i64 a0_6).wf = true) (w0_7 : a0_7.size ≤ 1048576) (w1 : a1.size ≤ 1048576) (w2 : (Lit.int .i64 a2).wf = true) :
    Calls Try.prog 3 #[.agg #[.int .i64 a0_0, .int .i64 a0_1, .int .u32 a0_2, .int .u32 a0_3, .int .i64 a0_4, .int .i64 a0_5, .int .i64 a0_6, .string a0_7], .string a1, .int .i64 a2] w fun e w' => e = .returned (.bool true) ∧ Below w.heap.size w w' := by
  have h := P a0_0 a0_1 a0_2 a0_3 a0_4 a0_5 a0_6 a0_7 a1 a2 w0_0 w0_1 w0_2 w0_3 w0_4 w0_5 w0_6 w0_7 w1 w2
  refine (weighbridgelaw05_TcpBuilds.calls a0_0 a0_1 a0_2 a0_3 a0_4 a0_5 a0_6 a0_7 a1 a2 true w h rfl).mono ?_
  rintro e w' ⟨rfl, hd⟩
  exact ⟨rfl, hd⟩

end Go.Proofs.Ytlhpfoibohiggaa.Pr
