-- Written by a program of the session (wip/tools) out of the translation, over the kit's print; with pieces of the session's own.
import Derived.Test.YthmpmladneiegaaPr0
import Derived.Test.YthmpmladneiegaaPr3
import Derived.Test.YthmpmladneiegaaPr4
import Derived.Test.YthmpmladneiegaaPr17
namespace Go.Proofs.Ythmpmladneiegaa.Pr
open Go.RowKit Go.Proofs.YthmpmladneiegaaW.PrintWords Go.Proofs.YthmpmladneiegaaW.PrintLast Go.Proofs.YthmpmladneiegaaW.PrintMore
attribute [local go_sem] max2_int min2_int max_two min_two max_three min_three max_four min_four   -- for this text's walks alone
set_option linter.unusedVariables false
set_option linter.unusedSimpArgs false
open Go.Proofs.Ythmpmladneiegaa.Sp
attribute [local go_sem high] eqA69
/-! ### icmp_Message_bytes: function 35 -/
theorem Put_any (a b : Int) (w : World) : ∃ s ok, Hid (s = lb (Sp.put a b).1 ∧ ok = (Sp.put a b).2) ∧ s.size ≤ 4 ∧ Calls Try.prog 40 #[.int .i64 a, .int .i64 b] w fun e w' => e = .returned (.tuple #[.string s, .bool ok]) ∧ Below w.heap.size w w' := by
  refine ⟨lb (Sp.put a b).1, (Sp.put a b).2, Lib.hid ⟨rfl, rfl⟩, ?_, octet_Put.calls a b _ _ w rfl⟩
  rw [lb_size]
  by_cases h : Sp.fits a b = true
  · have := Sp.fits_iff.1 h
    rw [Sp.put_yes h, Sp.beBytes_length]; omega
  · rw [Sp.put_no (Sp.bool_no h)]; simp
theorem heap2 (w : World) (o1 o2 o3 : Obj) : (((w.alloc o1).alloc o2).alloc o3).heap[w.heap.size]? = some o1 ∧ (((w.alloc o1).alloc o2).alloc o3).heap[w.heap.size + 1]? = some o2 := by
  constructor
  · simp only [World.alloc, Array.getElem?_push, Array.size_push]
    rw [if_neg (by omega), if_neg (by omega), if_pos trivial]
  · simp only [World.alloc, Array.getElem?_push, Array.size_push]
    rw [if_neg (by omega), if_pos trivial]
theorem heap_step {W W' : World} {o x : Obj} {B : Nat} (h : W.heap[B]? = some x) (hb : Below (W.alloc o).heap.size (W.alloc o) W') : W'.heap[B]? = some x := by
  have hl := (Array.getElem?_eq_some_iff.1 h).1
  rw [hb.block _ (by simp; omega)]
  simp only [World.alloc, Array.getElem?_push]
  rw [if_neg (by omega)]; exact h
theorem fit_ck {n : Int} (h : 0 ≤ n ∧ n ≤ 65535) : wrap64 n = n ∧ Sp.fits 2 n = true := ⟨wrap_id (by omega) (by omega), Sp.fits2.2 h⟩
theorem fit_rest {n : Int} (h : 0 ≤ n ∧ n ≤ 4294967295) : wrap64 n = n ∧ Sp.fits 4 n = true := ⟨wrap_id (by omega) (by omega), Sp.fits_iff.2 ⟨by decide, by decide, h.1, by show n < 256 ^ 4; omega⟩⟩
theorem Put_yes {a b : Int} {s : ByteArray} (h : s = lb (Sp.put a b).1 ∧ true = (Sp.put a b).2) : Sp.fits a b = true ∧ s = lb (Sp.beBytes a.toNat b) := by
  have f : Sp.fits a b = true := by rw [← Sp.put_snd]; exact h.2.symm
  exact ⟨f, by rw [h.1, Sp.put_yes f]⟩
theorem Put_no {a b : Int} {s : ByteArray} (h : s = lb (Sp.put a b).1 ∧ false = (Sp.put a b).2) : ¬ Sp.fits a b = true := fun f => by
  have := h.2; rw [Sp.put_snd, f] at this; cases this
theorem empty_lb : (⟨#[]⟩ : ByteArray) = lb [] := rfl
set_option maxRecDepth 100000 in
set_option maxHeartbeats 4000000 in
theorem bytes_any (t c r : Int) (b : ByteArray) (ck : Int) (w : World) (hr : 0 ≤ r ∧ r ≤ 4294967295) (hc : 0 ≤ ck ∧ ck ≤ 65535) (hbs : b.size ≤ 281474976710656) :
    Calls Try.prog 35 #[.agg #[.int .i64 t, .int .i64 c, .int .u32 r, .string b], .int .u16 ck] w fun e w' => e = .returned (.tuple #[.string (lb (Sp.icmpBytes t c r (bl b) ck).1), .bool (Sp.icmpBytes t c r (bl b) ck).2]) ∧ Below w.heap.size w w' := by
  have HR := Lib.hid hr
  have HC := Lib.hid hc
  clear hr hc
  go_enter Try.func35, Try.ntmps35
  go_wp2
  refine wp_loop_rounds 5 ?_
  have hB0 : Below w.heap.size w ((w.alloc (.cells #[.int .i64 t, .int .i64 c, .int .u32 r, .string b] 45)).alloc (.cells #[.int .i64 1, .int .i64 t, .int .i64 1, .int .i64 c, .int .i64 2, .int .i64 (wrap64 ck), .int .i64 4, .int .i64 (wrap64 r)] 76)) := below_alloc (below_alloc (Below.refl _ w) _) _
  rw [rounds_succ]
  go_wp2_with (fail)
  obtain ⟨s1, k1, e1, z1, H1⟩ := Put_any 1 t (((w.alloc (.cells #[.int .i64 t, .int .i64 c, .int .u32 r, .string b] 45)).alloc (.cells #[.int .i64 1, .int .i64 t, .int .i64 1, .int .i64 c, .int .i64 2, .int .i64 (wrap64 ck), .int .i64 4, .int .i64 (wrap64 r)] 76)).alloc (.cells #[.int .i64 1, .int .i64 t] 76))
  refine H1.mono ?_
  rintro e w1 ⟨rfl, hb⟩
  have hM1 : w1.heap[w.heap.size]? = some (.cells #[.int .i64 t, .int .i64 c, .int .u32 r, .string b] 45 (0, 0)) := by
    rw [hb.block _ (by simp; omega)]; exact (heap2 _ _ _ _).1
  have hA1 : w1.heap[w.heap.size + 1]? = some (.cells #[.int .i64 1, .int .i64 t, .int .i64 1, .int .i64 c, .int .i64 2, .int .i64 (wrap64 ck), .int .i64 4, .int .i64 (wrap64 r)] 76 (0, 0)) := by
    rw [hb.block _ (by simp)]; exact (heap2 _ _ _ _).2
  have hB1 := below_step (below_alloc hB0 _) hb
  have x0 := fun (i : Nat) (v : Value) (h : (#[.int .i64 1, .int .i64 t, .int .i64 1, .int .i64 c, .int .i64 2, .int .i64 (wrap64 ck), .int .i64 4, .int .i64 (wrap64 r)] : Array Value)[i]? = some v) => (cell_of_row w1 (w.heap.size + 1) i _ 76 (0, 0) hA1).trans h
  have x2 := x0 2 _ rfl
  have x3 := x0 3 _ rfl
  clear x0
  clear hb H1 hB0
  cases k1
  case false =>
    have HB := Lib.hid hB1
    clear hB1 hM1 hA1 x2
    go_wp2_with (fail)
    go_ret2
    refine ⟨?_, HB.out⟩
    have f : Sp.icmpBytes t c r (bl b) ck = ([], false) := by
      unfold Sp.icmpBytes; rw [if_neg (fun h => ?_)]
      exact Put_no e1.out h.1
    rw [f]; rfl
  have zz1 := z1
  have y1 := eq_false (show ¬ 9223372036854775807 < (⟨#[]⟩ : ByteArray).size + s1.size by (try simp only [ByteArray.size_append]); have : (⟨#[]⟩ : ByteArray).size = 0 := rfl; omega)
  go_wp2_with (fail)
  rw [rounds_succ]
  go_wp2_with (fail)
  obtain ⟨s2, k2, e2, z2, H2⟩ := Put_any 1 c (w1.alloc (.cells #[.int .i64 1, .int .i64 c] 76))
  refine H2.mono ?_
  rintro e w2 ⟨rfl, hb⟩
  have hM2 := heap_step hM1 hb
  have hA2 := heap_step hA1 hb
  clear hM1 hA1 x2 x3
  have hB2 := below_step (below_alloc hB1 _) hb
  have x0 := fun (i : Nat) (v : Value) (h : (#[.int .i64 1, .int .i64 t, .int .i64 1, .int .i64 c, .int .i64 2, .int .i64 (wrap64 ck), .int .i64 4, .int .i64 (wrap64 r)] : Array Value)[i]? = some v) => (cell_of_row w2 (w.heap.size + 1) i _ 76 (0, 0) hA2).trans h
  have x2 := x0 4 _ rfl
  have x3 := x0 5 _ rfl
  clear x0
  clear hb H2 hB1
  cases k2
  case false =>
    have HB := Lib.hid hB2
    clear hB2 hM2 hA2 x2
    go_wp2_with (fail)
    go_ret2
    refine ⟨?_, HB.out⟩
    have f : Sp.icmpBytes t c r (bl b) ck = ([], false) := by
      unfold Sp.icmpBytes; rw [if_neg (fun h => ?_)]
      exact Put_no e2.out h.2
    rw [f]; rfl
  have zz2 := z2
  have y2 := eq_false (show ¬ 9223372036854775807 < ((⟨#[]⟩ : ByteArray) ++ s1).size + s2.size by (try simp only [ByteArray.size_append]); have : (⟨#[]⟩ : ByteArray).size = 0 := rfl; omega)
  go_wp2_with (fail)
  rw [rounds_succ]
  go_wp2_with (fail)
  obtain ⟨s3, k3, e3, z3, H3⟩ := Put_any 2 (wrap64 ck) (w2.alloc (.cells #[.int .i64 2, .int .i64 (wrap64 ck)] 76))
  refine H3.mono ?_
  rintro e w3 ⟨rfl, hb⟩
  have hM3 := heap_step hM2 hb
  have hA3 := heap_step hA2 hb
  clear hM2 hA2 x2 x3
  have hB3 := below_step (below_alloc hB2 _) hb
  have x0 := fun (i : Nat) (v : Value) (h : (#[.int .i64 1, .int .i64 t, .int .i64 1, .int .i64 c, .int .i64 2, .int .i64 (wrap64 ck), .int .i64 4, .int .i64 (wrap64 r)] : Array Value)[i]? = some v) => (cell_of_row w3 (w.heap.size + 1) i _ 76 (0, 0) hA3).trans h
  have x2 := x0 6 _ rfl
  have x3 := x0 7 _ rfl
  clear x0
  clear hb H3 hB2
  cases k3
  case false =>
    have HB := Lib.hid hB3
    clear hB3 hM3 hA3 x2
    go_wp2_with (fail)
    go_ret2
    refine ⟨?_, HB.out⟩
    have f : Sp.icmpBytes t c r (bl b) ck = ([], false) := by
      unfold Sp.icmpBytes; rw [if_neg (fun h => ?_)]
      exact Put_no e3.out (by rw [(fit_ck HC.out).1]; exact (fit_ck HC.out).2)
    rw [f]; rfl
  have zz3 := z3
  have y3 := eq_false (show ¬ 9223372036854775807 < (((⟨#[]⟩ : ByteArray) ++ s1) ++ s2).size + s3.size by (try simp only [ByteArray.size_append]); have : (⟨#[]⟩ : ByteArray).size = 0 := rfl; omega)
  go_wp2_with (fail)
  rw [rounds_succ]
  go_wp2_with (fail)
  obtain ⟨s4, k4, e4, z4, H4⟩ := Put_any 4 (wrap64 r) (w3.alloc (.cells #[.int .i64 4, .int .i64 (wrap64 r)] 76))
  refine H4.mono ?_
  rintro e w4 ⟨rfl, hb⟩
  have hM4 := heap_step hM3 hb
  have hA4 := heap_step hA3 hb
  clear hM3 hA3 x2 x3
  have hB4 := below_step (below_alloc hB3 _) hb
  have x2 := (cell_of_row w4 w.heap.size 3 _ 45 (0, 0) hM4).trans (show _ = some (.string b) from rfl)
  clear hb H4 hB3
  cases k4
  case false =>
    have HB := Lib.hid hB4
    clear hB4 hM4 hA4 x2
    go_wp2_with (fail)
    go_ret2
    refine ⟨?_, HB.out⟩
    have f : Sp.icmpBytes t c r (bl b) ck = ([], false) := by
      unfold Sp.icmpBytes; rw [if_neg (fun h => ?_)]
      exact Put_no e4.out (by rw [(fit_rest HR.out).1]; exact (fit_rest HR.out).2)
    rw [f]; rfl
  have zz4 := z4
  have y4 := eq_false (show ¬ 9223372036854775807 < ((((⟨#[]⟩ : ByteArray) ++ s1) ++ s2) ++ s3).size + s4.size by (try simp only [ByteArray.size_append]); have : (⟨#[]⟩ : ByteArray).size = 0 := rfl; omega)
  go_wp2_with (fail)
  rw [rounds_succ]
  have y5 := eq_false (show ¬ 9223372036854775807 < (((((⟨#[]⟩ : ByteArray) ++ s1) ++ s2) ++ s3) ++ s4).size + b.size by (try simp only [ByteArray.size_append]); have : (⟨#[]⟩ : ByteArray).size = 0 := rfl; omega)
  go_wp2_with (fail)
  go_ret2
  refine ⟨?_, hB4⟩
  have f1 := Put_yes e1.out
  have f2 := Put_yes e2.out
  have f3 := Put_yes e3.out
  have f4 := Put_yes e4.out
  have f : Sp.icmpBytes t c r (bl b) ck = (Sp.beBytes 1 t ++ Sp.beBytes 1 c ++ Sp.beBytes 2 ck ++ Sp.beBytes 4 r ++ bl b, true) := by
    unfold Sp.icmpBytes; rw [if_pos ⟨f1.1, f2.1⟩]
  rw [f, f1.2, f2.2, f3.2, f4.2, (fit_ck HC.out).1, (fit_rest HR.out).1, empty_lb]
  have eb : lb [] ++ lb (Sp.beBytes (1 : Int).toNat t) ++ lb (Sp.beBytes (1 : Int).toNat c) ++ lb (Sp.beBytes (2 : Int).toNat ck) ++ lb (Sp.beBytes (4 : Int).toNat r) ++ b = lb (Sp.beBytes 1 t ++ Sp.beBytes 1 c ++ Sp.beBytes 2 ck ++ Sp.beBytes 4 r ++ bl b) := Sp.bl_inj (by
    simp only [Sp.bl_append, Sp.bl_lb, List.nil_append]; rfl)
  rw [eb]; rfl
def icmp_Message_bytes.f (a0_0 a0_1 a0_2 : Int) (a0_3 : ByteArray) (a1 : Int) : Option (ByteArray × Bool) := if 0 ≤ a0_2 ∧ a0_2 ≤ 4294967295 ∧ 0 ≤ a1 ∧ a1 ≤ 65535 ∧ a0_3.size ≤ big then some (lb (Sp.icmpBytes a0_0 a0_1 a0_2 (bl a0_3) a1).1, (Sp.icmpBytes a0_0 a0_1 a0_2 (bl a0_3) a1).2) else none
theorem icmp_Message_bytes_eq {a0_0 a0_1 a0_2 : Int} {a0_3 : ByteArray} {a1 : Int} (h0 : 0 ≤ a0_2 ∧ a0_2 ≤ 4294967295) (h1 : 0 ≤ a1 ∧ a1 ≤ 65535) (h2 : a0_3.size ≤ 281474976710656) : icmp_Message_bytes.f a0_0 a0_1 a0_2 a0_3 a1 = some (lb (Sp.icmpBytes a0_0 a0_1 a0_2 (bl a0_3) a1).1, (Sp.icmpBytes a0_0 a0_1 a0_2 (bl a0_3) a1).2) := by
  unfold icmp_Message_bytes.f; exact if_pos ⟨h0.1, h0.2, h1.1, h1.2, h2⟩
theorem icmp_Message_bytes.calls (a0_0 : Int) (a0_1 : Int) (a0_2 : Int) (a0_3 : ByteArray) (a1 : Int) (r1 : ByteArray) (r2 : Bool) (w : World) (h : icmp_Message_bytes.f a0_0 a0_1 a0_2 a0_3 a1 = some (r1, r2)) :
    Calls Try.prog 35 #[.agg #[.int .i64 a0_0, .int .i64 a0_1, .int .u32 a0_2, .string a0_3], .int .u16 a1] w fun e w' => e = .returned (.tuple #[.string r1, .bool r2]) ∧ Below w.heap.size w w' := by
  unfold icmp_Message_bytes.f at h
  split at h
  case isFalse => cases h
  case isTrue hs =>
    have h := Option.some.inj h
    have := bytes_any a0_0 a0_1 a0_2 a0_3 a1 w ⟨hs.1, hs.2.1⟩ ⟨hs.2.2.1, hs.2.2.2.1⟩ hs.2.2.2.2
    injection h with h1 h2
    subst h1; subst h2
    exact this
/-! ### icmp_Build_p: function 22 -/
def icmp_Build_p.f (a0_0 : Int) (a0_1 : Int) (a0_2 : Int) (a0_3 : ByteArray) : Option (ByteArray × Int) := (icmp_Message_bytes.f a0_0 a0_1 a0_2 a0_3 0).bind fun bt225 => (if bt225.2 = true then (if (bt225.1.size : Int) > 1500 then (some ((⟨#[]⟩ : ByteArray), 18)) else ((cksum_Check.f bt225.1).bind fun t227 => ((icmp_Message_bytes.f a0_0 a0_1 a0_2 a0_3 t227).bind fun bt228 => (some (bt228.1, 0))))) else (some ((⟨#[]⟩ : ByteArray), 1)))
def icmp_Build_p.T6 : Bool × List (List Nat × List Nat) := (true, [([], []), ([], []), ([1], [1]), ([0, 2, 2], [0, 2]), ([3], [3]), ([4], [4]), ([4], [4]), ([5, 3, 0, 1, 2, 3, 4, 5], [1, 5])])
def icmp_Build_p.B6 : List Nat := [0, 0, 2, 7, 15, 31, 31, 63]
theorem icmp_Build_p.tab6 : rtab .any (opsOf Try.f22 6) = icmp_Build_p.T6 := by kernel_rfl
theorem icmp_Build_p.bits6 : waitsOk icmp_Build_p.T6.2 icmp_Build_p.B6 = true := by kernel_rfl
set_option maxHeartbeats 8000000 in
set_option maxRecDepth 100000 in
theorem icmp_Build_p.calls (a0_0 : Int) (a0_1 : Int) (a0_2 : Int) (a0_3 : ByteArray) (r1 : ByteArray) (r2 : Int) (w : World) (h : icmp_Build_p.f a0_0 a0_1 a0_2 a0_3 = some (r1, r2)) :
    Calls Try.prog 22 #[.agg #[.int .i64 a0_0, .int .i64 a0_1, .int .u32 a0_2, .string a0_3]] w fun e w' => e = .returned (.tuple #[.string r1, .int .i64 r2]) ∧ Below w.heap.size w w' := by
  have hu45 := Try.underlying45
  have HB := Aside0.mk (Below.refl w.heap.size w)
  have H : ((icmp_Message_bytes.f a0_0 a0_1 a0_2 a0_3 0).bind fun bt225 => (if bt225.2 = true then (if (bt225.1.size : Int) > 1500 then (some ((⟨#[]⟩ : ByteArray), 18)) else ((cksum_Check.f bt225.1).bind fun t227 => ((icmp_Message_bytes.f a0_0 a0_1 a0_2 a0_3 t227).bind fun bt228 => (some (bt228.1, 0))))) else (some ((⟨#[]⟩ : ByteArray), 1)))) = some (r1, r2) := h
  clear h
  replace H := Option.bind_eq_some_iff.mp H
  obtain ⟨⟨t225, t226⟩, A20, H⟩ := H
  replace H : (if t226 = true then (if (t225.size : Int) > 1500 then (some ((⟨#[]⟩ : ByteArray), 18)) else ((cksum_Check.f t225).bind fun t227 => ((icmp_Message_bytes.f a0_0 a0_1 a0_2 a0_3 t227).bind fun bt228 => (some (bt228.1, 0))))) else (some ((⟨#[]⟩ : ByteArray), 1))) = some (r1, r2) := H
  have A2 := Aside0.mk A20
  clear A20
  by_cases c3 : t226 = true
  · subst c3
    have H1 : (if (t225.size : Int) > 1500 then (some ((⟨#[]⟩ : ByteArray), 18)) else ((cksum_Check.f t225).bind fun t227 => ((icmp_Message_bytes.f a0_0 a0_1 a0_2 a0_3 t227).bind fun bt228 => (some (bt228.1, 0))))) = some (r1, r2) := by rw [if_pos rfl] at H; exact H
    clear H
    have H := H1
    clear H1
    by_cases c4 : (t225.size : Int) > 1500
    · rw [if_pos c4] at H
      have c4b0 : decide (1500 < (t225.size : Int)) = true := decide_eq_true c4
      have c4b1 : decide (1500 < t225.size) = true := decide_eq_true (by omega)
      clear c4
      simp only [Option.some.injEq, Prod.mk.injEq] at H
      obtain ⟨rfl, rfl⟩ := H
      go_enter Try.func22, Try.ntmps22
      go_wp2_with (first | ((with_reducible refine gate_dst (N := 1) rfl ?_); refine box_event ?hg (N := 1) ?hd (cs := #[.int .i64 a0_0, .int .i64 a0_1, .int .u32 a0_2, .string a0_3]) (t := 45) ?hr ?_; (case hd => rfl); (case hg => rfl); (case hr => first | (go_simp; done) | (go_simp; rfl)); intro gb224 hg w5 hbox hb; have n0_ := Aside0.mk (below_step (by repeat (first | (with_reducible first | exact HB.out | apply below_alloc | apply pw_below_drewN | apply below_drew1) | exact HB.out)) hb); have n1_ := Aside0.mk (hbox); have n2_ := Aside0.mk ((by rw [hg]; exact (below_size (by repeat (first | (with_reducible first | exact HB.out | apply below_alloc | apply pw_below_drewN | apply below_drew1) | exact HB.out))) : w.heap.size ≤ gb224)); have n3_ := Aside0.mk ((by rw [hg]; exact (below_size (by repeat (first | (with_reducible first | exact HB.out | apply below_alloc | apply pw_below_drewN | apply below_drew1) | exact HB.out))) : w.heap.size ≤ gb224)); clear HB; have HB := n0_; have BK224 := n1_; have GW224 := n2_; have GE224 := n3_; clear n0_ n1_ n2_ n3_; clear hb hbox hg; have hcz6_0 : w5.cell? ⟨gb224, 0, none⟩ = some (.int .i64 a0_0) := (blk_cell BK224.out 0).trans rfl; have hcz6_1 : w5.cell? ⟨gb224, 1, none⟩ = some (.int .i64 a0_1) := (blk_cell BK224.out 1).trans rfl; have hcz6_2 : w5.cell? ⟨gb224, 2, none⟩ = some (.int .u32 a0_2) := (blk_cell BK224.out 2).trans rfl; have hcz6_3 : w5.cell? ⟨gb224, 3, none⟩ = some (.string a0_3) := (blk_cell BK224.out 3).trans rfl; have hfz6_0 := blk_frozen BK224.out 0; have hfz6_1 := blk_frozen BK224.out 1; have hfz6_2 := blk_frozen BK224.out 2; have hfz6_3 := blk_frozen BK224.out 3) | ((with_reducible refine gate_callee (f := 35) rfl ?_); refine goesL_ (some 8) rfl rfl Try.func35 (by kernel_rfl) rfl #[.agg #[.int .i64 a0_0, .int .i64 a0_1, .int .u32 a0_2, .string a0_3], .int .u16 0] rfl (by (try simp only [List.map_toArray, List.map_cons, List.map_nil]); first | done | rfl | (simp only [List.length_drop, List.length_take]; rfl)) ?_; (with_reducible refine (icmp_Message_bytes.calls a0_0 a0_1 a0_2 a0_3 0 t225 true _ A2.out).mono ?_); rintro e w7 ⟨rfl, hb⟩; (try clear A2); refine ⟨_, rfl, ?_⟩; have n0_ := Aside0.mk (blk_below (g := gb224) (o := .cells #[.int .i64 a0_0, .int .i64 a0_1, .int .u32 a0_2, .string a0_3] 45 (0, 0)) (by (with_reducible repeat (first | refine blk_drewN ?_ _ | refine blk_drew ?_ | refine blk_alloc ?_ _)); exact BK224.out) hb); have n1_ := Aside0.mk (below_step (by repeat (first | (with_reducible first | exact HB.out | apply below_alloc | apply pw_below_drewN | apply below_drew1 | refine below_set ?_ GE224.out) | exact HB.out)) hb); clear BK224; clear HB; have BK224 := n0_; have HB := n1_; clear n0_ n1_; (try clear hb); (try clear hb2); (try clear hk); (try clear hi)))
      go_ret2
      exact ⟨by first | rfl | (simp [errW_none, errW_some] <;> rfl) | (simp [*, errW_none, errW_some] <;> rfl), by repeat (first | (with_reducible first | exact HB.out | apply below_alloc | apply pw_below_drewN | apply below_drew1 | refine below_set ?_ GE224.out) | exact HB.out)⟩
    · rw [if_neg c4] at H
      have c4b0 : decide (1500 < (t225.size : Int)) = false := decide_eq_false c4
      have c4b1 : decide (1500 < t225.size) = false := decide_eq_false (by omega)
      clear c4
      replace H := Option.bind_eq_some_iff.mp H
      obtain ⟨t227, A80, H⟩ := H
      replace H : ((icmp_Message_bytes.f a0_0 a0_1 a0_2 a0_3 t227).bind fun bt228 => (some (bt228.1, 0))) = some (r1, r2) := H
      have A8 := Aside0.mk A80
      clear A80
      replace H := Option.bind_eq_some_iff.mp H
      obtain ⟨⟨t228, t229⟩, A90, H⟩ := H
      replace H : (some (t228, 0)) = some (r1, r2) := H
      have A9 := Aside0.mk A90
      clear A90
      simp only [Option.some.injEq, Prod.mk.injEq] at H
      obtain ⟨rfl, rfl⟩ := H
      go_enter Try.func22, Try.ntmps22
      try go_wp2_with (first | ((with_reducible refine gate_dst (N := 1) rfl ?_); refine box_event ?hg (N := 1) ?hd (cs := #[.int .i64 a0_0, .int .i64 a0_1, .int .u32 a0_2, .string a0_3]) (t := 45) ?hr ?_; (case hd => rfl); (case hg => rfl); (case hr => first | (go_simp; done) | (go_simp; rfl)); intro gb224 hg w10 hbox hb; have n0_ := Aside0.mk (below_step (by repeat (first | (with_reducible first | exact HB.out | apply below_alloc | apply pw_below_drewN | apply below_drew1) | exact HB.out)) hb); have n1_ := Aside0.mk (hbox); have n2_ := Aside0.mk ((by rw [hg]; exact (below_size (by repeat (first | (with_reducible first | exact HB.out | apply below_alloc | apply pw_below_drewN | apply below_drew1) | exact HB.out))) : w.heap.size ≤ gb224)); have n3_ := Aside0.mk ((by rw [hg]; exact (below_size (by repeat (first | (with_reducible first | exact HB.out | apply below_alloc | apply pw_below_drewN | apply below_drew1) | exact HB.out))) : w.heap.size ≤ gb224)); clear HB; have HB := n0_; have BK224 := n1_; have GW224 := n2_; have GE224 := n3_; clear n0_ n1_ n2_ n3_; clear hb hbox hg; have hcz11_0 : w10.cell? ⟨gb224, 0, none⟩ = some (.int .i64 a0_0) := (blk_cell BK224.out 0).trans rfl; have hcz11_1 : w10.cell? ⟨gb224, 1, none⟩ = some (.int .i64 a0_1) := (blk_cell BK224.out 1).trans rfl; have hcz11_2 : w10.cell? ⟨gb224, 2, none⟩ = some (.int .u32 a0_2) := (blk_cell BK224.out 2).trans rfl; have hcz11_3 : w10.cell? ⟨gb224, 3, none⟩ = some (.string a0_3) := (blk_cell BK224.out 3).trans rfl; have hfz11_0 := blk_frozen BK224.out 0; have hfz11_1 := blk_frozen BK224.out 1; have hfz11_2 := blk_frozen BK224.out 2; have hfz11_3 := blk_frozen BK224.out 3) | ((with_reducible refine gate_callee (f := 35) rfl ?_); refine goesL_ (some 8) rfl rfl Try.func35 (by kernel_rfl) rfl #[.agg #[.int .i64 a0_0, .int .i64 a0_1, .int .u32 a0_2, .string a0_3], .int .u16 0] rfl (by (try simp only [List.map_toArray, List.map_cons, List.map_nil]); first | done | rfl | (simp only [List.length_drop, List.length_take]; rfl)) ?_; (with_reducible refine (icmp_Message_bytes.calls a0_0 a0_1 a0_2 a0_3 0 t225 true _ A2.out).mono ?_); rintro e w12 ⟨rfl, hb⟩; (try clear A2); refine ⟨_, rfl, ?_⟩; have n0_ := Aside0.mk (blk_below (g := gb224) (o := .cells #[.int .i64 a0_0, .int .i64 a0_1, .int .u32 a0_2, .string a0_3] 45 (0, 0)) (by (with_reducible repeat (first | refine blk_drewN ?_ _ | refine blk_drew ?_ | refine blk_alloc ?_ _)); exact BK224.out) hb); have n1_ := Aside0.mk (below_step (by repeat (first | (with_reducible first | exact HB.out | apply below_alloc | apply pw_below_drewN | apply below_drew1 | refine below_set ?_ GE224.out) | exact HB.out)) hb); clear BK224; clear HB; have BK224 := n0_; have HB := n1_; clear n0_ n1_; (try clear hb); (try clear hb2); (try clear hk); (try clear hi)))
      have n0_ := Aside0.mk (blk_drew BK224.out)
      have n1_ := Aside0.mk (below_drew1 HB.out)
      clear BK224
      clear HB
      have BK224 := n0_
      have HB := n1_
      clear n0_ n1_
      refine start_ (n := 8) (S := fun w' => w'.cell? ⟨gb224, 0, none⟩ = some (.int .i64 a0_0) ∧ w'.cell? ⟨gb224, 1, none⟩ = some (.int .i64 a0_1) ∧ w'.cell? ⟨gb224, 2, none⟩ = some (.int .u32 a0_2) ∧ w'.cell? ⟨gb224, 3, none⟩ = some (.string a0_3)) (ds := []) #[false, false, false, false, false, false, false, false] (by kernel_rfl) rfl rfl ⟨(blk_cell BK224.out 0).trans rfl, (blk_cell BK224.out 1).trans rfl, (blk_cell BK224.out 2).trans rfl, (blk_cell BK224.out 3).trans rfl⟩ (fun hHeld => ?_); refine with_tabW icmp_Build_p.tab6 icmp_Build_p.bits6 (fun HT_ HW_ => ?_)
      generalize w12.drew = w13 at BK224 HB hHeld ⊢
      refine pure_ (i := 1) (N := some 18) (v := ?_) (a' := ?_) #[false, true, false, false, false, false, false, false] rfl rfl (any_of HT_.out (by kernel_rfl)) (fun _ _ _ h => h) (Or.inl ⟨by rfl, ?_⟩) ?_ ?_
      rotate_left
      · intro w'
        go_simp
        with_reducible rfl
      rotate_left
      · simp only [Act.put, List.setIfInBounds_toArray, List.set_cons_zero, List.set_cons_succ, i64_w, i32_w]
        rfl
      refine take_ (i := 0) (N := some 17) (v := ?_) (a' := ?_) #[true, true, false, false, false, false, false, false] rfl rfl (take_ofW HT_.out HW_.out (by kernel_rfl)) (fun _ _ _ h => h) (Or.inl ⟨by rfl, ?_⟩) hHeld ?_ ?_
      rotate_left
      · rintro w' ⟨s0, s1, s2, s3⟩
        go_simp
        with_reducible rfl
      rotate_left
      · simp only [Act.put, List.setIfInBounds_toArray, List.set_cons_zero, List.set_cons_succ, i64_w, i32_w]
        rfl
      refine one_ (i := 2) (N := some 19) #[true, true, true, false, false, false, false, false] rfl rfl (one_of HT_.out (by kernel_rfl)) (by decide) (fun K hK => ?_)
      refine goes_ Try.func36 (by kernel_rfl) rfl #[.string t225] (by rfl) rfl rfl (by (try simp only [List.map_toArray, List.map_cons, List.map_nil]); first | done | rfl | (simp only [List.length_drop, List.length_take]; rfl)) ?_
      with_reducible refine (cksum_Check.calls t225 t227 _ A8.out).mono ?_
      rintro e w14 ⟨rfl, hb⟩
      refine ⟨_, rfl, ?_⟩
      have n0_ := Aside0.mk (blk_below (g := gb224) (o := .cells #[.int .i64 a0_0, .int .i64 a0_1, .int .u32 a0_2, .string a0_3] 45 (0, 0)) (by (with_reducible repeat (first | refine blk_drewN ?_ _ | refine blk_drew ?_ | refine blk_alloc ?_ _)); exact BK224.out) hb)
      have n1_ := Aside0.mk (below_step (by repeat (first | (with_reducible first | exact HB.out | apply below_alloc | apply pw_below_drewN | apply below_drew1 | refine below_set ?_ GE224.out) | exact HB.out)) hb)
      clear BK224
      clear HB
      have BK224 := n0_
      have HB := n1_
      clear n0_ n1_
      (try clear hb)
      (try clear hb2)
      (try clear hk)
      (try clear hi)
      refine hK.out _ _ ⟨(blk_cell BK224.out 0).trans rfl, (blk_cell BK224.out 1).trans rfl, (blk_cell BK224.out 2).trans rfl, (blk_cell BK224.out 3).trans rfl⟩ (fun hHeld => ?_)
      clear hK K
      refine norm_ (a' := ?_) ?_ ?_
      rotate_left
      · show Act.put _ (some 19) _ = _
        simp only [Act.put, List.setIfInBounds_toArray, List.set_cons_zero, List.set_cons_succ, i64_w, i32_w]
        rfl
      refine one_ (i := 3) (N := some 20) #[true, true, true, true, false, false, false, false] rfl rfl (one_of HT_.out (by kernel_rfl)) (by decide) (fun K hK => ?_)
      refine goes_ Try.func35 (by kernel_rfl) rfl #[.agg #[.int .i64 a0_0, .int .i64 a0_1, .int .u32 a0_2, .string a0_3], .int .u16 t227] (by rfl) rfl rfl (by (try simp only [List.map_toArray, List.map_cons, List.map_nil]); first | done | rfl | (simp only [List.length_drop, List.length_take]; rfl)) ?_
      with_reducible refine (icmp_Message_bytes.calls a0_0 a0_1 a0_2 a0_3 t227 t228 t229 _ A9.out).mono ?_
      rintro e w15 ⟨rfl, hb⟩
      refine ⟨_, rfl, ?_⟩
      have n0_ := Aside0.mk (blk_below (g := gb224) (o := .cells #[.int .i64 a0_0, .int .i64 a0_1, .int .u32 a0_2, .string a0_3] 45 (0, 0)) (by (with_reducible repeat (first | refine blk_drewN ?_ _ | refine blk_drew ?_ | refine blk_alloc ?_ _)); exact BK224.out) hb)
      have n1_ := Aside0.mk (below_step (by repeat (first | (with_reducible first | exact HB.out | apply below_alloc | apply pw_below_drewN | apply below_drew1 | refine below_set ?_ GE224.out) | exact HB.out)) hb)
      clear BK224
      clear HB
      have BK224 := n0_
      have HB := n1_
      clear n0_ n1_
      (try clear hb)
      (try clear hb2)
      (try clear hk)
      (try clear hi)
      refine hK.out _ _ ⟨(blk_cell BK224.out 0).trans rfl, (blk_cell BK224.out 1).trans rfl, (blk_cell BK224.out 2).trans rfl, (blk_cell BK224.out 3).trans rfl⟩ (fun hHeld => ?_)
      clear hK K
      refine norm_ (a' := ?_) ?_ ?_
      rotate_left
      · show Act.put _ (some 20) _ = _
        simp only [Act.put, List.setIfInBounds_toArray, List.set_cons_zero, List.set_cons_succ, i64_w, i32_w]
        rfl
      refine pure_ (i := 4) (N := some 16) (v := ?_) (a' := ?_) #[true, true, true, true, true, false, false, false] rfl rfl (any_of HT_.out (by kernel_rfl)) (fun _ _ _ h => h) (Or.inl ⟨by rfl, ?_⟩) ?_ ?_
      rotate_left
      · intro w'
        go_simp
        with_reducible rfl
      rotate_left
      · simp only [Act.put, List.setIfInBounds_toArray, List.set_cons_zero, List.set_cons_succ, i64_w, i32_w]
        rfl
      refine pure_ (i := 5) (N := some 21) (v := ?_) (a' := ?_) #[true, true, true, true, true, true, false, false] rfl rfl (any_of HT_.out (by kernel_rfl)) (fun _ _ _ h => h) (Or.inl ⟨by rfl, ?_⟩) ?_ ?_
      rotate_left
      · intro w'
        go_simp
        with_reducible rfl
      rotate_left
      · simp only [Act.put, List.setIfInBounds_toArray, List.set_cons_zero, List.set_cons_succ, i64_w, i32_w]
        rfl
      refine pure_ (i := 6) (N := some 22) (v := ?_) (a' := ?_) #[true, true, true, true, true, true, true, false] rfl rfl (any_of HT_.out (by kernel_rfl)) (fun _ _ _ h => h) (Or.inl ⟨by rfl, ?_⟩) ?_ ?_
      rotate_left
      · intro w'
        go_simp
        with_reducible rfl
      rotate_left
      · simp only [Act.put, List.setIfInBounds_toArray, List.set_cons_zero, List.set_cons_succ, i64_w, i32_w]
        rfl
      refine pure_ (i := 7) (N := some 4) (v := ?_) (a' := ?_) #[true, true, true, true, true, true, true, true] rfl rfl (any_of HT_.out (by kernel_rfl)) (fun _ _ _ h => h) (Or.inl ⟨by rfl, ?_⟩) ?_ ?_
      rotate_left
      · intro w'
        go_simp
        with_reducible rfl
      rotate_left
      · simp only [Act.put, List.setIfInBounds_toArray, List.set_cons_zero, List.set_cons_succ, i64_w, i32_w]
        rfl
      refine done_ (done_of HT_.out (by kernel_rfl)) ?_
      try go_wp2
      go_ret2
      exact ⟨by first | rfl | (simp [errW_none, errW_some] <;> rfl) | (simp [*, errW_none, errW_some] <;> rfl), by repeat (first | (with_reducible first | exact HB.out | apply below_alloc | apply pw_below_drewN | apply below_drew1 | refine below_set ?_ GE224.out) | exact HB.out)⟩
  · replace c3 := Bool.eq_false_iff.mpr c3
    subst c3
    have H1 : (some ((⟨#[]⟩ : ByteArray), 1)) = some (r1, r2) := by rw [if_neg (show ¬ (false = true) by decide)] at H; exact H
    clear H
    have H := H1
    clear H1
    simp only [Option.some.injEq, Prod.mk.injEq] at H
    obtain ⟨rfl, rfl⟩ := H
    go_enter Try.func22, Try.ntmps22
    go_wp2_with (first | ((with_reducible refine gate_dst (N := 1) rfl ?_); refine box_event ?hg (N := 1) ?hd (cs := #[.int .i64 a0_0, .int .i64 a0_1, .int .u32 a0_2, .string a0_3]) (t := 45) ?hr ?_; (case hd => rfl); (case hg => rfl); (case hr => first | (go_simp; done) | (go_simp; rfl)); intro gb224 hg w16 hbox hb; have n0_ := Aside0.mk (below_step (by repeat (first | (with_reducible first | exact HB.out | apply below_alloc | apply pw_below_drewN | apply below_drew1) | exact HB.out)) hb); have n1_ := Aside0.mk (hbox); have n2_ := Aside0.mk ((by rw [hg]; exact (below_size (by repeat (first | (with_reducible first | exact HB.out | apply below_alloc | apply pw_below_drewN | apply below_drew1) | exact HB.out))) : w.heap.size ≤ gb224)); have n3_ := Aside0.mk ((by rw [hg]; exact (below_size (by repeat (first | (with_reducible first | exact HB.out | apply below_alloc | apply pw_below_drewN | apply below_drew1) | exact HB.out))) : w.heap.size ≤ gb224)); clear HB; have HB := n0_; have BK224 := n1_; have GW224 := n2_; have GE224 := n3_; clear n0_ n1_ n2_ n3_; clear hb hbox hg; have hcz17_0 : w16.cell? ⟨gb224, 0, none⟩ = some (.int .i64 a0_0) := (blk_cell BK224.out 0).trans rfl; have hcz17_1 : w16.cell? ⟨gb224, 1, none⟩ = some (.int .i64 a0_1) := (blk_cell BK224.out 1).trans rfl; have hcz17_2 : w16.cell? ⟨gb224, 2, none⟩ = some (.int .u32 a0_2) := (blk_cell BK224.out 2).trans rfl; have hcz17_3 : w16.cell? ⟨gb224, 3, none⟩ = some (.string a0_3) := (blk_cell BK224.out 3).trans rfl; have hfz17_0 := blk_frozen BK224.out 0; have hfz17_1 := blk_frozen BK224.out 1; have hfz17_2 := blk_frozen BK224.out 2; have hfz17_3 := blk_frozen BK224.out 3) | ((with_reducible refine gate_callee (f := 35) rfl ?_); refine goesL_ (some 8) rfl rfl Try.func35 (by kernel_rfl) rfl #[.agg #[.int .i64 a0_0, .int .i64 a0_1, .int .u32 a0_2, .string a0_3], .int .u16 0] rfl (by (try simp only [List.map_toArray, List.map_cons, List.map_nil]); first | done | rfl | (simp only [List.length_drop, List.length_take]; rfl)) ?_; (with_reducible refine (icmp_Message_bytes.calls a0_0 a0_1 a0_2 a0_3 0 t225 false _ A2.out).mono ?_); rintro e w18 ⟨rfl, hb⟩; (try clear A2); refine ⟨_, rfl, ?_⟩; have n0_ := Aside0.mk (blk_below (g := gb224) (o := .cells #[.int .i64 a0_0, .int .i64 a0_1, .int .u32 a0_2, .string a0_3] 45 (0, 0)) (by (with_reducible repeat (first | refine blk_drewN ?_ _ | refine blk_drew ?_ | refine blk_alloc ?_ _)); exact BK224.out) hb); have n1_ := Aside0.mk (below_step (by repeat (first | (with_reducible first | exact HB.out | apply below_alloc | apply pw_below_drewN | apply below_drew1 | refine below_set ?_ GE224.out) | exact HB.out)) hb); clear BK224; clear HB; have BK224 := n0_; have HB := n1_; clear n0_ n1_; (try clear hb); (try clear hb2); (try clear hk); (try clear hi)))
    go_ret2
    exact ⟨by first | rfl | (simp [errW_none, errW_some] <;> rfl) | (simp [*, errW_none, errW_some] <;> rfl), by repeat (first | (with_reducible first | exact HB.out | apply below_alloc | apply pw_below_drewN | apply below_drew1 | refine below_set ?_ GE224.out) | exact HB.out)⟩

def icmp_Build.f (a0_0 a0_1 a0_2 : Int) (a0_3 : ByteArray) : Option (ByteArray × Int) := if 0 ≤ a0_2 ∧ a0_2 ≤ 4294967295 ∧ a0_3.size ≤ 140737488355328 then some (lb (Sp.icmpBuild a0_0 a0_1 a0_2 (bl a0_3)).1, (Sp.icmpBuild a0_0 a0_1 a0_2 (bl a0_3)).2) else none
theorem icmp_Build_eq {a0_0 a0_1 a0_2 : Int} {a0_3 : ByteArray} (h0 : 0 ≤ a0_2 ∧ a0_2 ≤ 4294967295) (h1 : a0_3.size ≤ 140737488355328) : icmp_Build.f a0_0 a0_1 a0_2 a0_3 = some (lb (Sp.icmpBuild a0_0 a0_1 a0_2 (bl a0_3)).1, (Sp.icmpBuild a0_0 a0_1 a0_2 (bl a0_3)).2) := by
  unfold icmp_Build.f; exact if_pos ⟨h0.1, h0.2, h1⟩
theorem icmp_Build_ev (a0_0 a0_1 a0_2 : Int) (a0_3 : ByteArray) (r : ByteArray × Int) (h : icmp_Build.f a0_0 a0_1 a0_2 a0_3 = some r) : icmp_Build_p.f a0_0 a0_1 a0_2 a0_3 = some r := by
  unfold icmp_Build.f at h
  split at h
  case isFalse => cases h
  case isTrue hs =>
    rw [← h]
    unfold icmp_Build_p.f Sp.icmpBuild
    rw [icmp_Message_bytes_eq ⟨hs.1, hs.2.1⟩ (by decide) (by omega), Option.bind_some]
    by_cases hf : Sp.fits 1 a0_0 = true ∧ Sp.fits 1 a0_1 = true
    · have hl := Sp.icmpBytes_length (r := a0_2) (b := bl a0_3) (ck := 0) hf
      have h2 : (Sp.icmpBytes a0_0 a0_1 a0_2 (bl a0_3) 0).2 = true := by rw [Sp.icmpBytes_yes hf]
      have hc := Sp.check_bounds (Sp.icmpBytes a0_0 a0_1 a0_2 (bl a0_3) 0).1
      rw [bl_length] at hl
      rw [if_pos h2, if_pos hf, bl_length]
      show (if ((lb (Sp.icmpBytes a0_0 a0_1 a0_2 (bl a0_3) 0).1).size : Int) > 1500 then _ else (cksum_Check.f (lb (Sp.icmpBytes a0_0 a0_1 a0_2 (bl a0_3) 0).1)).bind _) = _
      rw [cksum_Check_eq (by rw [lb_size]; omega), Option.bind_some, bl_lb, lb_size, hl]
      by_cases hz : 8 + (a0_3.size : Int) > 1500
      · rw [if_pos (by omega), if_pos hz]; rfl
      · rw [if_neg (by omega), if_neg hz, icmp_Message_bytes_eq ⟨hs.1, hs.2.1⟩ hc (by omega), Option.bind_some]
    · have h2 : ¬ (Sp.icmpBytes a0_0 a0_1 a0_2 (bl a0_3) 0).2 = true := by rw [Sp.icmpBytes_no hf]; decide
      rw [if_neg h2, if_neg hf]; rfl

theorem icmp_Build.calls (a0_0 : Int) (a0_1 : Int) (a0_2 : Int) (a0_3 : ByteArray) (r1 : ByteArray) (r2 : Int) (w : World) (h : icmp_Build.f a0_0 a0_1 a0_2 a0_3 = some (r1, r2)) :
    Calls Try.prog 22 #[.agg #[.int .i64 a0_0, .int .i64 a0_1, .int .u32 a0_2, .string a0_3]] w fun e w' => e = .returned (.tuple #[.string r1, .int .i64 r2]) ∧ Below w.heap.size w w' := by
  have hk := icmp_Build_ev a0_0 a0_1 a0_2 a0_3 _ h
  exact icmp_Build_p.calls a0_0 a0_1 a0_2 a0_3 r1 r2 w hk

/-! ### icmp_MTU: function 25 -/
def icmp_MTU.f (a0_0 : Int) (a0_1 : Int) (a0_2 : Int) (a0_3 : ByteArray) : Option (Int × Bool) := if (!(a0_0 == 3) || (!(a0_1 == 4))) = true then (some (0, false)) else (some (wrap64 (Go.bits .and .u32 a0_2 65535), true))
set_option maxHeartbeats 8000000 in
set_option maxRecDepth 100000 in
theorem icmp_MTU.calls (a0_0 : Int) (a0_1 : Int) (a0_2 : Int) (a0_3 : ByteArray) (r1 : Int) (r2 : Bool) (w : World) (h : icmp_MTU.f a0_0 a0_1 a0_2 a0_3 = some (r1, r2)) :
    Calls Try.prog 25 #[.agg #[.int .i64 a0_0, .int .i64 a0_1, .int .u32 a0_2, .string a0_3]] w fun e w' => e = .returned (.tuple #[.int .i64 r1, .bool r2]) ∧ Below w.heap.size w w' := by
  have hu45 := Try.underlying45
  have hu69 := Try.underlying69
  have HB := Aside0.mk (Below.refl w.heap.size w)
  have H : (if (!(a0_0 == 3) || (!(a0_1 == 4))) = true then (some (0, false)) else (some (wrap64 (Go.bits .and .u32 a0_2 65535), true))) = some (r1, r2) := h
  clear h
  by_cases c2 : (!(a0_0 == 3) || (!(a0_1 == 4))) = true
  · rw [if_pos c2] at H
    have c2b0 : (!(a0_0 == 3) || (!(a0_1 == 4))) = true := c2
    clear c2
    simp only [Option.some.injEq, Prod.mk.injEq] at H
    obtain ⟨rfl, rfl⟩ := H
    go_enter Try.func25, Try.ntmps25
    go_wp2_with (first | ((with_reducible refine gate_dst (N := 1) rfl ?_); refine box_event ?hg (N := 1) ?hd (cs := #[.int .i64 a0_0, .int .i64 a0_1, .int .u32 a0_2, .string a0_3]) (t := 45) ?hr ?_; (case hd => rfl); (case hg => rfl); (case hr => first | (go_simp; done) | (go_simp; rfl)); intro gb230 hg w3 hbox hb; have n0_ := Aside0.mk (below_step (by repeat (first | (with_reducible first | exact HB.out | apply below_alloc | apply pw_below_drewN | apply below_drew1) | exact HB.out)) hb); have n1_ := Aside0.mk (hbox); have n2_ := Aside0.mk ((by rw [hg]; exact (below_size (by repeat (first | (with_reducible first | exact HB.out | apply below_alloc | apply pw_below_drewN | apply below_drew1) | exact HB.out))) : w.heap.size ≤ gb230)); have n3_ := Aside0.mk ((by rw [hg]; exact (below_size (by repeat (first | (with_reducible first | exact HB.out | apply below_alloc | apply pw_below_drewN | apply below_drew1) | exact HB.out))) : w.heap.size ≤ gb230)); clear HB; have HB := n0_; have BK230 := n1_; have GW230 := n2_; have GE230 := n3_; clear n0_ n1_ n2_ n3_; clear hb hbox hg; have hcz4_0 : w3.cell? ⟨gb230, 0, none⟩ = some (.int .i64 a0_0) := (blk_cell BK230.out 0).trans rfl; have hcz4_1 : w3.cell? ⟨gb230, 1, none⟩ = some (.int .i64 a0_1) := (blk_cell BK230.out 1).trans rfl; have hcz4_2 : w3.cell? ⟨gb230, 2, none⟩ = some (.int .u32 a0_2) := (blk_cell BK230.out 2).trans rfl; have hcz4_3 : w3.cell? ⟨gb230, 3, none⟩ = some (.string a0_3) := (blk_cell BK230.out 3).trans rfl; have hfz4_0 := blk_frozen BK230.out 0; have hfz4_1 := blk_frozen BK230.out 1; have hfz4_2 := blk_frozen BK230.out 2; have hfz4_3 := blk_frozen BK230.out 3))
    go_ret2
    exact ⟨by first | rfl | (simp [errW_none, errW_some] <;> rfl) | (simp [*, errW_none, errW_some] <;> rfl), by repeat (first | (with_reducible first | exact HB.out | apply below_alloc | apply pw_below_drewN | apply below_drew1 | refine below_set ?_ GE230.out) | exact HB.out)⟩
  · rw [if_neg c2] at H
    have c2b0 : (!(a0_0 == 3) || (!(a0_1 == 4))) = false := by simpa using c2
    clear c2
    simp only [Option.some.injEq, Prod.mk.injEq] at H
    obtain ⟨rfl, rfl⟩ := H
    go_enter Try.func25, Try.ntmps25
    go_wp2_with (first | ((with_reducible refine gate_dst (N := 1) rfl ?_); refine box_event ?hg (N := 1) ?hd (cs := #[.int .i64 a0_0, .int .i64 a0_1, .int .u32 a0_2, .string a0_3]) (t := 45) ?hr ?_; (case hd => rfl); (case hg => rfl); (case hr => first | (go_simp; done) | (go_simp; rfl)); intro gb230 hg w5 hbox hb; have n0_ := Aside0.mk (below_step (by repeat (first | (with_reducible first | exact HB.out | apply below_alloc | apply pw_below_drewN | apply below_drew1) | exact HB.out)) hb); have n1_ := Aside0.mk (hbox); have n2_ := Aside0.mk ((by rw [hg]; exact (below_size (by repeat (first | (with_reducible first | exact HB.out | apply below_alloc | apply pw_below_drewN | apply below_drew1) | exact HB.out))) : w.heap.size ≤ gb230)); have n3_ := Aside0.mk ((by rw [hg]; exact (below_size (by repeat (first | (with_reducible first | exact HB.out | apply below_alloc | apply pw_below_drewN | apply below_drew1) | exact HB.out))) : w.heap.size ≤ gb230)); clear HB; have HB := n0_; have BK230 := n1_; have GW230 := n2_; have GE230 := n3_; clear n0_ n1_ n2_ n3_; clear hb hbox hg; have hcz6_0 : w5.cell? ⟨gb230, 0, none⟩ = some (.int .i64 a0_0) := (blk_cell BK230.out 0).trans rfl; have hcz6_1 : w5.cell? ⟨gb230, 1, none⟩ = some (.int .i64 a0_1) := (blk_cell BK230.out 1).trans rfl; have hcz6_2 : w5.cell? ⟨gb230, 2, none⟩ = some (.int .u32 a0_2) := (blk_cell BK230.out 2).trans rfl; have hcz6_3 : w5.cell? ⟨gb230, 3, none⟩ = some (.string a0_3) := (blk_cell BK230.out 3).trans rfl; have hfz6_0 := blk_frozen BK230.out 0; have hfz6_1 := blk_frozen BK230.out 1; have hfz6_2 := blk_frozen BK230.out 2; have hfz6_3 := blk_frozen BK230.out 3))
    go_ret2
    exact ⟨by first | rfl | (simp [errW_none, errW_some] <;> rfl) | (simp [*, errW_none, errW_some] <;> rfl), by repeat (first | (with_reducible first | exact HB.out | apply below_alloc | apply pw_below_drewN | apply below_drew1 | refine below_set ?_ GE230.out) | exact HB.out)⟩

/-! ### icmp_Error: function 27 -/
def icmp_Error.f (a0 : Int) : Option (Bool) := if a0 = 3 then (some true) else (if a0 = 11 then (some true) else (if a0 = 12 then (some true) else (some false)))
set_option maxHeartbeats 8000000 in
set_option maxRecDepth 100000 in
theorem icmp_Error.calls (a0 : Int) (r : Bool) (w : World) (h : icmp_Error.f a0 = some r) :
    Calls Try.prog 27 #[.int .i64 a0] w fun e w' => e = .returned (.bool r) ∧ Drawn0 w w' := by
  have H : (if a0 = 3 then (some true) else (if a0 = 11 then (some true) else (if a0 = 12 then (some true) else (some false)))) = some r := h
  clear h
  by_cases c2 : a0 = 3
  · rw [if_pos c2] at H
    have c2b0 : (a0 == 3) = true := beq_iff_eq.mpr c2
    have c2b1 : (a0 != 3) = false := bne_eq_false_iff_eq.mpr c2
    clear c2
    obtain rfl := Option.some.inj H
    go_enter Try.func27, Try.ntmps27
    go_wp2
    go_ret
    exact ⟨by first | rfl | (simp; done) | (simp [*]; done), by repeat (first | exact Drawn0.refl _ | apply Drawn0.step)⟩
  · rw [if_neg c2] at H
    have c2b0 : (a0 == 3) = false := beq_eq_false_iff_ne.mpr c2
    have c2b1 : (a0 != 3) = true := bne_iff_ne.mpr c2
    by_cases c3 : a0 = 11
    · rw [if_pos c3] at H
      have c3b0 : (a0 == 11) = true := beq_iff_eq.mpr c3
      have c3b1 : (a0 != 11) = false := bne_eq_false_iff_eq.mpr c3
      clear c3
      obtain rfl := Option.some.inj H
      go_enter Try.func27, Try.ntmps27
      go_wp2
      go_ret
      exact ⟨by first | rfl | (simp; done) | (simp [*]; done), by repeat (first | exact Drawn0.refl _ | apply Drawn0.step)⟩
    · rw [if_neg c3] at H
      have c3b0 : (a0 == 11) = false := beq_eq_false_iff_ne.mpr c3
      have c3b1 : (a0 != 11) = true := bne_iff_ne.mpr c3
      by_cases c4 : a0 = 12
      · rw [if_pos c4] at H
        have c4b0 : (a0 == 12) = true := beq_iff_eq.mpr c4
        have c4b1 : (a0 != 12) = false := bne_eq_false_iff_eq.mpr c4
        clear c4
        obtain rfl := Option.some.inj H
        go_enter Try.func27, Try.ntmps27
        go_wp2
        go_ret
        exact ⟨by first | rfl | (simp; done) | (simp [*]; done), by repeat (first | exact Drawn0.refl _ | apply Drawn0.step)⟩
      · rw [if_neg c4] at H
        have c4b0 : (a0 == 12) = false := beq_eq_false_iff_ne.mpr c4
        have c4b1 : (a0 != 12) = true := bne_iff_ne.mpr c4
        obtain rfl := Option.some.inj H
        go_enter Try.func27, Try.ntmps27
        go_wp2
        go_ret
        exact ⟨by first | rfl | (simp; done) | (simp [*]; done), by repeat (first | exact Drawn0.refl _ | apply Drawn0.step)⟩

/-! ### icmp_Parse: function 29 -/
def icmp_Parse.f (a0 : ByteArray) : Option (Int × Int × Int × ByteArray × Int) := (octet_Get.f a0 4 4).bind fun bt232 => (if bt232.2 = true then ((cksum_Sum.f a0).bind fun t234 => (if t234 = 65535 then (if 0 < (a0.size : Int) then (if 1 < (a0.size : Int) then (if 8 ≤ (a0.size : Int) then (some (wrap64 (bt a0 0), wrap64 (bt a0 1), (bt232.1) % 4294967296, a0.extract 8 a0.size, 0)) else (none)) else (none)) else (none)) else (some (0, 0, 0, (⟨#[]⟩ : ByteArray), 7)))) else (some (0, 0, 0, (⟨#[]⟩ : ByteArray), 2)))
def icmp_Parse.T6 : Bool × List (List Nat × List Nat) := (true, [([], []), ([0], [0]), ([1], [1]), ([], []), ([3], [3]), ([4], [4]), ([], []), ([6], [6]), ([], []), ([8], [8]), ([2, 5, 7, 9], [2, 5, 7, 9]), ([10, 0, 1, 2, 3, 4, 5, 6, 7, 8, 9, 10], [10]), ([11, 0, 1, 2, 3, 4, 5, 6, 7, 8, 9, 10, 11], [])])
def icmp_Parse.B6 : List Nat := [0, 1, 3, 0, 8, 24, 0, 64, 0, 256, 1023, 2047, 4095]
theorem icmp_Parse.tab6 : rtab .any (opsOf Try.f29 6) = icmp_Parse.T6 := by kernel_rfl
theorem icmp_Parse.bits6 : waitsOk icmp_Parse.T6.2 icmp_Parse.B6 = true := by kernel_rfl
set_option maxHeartbeats 8000000 in
set_option maxRecDepth 100000 in
theorem icmp_Parse.calls (a0 : ByteArray) (r1 : Int) (r2 : Int) (r3 : Int) (r4 : ByteArray) (r5 : Int) (w : World) (h : icmp_Parse.f a0 = some (r1, r2, r3, r4, r5)) :
    Calls Try.prog 29 #[.string a0] w fun e w' => e = .returned (.tuple #[.agg #[.int .i64 r1, .int .i64 r2, .int .u32 r3, .string r4], .int .i64 r5]) ∧ Below w.heap.size w w' := by
  have hu45 := Try.underlying45
  have HB := Aside0.mk (Below.refl w.heap.size w)
  have H : ((octet_Get.f a0 4 4).bind fun bt232 => (if bt232.2 = true then ((cksum_Sum.f a0).bind fun t234 => (if t234 = 65535 then (if 0 < (a0.size : Int) then (if 1 < (a0.size : Int) then (if 8 ≤ (a0.size : Int) then (some (wrap64 (bt a0 0), wrap64 (bt a0 1), (bt232.1) % 4294967296, a0.extract 8 a0.size, 0)) else (none)) else (none)) else (none)) else (some (0, 0, 0, (⟨#[]⟩ : ByteArray), 7)))) else (some (0, 0, 0, (⟨#[]⟩ : ByteArray), 2)))) = some (r1, r2, r3, r4, r5) := h
  clear h
  replace H := Option.bind_eq_some_iff.mp H
  obtain ⟨⟨t232, t233⟩, A20, H⟩ := H
  replace H : (if t233 = true then ((cksum_Sum.f a0).bind fun t234 => (if t234 = 65535 then (if 0 < (a0.size : Int) then (if 1 < (a0.size : Int) then (if 8 ≤ (a0.size : Int) then (some (wrap64 (bt a0 0), wrap64 (bt a0 1), (t232) % 4294967296, a0.extract 8 a0.size, 0)) else (none)) else (none)) else (none)) else (some (0, 0, 0, (⟨#[]⟩ : ByteArray), 7)))) else (some (0, 0, 0, (⟨#[]⟩ : ByteArray), 2))) = some (r1, r2, r3, r4, r5) := H
  have A2 := Aside0.mk A20
  clear A20
  by_cases c3 : t233 = true
  · subst c3
    have H1 : ((cksum_Sum.f a0).bind fun t234 => (if t234 = 65535 then (if 0 < (a0.size : Int) then (if 1 < (a0.size : Int) then (if 8 ≤ (a0.size : Int) then (some (wrap64 (bt a0 0), wrap64 (bt a0 1), (t232) % 4294967296, a0.extract 8 a0.size, 0)) else (none)) else (none)) else (none)) else (some (0, 0, 0, (⟨#[]⟩ : ByteArray), 7)))) = some (r1, r2, r3, r4, r5) := by rw [if_pos rfl] at H; exact H
    clear H
    have H := H1
    clear H1
    replace H := Option.bind_eq_some_iff.mp H
    obtain ⟨t234, A40, H⟩ := H
    replace H : (if t234 = 65535 then (if 0 < (a0.size : Int) then (if 1 < (a0.size : Int) then (if 8 ≤ (a0.size : Int) then (some (wrap64 (bt a0 0), wrap64 (bt a0 1), (t232) % 4294967296, a0.extract 8 a0.size, 0)) else (none)) else (none)) else (none)) else (some (0, 0, 0, (⟨#[]⟩ : ByteArray), 7))) = some (r1, r2, r3, r4, r5) := H
    have A4 := Aside0.mk A40
    clear A40
    by_cases c5 : t234 = 65535
    · rw [if_pos c5] at H
      have c5b0 : (t234 == 65535) = true := beq_iff_eq.mpr c5
      have c5b1 : (t234 != 65535) = false := bne_eq_false_iff_eq.mpr c5
      clear c5
      by_cases c6 : 0 < (a0.size : Int)
      · rw [if_pos c6] at H
        have c6b0 : decide (0 < (a0.size : Int)) = true := decide_eq_true c6
        have c6b1 : decide (0 < a0.size) = true := decide_eq_true (by omega)
        clear c6
        by_cases c8 : 1 < (a0.size : Int)
        · rw [if_pos c8] at H
          have c8b0 : decide (1 < (a0.size : Int)) = true := decide_eq_true c8
          have c8b1 : decide (1 < a0.size) = true := decide_eq_true (by omega)
          clear c8
          by_cases c10 : 8 ≤ (a0.size : Int)
          · rw [if_pos c10] at H
            have c10b0 := eq_true c10
            have c10b1 : decide (8 ≤ (a0.size : Int)) = true := decide_eq_true c10
            clear c10
            simp only [Option.some.injEq, Prod.mk.injEq] at H
            obtain ⟨rfl, rfl, rfl, rfl, rfl⟩ := H
            go_enter Try.func29, Try.ntmps29
            try go_wp2_with (first | ((with_reducible refine gate_dst (N := 2) rfl ?_); refine box_event ?hg (N := 2) ?hd (cs := #[.int .i64 0, .int .i64 0, .int .u32 0, .string (⟨#[]⟩ : ByteArray)]) (t := 45) ?hr ?_; (case hd => rfl); (case hg => rfl); (case hr => first | (go_simp; done) | (go_simp; rfl)); intro gb231 hg w11 hbox hb; have n0_ := Aside0.mk (below_step (by repeat (first | (with_reducible first | exact HB.out | apply below_alloc | apply pw_below_drewN | apply below_drew1) | exact HB.out)) hb); have n1_ := Aside0.mk (hbox); have n2_ := Aside0.mk ((by rw [hg]; exact (below_size (by repeat (first | (with_reducible first | exact HB.out | apply below_alloc | apply pw_below_drewN | apply below_drew1) | exact HB.out))) : w.heap.size ≤ gb231)); have n3_ := Aside0.mk ((by rw [hg]; exact (below_size (by repeat (first | (with_reducible first | exact HB.out | apply below_alloc | apply pw_below_drewN | apply below_drew1) | exact HB.out))) : w.heap.size ≤ gb231)); clear HB; have HB := n0_; have BK231 := n1_; have GW231 := n2_; have GE231 := n3_; clear n0_ n1_ n2_ n3_; clear hb hbox hg) | ((with_reducible refine gate_callee (f := 33) rfl ?_); refine goesL_ (some 8) rfl rfl Try.func33 (by kernel_rfl) rfl #[.string a0, .int .i64 4, .int .i64 4] rfl (by (try simp only [List.map_toArray, List.map_cons, List.map_nil]); first | done | rfl | (simp only [List.length_drop, List.length_take]; rfl)) ?_; (with_reducible refine (octet_Get.calls a0 4 4 t232 true _ A2.out).mono ?_); rintro e w12 ⟨rfl, hb⟩; (try clear A2); refine ⟨_, rfl, ?_⟩; have n0_ := Aside0.mk (blk_below (g := gb231) (o := .cells #[.int .i64 0, .int .i64 0, .int .u32 0, .string (⟨#[]⟩ : ByteArray)] 45 (0, 0)) (by (with_reducible repeat (first | refine blk_drewN ?_ _ | refine blk_drew ?_ | refine blk_alloc ?_ _)); exact BK231.out) hb); have n1_ := Aside0.mk (below_step (by repeat (first | (with_reducible first | exact HB.out | apply below_alloc | apply pw_below_drewN | apply below_drew1 | refine below_set ?_ GE231.out) | exact HB.out)) hb); clear BK231; clear HB; have BK231 := n0_; have HB := n1_; clear n0_ n1_; (try clear hb); (try clear hb2); (try clear hk); (try clear hi)) | ((with_reducible refine gate_callee (f := 38) rfl ?_); refine goesL_ (some 15) rfl rfl Try.func38 (by kernel_rfl) rfl #[.string a0] rfl (by (try simp only [List.map_toArray, List.map_cons, List.map_nil]); first | done | rfl | (simp only [List.length_drop, List.length_take]; rfl)) ?_; (with_reducible refine (cksum_Sum.calls a0 t234 _ A4.out).mono ?_); rintro e w13 ⟨rfl, hb⟩; (try clear A4); refine ⟨_, rfl, ?_⟩; have n0_ := Aside0.mk (blk_below (g := gb231) (o := .cells #[.int .i64 0, .int .i64 0, .int .u32 0, .string (⟨#[]⟩ : ByteArray)] 45 (0, 0)) (by (with_reducible repeat (first | refine blk_drewN ?_ _ | refine blk_drew ?_ | refine blk_alloc ?_ _)); exact BK231.out) hb); have n1_ := Aside0.mk (below_step (by repeat (first | (with_reducible first | exact HB.out | apply below_alloc | apply pw_below_drewN | apply below_drew1 | refine below_set ?_ GE231.out) | exact HB.out)) hb); clear BK231; clear HB; have BK231 := n0_; have HB := n1_; clear n0_ n1_; (try clear hb); (try clear hb2); (try clear hk); (try clear hi)))
            have n0_ := Aside0.mk (blk_drew BK231.out)
            have n1_ := Aside0.mk (below_drew1 HB.out)
            clear BK231
            clear HB
            have BK231 := n0_
            have HB := n1_
            clear n0_ n1_
            have p7 : 0 ≤ (0 : Int) := (by omega)
            have q7 : 0 < a0.size := (by have : (0 : Int) < (a0.size : Int) := of_decide_eq_true (by first | (with_reducible assumption) | assumption); omega)
            have hx7 : ∀ h : 0 < a0.size, ((a0[0]'h).toNat : Int) = bt a0 0 := bt_at a0 0
            clear p7
            have qi7 : (0 < (a0.size : Int)) = True := eq_true (of_decide_eq_true (by first | (with_reducible assumption) | assumption))
            replace q7 := eq_true q7
            have p9 : 0 ≤ (1 : Int) := (by omega)
            have q9 : 1 < a0.size := (by have : (1 : Int) < (a0.size : Int) := of_decide_eq_true (by first | (with_reducible assumption) | assumption); omega)
            have hx9 : ∀ h : 1 < a0.size, ((a0[1]'h).toNat : Int) = bt a0 1 := bt_at a0 1
            clear p9
            have qi9 : (1 < (a0.size : Int)) = True := eq_true (of_decide_eq_true (by first | (with_reducible assumption) | assumption))
            replace q9 := eq_true q9
            refine start_ (n := 13) (S := fun w' => True) (ds := []) #[false, false, false, false, false, false, false, false, false, false, false, false, false] (by kernel_rfl) rfl rfl trivial (fun hHeld => ?_); refine with_tabW icmp_Parse.tab6 icmp_Parse.bits6 (fun HT_ HW_ => ?_)
            generalize w13.drew = w14 at BK231 HB hHeld ⊢
            refine pure_ (i := 0) (N := some 18) (v := ?_) (a' := ?_) #[true, false, false, false, false, false, false, false, false, false, false, false, false] rfl rfl (any_of HT_.out (by kernel_rfl)) (fun _ _ _ h => h) (Or.inl ⟨by rfl, ?_⟩) ?_ ?_
            rotate_left
            · intro w'
              go_simp
              with_reducible rfl
            rotate_left
            · simp only [Act.put, List.setIfInBounds_toArray, List.set_cons_zero, List.set_cons_succ, i64_w, i32_w]
              rfl
            refine pure_ (i := 3) (N := some 21) (v := ?_) (a' := ?_) #[true, false, false, true, false, false, false, false, false, false, false, false, false] rfl rfl (any_of HT_.out (by kernel_rfl)) (fun _ _ _ h => h) (Or.inl ⟨by rfl, ?_⟩) ?_ ?_
            rotate_left
            · intro w'
              go_simp
              with_reducible rfl
            rotate_left
            · simp only [Act.put, List.setIfInBounds_toArray, List.set_cons_zero, List.set_cons_succ, i64_w, i32_w]
              rfl
            refine pure_ (i := 6) (N := some 24) (v := ?_) (a' := ?_) #[true, false, false, true, false, false, true, false, false, false, false, false, false] rfl rfl (any_of HT_.out (by kernel_rfl)) (fun _ _ _ h => h) (Or.inl ⟨by rfl, ?_⟩) ?_ ?_
            rotate_left
            · intro w'
              go_simp
              with_reducible rfl
            rotate_left
            · simp only [Act.put, List.setIfInBounds_toArray, List.set_cons_zero, List.set_cons_succ, i64_w, i32_w]
              rfl
            refine pure_ (i := 7) (N := some 25) (v := ?_) (a' := ?_) #[true, false, false, true, false, false, true, true, false, false, false, false, false] rfl rfl (any_of HT_.out (by kernel_rfl)) (fun _ _ _ h => h) (Or.inl ⟨by rfl, ?_⟩) ?_ ?_
            rotate_left
            · intro w'
              go_simp
              with_reducible rfl
            rotate_left
            · simp only [Act.put, List.setIfInBounds_toArray, List.set_cons_zero, List.set_cons_succ, i64_w, i32_w]
              rfl
            refine pure_ (i := 8) (N := some 26) (v := ?_) (a' := ?_) #[true, false, false, true, false, false, true, true, true, false, false, false, false] rfl rfl (any_of HT_.out (by kernel_rfl)) (fun _ _ _ h => h) (Or.inl ⟨by rfl, ?_⟩) ?_ ?_
            rotate_left
            · intro w'
              go_simp
              with_reducible rfl
            rotate_left
            · simp only [Act.put, List.setIfInBounds_toArray, List.set_cons_zero, List.set_cons_succ, i64_w, i32_w]
              rfl
            refine pure_ (i := 9) (N := some 27) (v := ?_) (a' := ?_) #[true, false, false, true, false, false, true, true, true, true, false, false, false] rfl rfl (any_of HT_.out (by kernel_rfl)) (fun _ _ _ h => h) (Or.inl ⟨by rfl, ?_⟩) ?_ ?_
            rotate_left
            · intro w'
              go_simp
              with_reducible rfl
            rotate_left
            · simp only [Act.put, List.setIfInBounds_toArray, List.set_cons_zero, List.set_cons_succ, i64_w, i32_w]
              rfl
            refine take_ (i := 1) (N := some 19) (v := ?_) (a' := ?_) #[true, true, false, true, false, false, true, true, true, true, false, false, false] rfl rfl (take_ofW HT_.out HW_.out (by kernel_rfl)) (fun _ _ _ h => h) (Or.inl ⟨by rfl, ?_⟩) hHeld ?_ ?_
            rotate_left
            · intro w' _
              go_simp
              with_reducible rfl
            rotate_left
            · simp only [Act.put, List.setIfInBounds_toArray, List.set_cons_zero, List.set_cons_succ, i64_w, i32_w]
              rfl
            refine pure_ (i := 2) (N := some 20) (v := ?_) (a' := ?_) #[true, true, true, true, false, false, true, true, true, true, false, false, false] rfl rfl (any_of HT_.out (by kernel_rfl)) (fun _ _ _ h => h) (Or.inl ⟨by rfl, ?_⟩) ?_ ?_
            rotate_left
            · intro w'
              go_simp
              with_reducible rfl
            rotate_left
            · simp only [Act.put, List.setIfInBounds_toArray, List.set_cons_zero, List.set_cons_succ, i64_w, i32_w]
              rfl
            refine take_ (i := 4) (N := some 22) (v := ?_) (a' := ?_) #[true, true, true, true, true, false, true, true, true, true, false, false, false] rfl rfl (take_ofW HT_.out HW_.out (by kernel_rfl)) (fun _ _ _ h => h) (Or.inl ⟨by rfl, ?_⟩) hHeld ?_ ?_
            rotate_left
            · intro w' _
              go_simp
              with_reducible rfl
            rotate_left
            · simp only [Act.put, List.setIfInBounds_toArray, List.set_cons_zero, List.set_cons_succ, i64_w, i32_w]
              rfl
            refine pure_ (i := 5) (N := some 23) (v := ?_) (a' := ?_) #[true, true, true, true, true, true, true, true, true, true, false, false, false] rfl rfl (any_of HT_.out (by kernel_rfl)) (fun _ _ _ h => h) (Or.inl ⟨by rfl, ?_⟩) ?_ ?_
            rotate_left
            · intro w'
              go_simp
              with_reducible rfl
            rotate_left
            · simp only [Act.put, List.setIfInBounds_toArray, List.set_cons_zero, List.set_cons_succ, i64_w, i32_w]
              rfl
            refine pure_ (i := 10) (N := some 28) (v := ?_) (a' := ?_) #[true, true, true, true, true, true, true, true, true, true, true, false, false] rfl rfl (any_of HT_.out (by kernel_rfl)) (fun _ _ _ h => h) (Or.inl ⟨by rfl, ?_⟩) ?_ ?_
            rotate_left
            · intro w'
              go_simp
              with_reducible rfl
            rotate_left
            · simp only [Act.put, List.setIfInBounds_toArray, List.set_cons_zero, List.set_cons_succ, i64_w, i32_w]
              rfl
            refine one_ (i := 11) (N := none) #[true, true, true, true, true, true, true, true, true, true, true, true, false] rfl rfl (one_of HT_.out (by kernel_rfl)) (by decide) (fun K hK => ?_)
            have hs15 : w14.cell? ⟨gb231, 0, none⟩ = some (.int .i64 0) := (blk_cell BK231.out 0).trans rfl
            have hfs15 := blk_frozen BK231.out 0
            have hs16 : w14.cell? ⟨gb231, 1, none⟩ = some (.int .i64 0) := (blk_cell BK231.out 1).trans rfl
            have hfs16 := blk_frozen BK231.out 1
            have hs17 : w14.cell? ⟨gb231, 2, none⟩ = some (.int .u32 0) := (blk_cell BK231.out 2).trans rfl
            have hfs17 := blk_frozen BK231.out 2
            have hs18 : w14.cell? ⟨gb231, 3, none⟩ = some (.string (⟨#[]⟩ : ByteArray)) := (blk_cell BK231.out 3).trans rfl
            have hfs18 := blk_frozen BK231.out 3
            refine skip_ (w1 := ?_) (by rfl) rfl ?_ ?_
            rotate_left
            · go_simp
              rfl
            refine hK.out _ _ trivial (fun hHeld => ?_)
            clear hK K
            refine pure_ (i := 12) (N := some 3) (v := ?_) (a' := ?_) #[true, true, true, true, true, true, true, true, true, true, true, true, true] rfl rfl (any_of HT_.out (by kernel_rfl)) (fun _ _ _ h => h) (Or.inl ⟨by rfl, ?_⟩) ?_ ?_
            rotate_left
            · intro w'
              go_simp
              with_reducible rfl
            rotate_left
            · simp only [Act.put, List.setIfInBounds_toArray, List.set_cons_zero, List.set_cons_succ, i64_w, i32_w]
              rfl
            refine done_ (done_of HT_.out (by kernel_rfl)) ?_
            try go_wp2
            refine bodyPost_ret (results_ct rfl _ _ gb231 45 #[.int .i64 (wrap64 (bt a0 0)), .int .i64 (wrap64 (bt a0 1)), .int .u32 ((t232) % 4294967296), .string (a0.extract 8 a0.size)] (0, 0) _ rfl (by (with_reducible repeat (first | refine blk_drewN ?_ _ | refine blk_drew ?_ | refine blk_alloc ?_ _)); refine blk_put (cs := #[.int .i64 (wrap64 (bt a0 0)), .int .i64 (wrap64 (bt a0 1)), .int .u32 ((t232) % 4294967296), .string (⟨#[]⟩ : ByteArray)]) ?_ 3 _ rfl; (with_reducible repeat (first | refine blk_drewN ?_ _ | refine blk_drew ?_ | refine blk_alloc ?_ _)); refine blk_put (cs := #[.int .i64 (wrap64 (bt a0 0)), .int .i64 (wrap64 (bt a0 1)), .int .u32 0, .string (⟨#[]⟩ : ByteArray)]) ?_ 2 _ rfl; (with_reducible repeat (first | refine blk_drewN ?_ _ | refine blk_drew ?_ | refine blk_alloc ?_ _)); refine blk_put (cs := #[.int .i64 (wrap64 (bt a0 0)), .int .i64 0, .int .u32 0, .string (⟨#[]⟩ : ByteArray)]) ?_ 1 _ rfl; (with_reducible repeat (first | refine blk_drewN ?_ _ | refine blk_drew ?_ | refine blk_alloc ?_ _)); refine blk_put (cs := #[.int .i64 0, .int .i64 0, .int .u32 0, .string (⟨#[]⟩ : ByteArray)]) ?_ 0 _ rfl; (with_reducible repeat (first | refine blk_drewN ?_ _ | refine blk_drew ?_ | refine blk_alloc ?_ _)); exact BK231.out) Try.underlying45 rfl (by kernel_rfl)) rfl ?_
            exact ⟨by first | rfl | (simp [errW_none, errW_some] <;> rfl) | (simp [*, errW_none, errW_some] <;> rfl), by repeat (first | (with_reducible first | exact HB.out | apply below_alloc | apply pw_below_drewN | apply below_drew1 | refine below_set ?_ GE231.out) | exact HB.out)⟩
          · rw [if_neg c10] at H
            exact absurd H (by simp)
        · rw [if_neg c8] at H
          exact absurd H (by simp)
      · rw [if_neg c6] at H
        exact absurd H (by simp)
    · rw [if_neg c5] at H
      have c5b0 : (t234 == 65535) = false := beq_eq_false_iff_ne.mpr c5
      have c5b1 : (t234 != 65535) = true := bne_iff_ne.mpr c5
      simp only [Option.some.injEq, Prod.mk.injEq] at H
      obtain ⟨rfl, rfl, rfl, rfl, rfl⟩ := H
      go_enter Try.func29, Try.ntmps29
      go_wp2_with (first | ((with_reducible refine gate_dst (N := 2) rfl ?_); refine box_event ?hg (N := 2) ?hd (cs := #[.int .i64 0, .int .i64 0, .int .u32 0, .string (⟨#[]⟩ : ByteArray)]) (t := 45) ?hr ?_; (case hd => rfl); (case hg => rfl); (case hr => first | (go_simp; done) | (go_simp; rfl)); intro gb231 hg w19 hbox hb; have n0_ := Aside0.mk (below_step (by repeat (first | (with_reducible first | exact HB.out | apply below_alloc | apply pw_below_drewN | apply below_drew1) | exact HB.out)) hb); have n1_ := Aside0.mk (hbox); have n2_ := Aside0.mk ((by rw [hg]; exact (below_size (by repeat (first | (with_reducible first | exact HB.out | apply below_alloc | apply pw_below_drewN | apply below_drew1) | exact HB.out))) : w.heap.size ≤ gb231)); have n3_ := Aside0.mk ((by rw [hg]; exact (below_size (by repeat (first | (with_reducible first | exact HB.out | apply below_alloc | apply pw_below_drewN | apply below_drew1) | exact HB.out))) : w.heap.size ≤ gb231)); clear HB; have HB := n0_; have BK231 := n1_; have GW231 := n2_; have GE231 := n3_; clear n0_ n1_ n2_ n3_; clear hb hbox hg) | ((with_reducible refine gate_callee (f := 33) rfl ?_); refine goesL_ (some 8) rfl rfl Try.func33 (by kernel_rfl) rfl #[.string a0, .int .i64 4, .int .i64 4] rfl (by (try simp only [List.map_toArray, List.map_cons, List.map_nil]); first | done | rfl | (simp only [List.length_drop, List.length_take]; rfl)) ?_; (with_reducible refine (octet_Get.calls a0 4 4 t232 true _ A2.out).mono ?_); rintro e w20 ⟨rfl, hb⟩; (try clear A2); refine ⟨_, rfl, ?_⟩; have n0_ := Aside0.mk (blk_below (g := gb231) (o := .cells #[.int .i64 0, .int .i64 0, .int .u32 0, .string (⟨#[]⟩ : ByteArray)] 45 (0, 0)) (by (with_reducible repeat (first | refine blk_drewN ?_ _ | refine blk_drew ?_ | refine blk_alloc ?_ _)); exact BK231.out) hb); have n1_ := Aside0.mk (below_step (by repeat (first | (with_reducible first | exact HB.out | apply below_alloc | apply pw_below_drewN | apply below_drew1 | refine below_set ?_ GE231.out) | exact HB.out)) hb); clear BK231; clear HB; have BK231 := n0_; have HB := n1_; clear n0_ n1_; (try clear hb); (try clear hb2); (try clear hk); (try clear hi)) | ((with_reducible refine gate_callee (f := 38) rfl ?_); refine goesL_ (some 15) rfl rfl Try.func38 (by kernel_rfl) rfl #[.string a0] rfl (by (try simp only [List.map_toArray, List.map_cons, List.map_nil]); first | done | rfl | (simp only [List.length_drop, List.length_take]; rfl)) ?_; (with_reducible refine (cksum_Sum.calls a0 t234 _ A4.out).mono ?_); rintro e w21 ⟨rfl, hb⟩; (try clear A4); refine ⟨_, rfl, ?_⟩; have n0_ := Aside0.mk (blk_below (g := gb231) (o := .cells #[.int .i64 0, .int .i64 0, .int .u32 0, .string (⟨#[]⟩ : ByteArray)] 45 (0, 0)) (by (with_reducible repeat (first | refine blk_drewN ?_ _ | refine blk_drew ?_ | refine blk_alloc ?_ _)); exact BK231.out) hb); have n1_ := Aside0.mk (below_step (by repeat (first | (with_reducible first | exact HB.out | apply below_alloc | apply pw_below_drewN | apply below_drew1 | refine below_set ?_ GE231.out) | exact HB.out)) hb); clear BK231; clear HB; have BK231 := n0_; have HB := n1_; clear n0_ n1_; (try clear hb); (try clear hb2); (try clear hk); (try clear hi); have hcz22_0 : w21.cell? ⟨gb231, 0, none⟩ = some (.int .i64 0) := (blk_cell BK231.out 0).trans rfl; have hcz22_1 : w21.cell? ⟨gb231, 1, none⟩ = some (.int .i64 0) := (blk_cell BK231.out 1).trans rfl; have hcz22_2 : w21.cell? ⟨gb231, 2, none⟩ = some (.int .u32 0) := (blk_cell BK231.out 2).trans rfl; have hcz22_3 : w21.cell? ⟨gb231, 3, none⟩ = some (.string (⟨#[]⟩ : ByteArray)) := (blk_cell BK231.out 3).trans rfl; have hfz22_0 := blk_frozen BK231.out 0; have hfz22_1 := blk_frozen BK231.out 1; have hfz22_2 := blk_frozen BK231.out 2; have hfz22_3 := blk_frozen BK231.out 3))
      refine bodyPost_ret (results_ct rfl _ _ gb231 45 #[.int .i64 0, .int .i64 0, .int .u32 0, .string (⟨#[]⟩ : ByteArray)] (0, 0) _ rfl (by (with_reducible repeat (first | refine blk_drewN ?_ _ | refine blk_drew ?_ | refine blk_alloc ?_ _)); refine blk_put (cs := #[.int .i64 0, .int .i64 0, .int .u32 0, .string (⟨#[]⟩ : ByteArray)]) ?_ 3 _ rfl; (with_reducible repeat (first | refine blk_drewN ?_ _ | refine blk_drew ?_ | refine blk_alloc ?_ _)); refine blk_put (cs := #[.int .i64 0, .int .i64 0, .int .u32 0, .string (⟨#[]⟩ : ByteArray)]) ?_ 2 _ rfl; (with_reducible repeat (first | refine blk_drewN ?_ _ | refine blk_drew ?_ | refine blk_alloc ?_ _)); refine blk_put (cs := #[.int .i64 0, .int .i64 0, .int .u32 0, .string (⟨#[]⟩ : ByteArray)]) ?_ 1 _ rfl; (with_reducible repeat (first | refine blk_drewN ?_ _ | refine blk_drew ?_ | refine blk_alloc ?_ _)); refine blk_put (cs := #[.int .i64 0, .int .i64 0, .int .u32 0, .string (⟨#[]⟩ : ByteArray)]) ?_ 0 _ rfl; (with_reducible repeat (first | refine blk_drewN ?_ _ | refine blk_drew ?_ | refine blk_alloc ?_ _)); exact BK231.out) Try.underlying45 rfl (by kernel_rfl)) rfl ?_
      exact ⟨by first | rfl | (simp [errW_none, errW_some] <;> rfl) | (simp [*, errW_none, errW_some] <;> rfl), by repeat (first | (with_reducible first | exact HB.out | apply below_alloc | apply pw_below_drewN | apply below_drew1 | refine below_set ?_ GE231.out) | exact HB.out)⟩
  · replace c3 := Bool.eq_false_iff.mpr c3
    subst c3
    have H1 : (some (0, 0, 0, (⟨#[]⟩ : ByteArray), 2)) = some (r1, r2, r3, r4, r5) := by rw [if_neg (show ¬ (false = true) by decide)] at H; exact H
    clear H
    have H := H1
    clear H1
    simp only [Option.some.injEq, Prod.mk.injEq] at H
    obtain ⟨rfl, rfl, rfl, rfl, rfl⟩ := H
    go_enter Try.func29, Try.ntmps29
    go_wp2_with (first | ((with_reducible refine gate_dst (N := 2) rfl ?_); refine box_event ?hg (N := 2) ?hd (cs := #[.int .i64 0, .int .i64 0, .int .u32 0, .string (⟨#[]⟩ : ByteArray)]) (t := 45) ?hr ?_; (case hd => rfl); (case hg => rfl); (case hr => first | (go_simp; done) | (go_simp; rfl)); intro gb231 hg w23 hbox hb; have n0_ := Aside0.mk (below_step (by repeat (first | (with_reducible first | exact HB.out | apply below_alloc | apply pw_below_drewN | apply below_drew1) | exact HB.out)) hb); have n1_ := Aside0.mk (hbox); have n2_ := Aside0.mk ((by rw [hg]; exact (below_size (by repeat (first | (with_reducible first | exact HB.out | apply below_alloc | apply pw_below_drewN | apply below_drew1) | exact HB.out))) : w.heap.size ≤ gb231)); have n3_ := Aside0.mk ((by rw [hg]; exact (below_size (by repeat (first | (with_reducible first | exact HB.out | apply below_alloc | apply pw_below_drewN | apply below_drew1) | exact HB.out))) : w.heap.size ≤ gb231)); clear HB; have HB := n0_; have BK231 := n1_; have GW231 := n2_; have GE231 := n3_; clear n0_ n1_ n2_ n3_; clear hb hbox hg) | ((with_reducible refine gate_callee (f := 33) rfl ?_); refine goesL_ (some 8) rfl rfl Try.func33 (by kernel_rfl) rfl #[.string a0, .int .i64 4, .int .i64 4] rfl (by (try simp only [List.map_toArray, List.map_cons, List.map_nil]); first | done | rfl | (simp only [List.length_drop, List.length_take]; rfl)) ?_; (with_reducible refine (octet_Get.calls a0 4 4 t232 false _ A2.out).mono ?_); rintro e w24 ⟨rfl, hb⟩; (try clear A2); refine ⟨_, rfl, ?_⟩; have n0_ := Aside0.mk (blk_below (g := gb231) (o := .cells #[.int .i64 0, .int .i64 0, .int .u32 0, .string (⟨#[]⟩ : ByteArray)] 45 (0, 0)) (by (with_reducible repeat (first | refine blk_drewN ?_ _ | refine blk_drew ?_ | refine blk_alloc ?_ _)); exact BK231.out) hb); have n1_ := Aside0.mk (below_step (by repeat (first | (with_reducible first | exact HB.out | apply below_alloc | apply pw_below_drewN | apply below_drew1 | refine below_set ?_ GE231.out) | exact HB.out)) hb); clear BK231; clear HB; have BK231 := n0_; have HB := n1_; clear n0_ n1_; (try clear hb); (try clear hb2); (try clear hk); (try clear hi); have hcz25_0 : w24.cell? ⟨gb231, 0, none⟩ = some (.int .i64 0) := (blk_cell BK231.out 0).trans rfl; have hcz25_1 : w24.cell? ⟨gb231, 1, none⟩ = some (.int .i64 0) := (blk_cell BK231.out 1).trans rfl; have hcz25_2 : w24.cell? ⟨gb231, 2, none⟩ = some (.int .u32 0) := (blk_cell BK231.out 2).trans rfl; have hcz25_3 : w24.cell? ⟨gb231, 3, none⟩ = some (.string (⟨#[]⟩ : ByteArray)) := (blk_cell BK231.out 3).trans rfl; have hfz25_0 := blk_frozen BK231.out 0; have hfz25_1 := blk_frozen BK231.out 1; have hfz25_2 := blk_frozen BK231.out 2; have hfz25_3 := blk_frozen BK231.out 3))
    refine bodyPost_ret (results_ct rfl _ _ gb231 45 #[.int .i64 0, .int .i64 0, .int .u32 0, .string (⟨#[]⟩ : ByteArray)] (0, 0) _ rfl (by (with_reducible repeat (first | refine blk_drewN ?_ _ | refine blk_drew ?_ | refine blk_alloc ?_ _)); refine blk_put (cs := #[.int .i64 0, .int .i64 0, .int .u32 0, .string (⟨#[]⟩ : ByteArray)]) ?_ 3 _ rfl; (with_reducible repeat (first | refine blk_drewN ?_ _ | refine blk_drew ?_ | refine blk_alloc ?_ _)); refine blk_put (cs := #[.int .i64 0, .int .i64 0, .int .u32 0, .string (⟨#[]⟩ : ByteArray)]) ?_ 2 _ rfl; (with_reducible repeat (first | refine blk_drewN ?_ _ | refine blk_drew ?_ | refine blk_alloc ?_ _)); refine blk_put (cs := #[.int .i64 0, .int .i64 0, .int .u32 0, .string (⟨#[]⟩ : ByteArray)]) ?_ 1 _ rfl; (with_reducible repeat (first | refine blk_drewN ?_ _ | refine blk_drew ?_ | refine blk_alloc ?_ _)); refine blk_put (cs := #[.int .i64 0, .int .i64 0, .int .u32 0, .string (⟨#[]⟩ : ByteArray)]) ?_ 0 _ rfl; (with_reducible repeat (first | refine blk_drewN ?_ _ | refine blk_drew ?_ | refine blk_alloc ?_ _)); exact BK231.out) Try.underlying45 rfl (by kernel_rfl)) rfl ?_
    exact ⟨by first | rfl | (simp [errW_none, errW_some] <;> rfl) | (simp [*, errW_none, errW_some] <;> rfl), by repeat (first | (with_reducible first | exact HB.out | apply below_alloc | apply pw_below_drewN | apply below_drew1 | refine below_set ?_ GE231.out) | exact HB.out)⟩

end Go.Proofs.Ythmpmladneiegaa.Pr
