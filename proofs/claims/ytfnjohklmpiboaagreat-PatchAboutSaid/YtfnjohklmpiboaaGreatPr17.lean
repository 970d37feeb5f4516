-- trimmed by trims.py
-- Written by a program of the session (wip/tools) out of the translation, over the kit's print; with pieces of the session's own.
import Derived.Test.YtfnjohklmpiboaaGreatPr0
import Derived.Test.YtfnjohklmpiboaaGreatPr10
import Derived.Test.YtfnjohklmpiboaaGreatPr13
import Derived.Test.YtfnjohklmpiboaaGreatPr14
import Derived.Test.YtfnjohklmpiboaaGreatPr15
import Derived.Test.YtfnjohklmpiboaaGreatPr16
import Derived.Test.YtfnjohklmpiboaaGreatPr18
namespace Go.Proofs.YtfnjohklmpiboaaGreat.Pr
open Go.RowKit Go.Proofs.YtfnjohklmpiboaaGreatW.PrintWords Go.Proofs.YtfnjohklmpiboaaGreatW.PrintLast Go.Proofs.YtfnjohklmpiboaaGreatW.PrintMore
attribute [local go_sem] max2_int min2_int max_two min_two max_three min_three max_four min_four   -- for this text's walks alone
set_option linter.unusedVariables false
set_option linter.unusedSimpArgs false
open Go.Proofs.YtfnjohklmpiboaaGreat.Sp
/-! ### packet_get: function 88 -/
def packet_get.f (a0 : ByteArray) (a1 : Int) (a2 : Int) : Option (Int) := (octet_Get.f a0 a1 a2).bind fun bt282 => (some bt282.1)
set_option maxHeartbeats 8000000 in
set_option maxRecDepth 100000 in
theorem packet_get.calls (a0 : ByteArray) (a1 : Int) (a2 : Int) (r : Int) (w : World) (h : packet_get.f a0 a1 a2 = some r) :
  Calls Tryz.prog 88 #[.string a0, .int .i64 a1, .int .i64 a2] w fun e w' => e = .returned (.int .i64 r) ∧ Below w.heap.size w w' := by
 have HB := AA (Below.refl w.heap.size w)
 have H : ((octet_Get.f a0 a1 a2).bind fun bt282 => (some bt282.1)) = some r := h
 clear h
 replace H := OB H
 obtain ⟨⟨t282, t283⟩, A4, H⟩ := H
 (try set_option simprocs false in dsimp only at H)
 obtain rfl := Option.some.inj H
 go_enter Tryz.func88, Tryz.ntmps88
 go_wp2_with (first | ((with_reducible refine gkx 41 rfl ?_); refine gL 13 Tryz.func41 rfl (octet_Get.calls a0 a1 a2 t282 t283 _ A4.out) ?_; rintro w5 hb; (try clear A4); replace HB := BS HB hb; (try clear hb)))
 go_ret
 exact ⟨RT, BW HB⟩

theorem packet_get_eq {a0 : ByteArray} (a1 a2 : Int) (h : a0.size ≤ 281474976710656) : packet_get.f a0 a1 a2 = some (Sp.get (bl a0) a1 a2).1 := by
 unfold packet_get.f; rw [octet_Get_eq _ _ _ h]; rfl

/-! ### packet_Classify: function 38 -/
theorem pk_step {W W' : World} {x : Obj} {B : Nat} (h : W.heap[B]? = some x) (hb : Below W.heap.size W W') : W'.heap[B]? = some x := by
 rw [hb.block _ (Array.getElem?_eq_some_iff.1 h).1]; exact h
theorem pk_alloc {W : World} {x : Obj} {B : Nat} (o : Obj) (h : W.heap[B]? = some x) : (W.alloc o).heap[B]? = some x := by
 have hl := (Array.getElem?_eq_some_iff.1 h).1
 simp only [World.alloc, Array.getElem?_push]
 rw [if_neg (by omega)]; exact h
theorem pk_lt {W : World} {x : Obj} {B : Nat} (h : W.heap[B]? = some x) : B < W.heap.size := (Array.getElem?_eq_some_iff.1 h).1
theorem pk_below {B : Nat} {w W W' : World} (h : Below B w W) (hB : B ≤ W.heap.size) (hb : Below W.heap.size W W') : Below B w W' := h.trans ⟨hb.os, hb.tape, hb.output, hb.size, fun k hk => hb.block k (by omega)⟩
theorem pk_drew {W : World} {x : Obj} {B : Nat} (h : W.heap[B]? = some x) : W.drew.heap[B]? = some x := h
theorem pk_below_drew {B : Nat} {w W : World} (h : Below B w W) : Below B w W.drew := ⟨h.os, h.tape, h.output, h.size, h.block⟩
set_option maxRecDepth 100000 in
set_option maxHeartbeats 8000000 in
theorem pk_ends_tcp (B : Nat) (k a t s d sp dp fl tt s2 d2 q i : Int) (body : ByteArray) (w : World) (hs : body.size ≤ 140737488355328) (hR0 : w.heap[B]? = some (.cells (rr14 k a t 6 s d sp dp fl tt s2 d2 q i) 51 (0, 0))) :
  Calls Tryz.prog 59 #[.pointer (some ⟨B, 0, none⟩), .string body] w fun e w' => e = .returned (.int .i64 (Sp.tcpParse (bl body)).e) ∧ w'.heap[B]? = some (.cells #[.int .i64 k, .int .i64 a, .int .i64 t, .int .i64 6, .int .u32 s, .int .u32 d, .int .i64 (Sp.tcpParse (bl body)).sp, .int .i64 (Sp.tcpParse (bl body)).dp, .int .i64 (Sp.tcpParse (bl body)).flags, .int .i64 tt, .int .u32 s2, .int .u32 d2, .int .i64 q, .int .i64 i] 51 (0, 0)) ∧ Below B w w' := by
 have HP := fun W => tcp_Parse.calls body _ _ _ _ _ _ _ _ _ _ W (tcp_Parse_eq hs)
 have c3 := (blk_cell hR0 3).trans (show _ = some (.int .i64 6) from rfl)
 obtain ⟨H, hH⟩ : ∃ H, w.heap.size = H := ⟨_, rfl⟩
 have hHe := Lib.hid hH
 have hBH := pk_lt hR0
 rw [hH] at hBH
 clear hH
 have HR0 := Lib.hid hR0
 clear hR0
 go_enter Tryz.func59, Tryz.ntmps59
 go_wp2_with (fail)
 refine (HP _).mono ?_
 rintro e w1 ⟨rfl, hb⟩
 have hH1 : w1.heap[w.heap.size]? = some (.cells (rr8 0 0 0 0 0 0 0 ⟨#[]⟩) 134 (0, 0)) := pk_step (World.alloc_heap_new w _) hb
 have hR := pk_step (pk_alloc _ HR0.out) hb
 have hB : Below B w w1 := pk_below (below_alloc (Below.refl _ _) _ |> fun h => (⟨h.os, h.tape, h.output, h.size, fun k hk => h.block k (by have := hHe.out; omega)⟩ : Below B w _)) (by simp; have := hHe.out; omega) hb
 clear hb HR0 c3
 rw [hHe.out] at hH1 ⊢
 have y0 := (blk_cell hH1 0).trans (show _ = some (.int .i64 0) from rfl)
 have y1 := (blk_cell hH1 1).trans (show _ = some (.int .i64 0) from rfl)
 have y2 := (blk_cell hH1 2).trans (show _ = some (.int .u32 0) from rfl)
 have y3 := (blk_cell hH1 3).trans (show _ = some (.int .u32 0) from rfl)
 have y4 := (blk_cell hH1 4).trans (show _ = some (.int .i64 0) from rfl)
 have y5 := (blk_cell hH1 5).trans (show _ = some (.int .i64 0) from rfl)
 have y6 := (blk_cell hH1 6).trans (show _ = some (.int .i64 0) from rfl)
 have y7 := (blk_cell hH1 7).trans (show _ = some (.string ⟨#[]⟩) from rfl)
 have z0 := blk_frozen hH1 0
 have z1 := blk_frozen hH1 1
 have z2 := blk_frozen hH1 2
 have z3 := blk_frozen hH1 3
 have z4 := blk_frozen hH1 4
 have z5 := blk_frozen hH1 5
 have z6 := blk_frozen hH1 6
 have z7 := blk_frozen hH1 7
 have HQ := Lib.hid (And.intro hH1 (And.intro hR hB))
 clear hH1 hR hB
 go_wp2_with (fail)
 obtain ⟨hH1, hR, hB⟩ := HQ.out
 clear HQ y0 z0 y1 z1 y2 z2 y3 z3 y4 z4 y5 z5 y6 z6 y7 z7
 have hH' : ((((((((w1.setCell ⟨H, 0, none⟩ (.int .i64 (Sp.tcpParse (bl body)).sp)).setCell ⟨H, 1, none⟩ (.int .i64 (Sp.tcpParse (bl body)).dp)).setCell ⟨H, 2, none⟩ (.int .u32 (Sp.tcpParse (bl body)).seq)).setCell ⟨H, 3, none⟩ (.int .u32 (Sp.tcpParse (bl body)).ack)).setCell ⟨H, 4, none⟩ (.int .i64 (Sp.tcpParse (bl body)).flags)).setCell ⟨H, 5, none⟩ (.int .i64 (Sp.tcpParse (bl body)).win)).setCell ⟨H, 6, none⟩ (.int .i64 (Sp.tcpParse (bl body)).urg)).setCell ⟨H, 7, none⟩ (.string (lb (Sp.tcpParse (bl body)).opts))).heap[H]? = some (.cells #[.int .i64 (Sp.tcpParse (bl body)).sp, .int .i64 (Sp.tcpParse (bl body)).dp, .int .u32 (Sp.tcpParse (bl body)).seq, .int .u32 (Sp.tcpParse (bl body)).ack, .int .i64 (Sp.tcpParse (bl body)).flags, .int .i64 (Sp.tcpParse (bl body)).win, .int .i64 (Sp.tcpParse (bl body)).urg, .string (lb (Sp.tcpParse (bl body)).opts)] 134 (0, 0)) := (blk_put (cs' := #[.int .i64 (Sp.tcpParse (bl body)).sp, .int .i64 (Sp.tcpParse (bl body)).dp, .int .u32 (Sp.tcpParse (bl body)).seq, .int .u32 (Sp.tcpParse (bl body)).ack, .int .i64 (Sp.tcpParse (bl body)).flags, .int .i64 (Sp.tcpParse (bl body)).win, .int .i64 (Sp.tcpParse (bl body)).urg, .string (lb (Sp.tcpParse (bl body)).opts)]) (blk_put (cs' := #[.int .i64 (Sp.tcpParse (bl body)).sp, .int .i64 (Sp.tcpParse (bl body)).dp, .int .u32 (Sp.tcpParse (bl body)).seq, .int .u32 (Sp.tcpParse (bl body)).ack, .int .i64 (Sp.tcpParse (bl body)).flags, .int .i64 (Sp.tcpParse (bl body)).win, .int .i64 (Sp.tcpParse (bl body)).urg, .string ⟨#[]⟩]) (blk_put (cs' := #[.int .i64 (Sp.tcpParse (bl body)).sp, .int .i64 (Sp.tcpParse (bl body)).dp, .int .u32 (Sp.tcpParse (bl body)).seq, .int .u32 (Sp.tcpParse (bl body)).ack, .int .i64 (Sp.tcpParse (bl body)).flags, .int .i64 (Sp.tcpParse (bl body)).win, .int .i64 0, .string ⟨#[]⟩]) (blk_put (cs' := #[.int .i64 (Sp.tcpParse (bl body)).sp, .int .i64 (Sp.tcpParse (bl body)).dp, .int .u32 (Sp.tcpParse (bl body)).seq, .int .u32 (Sp.tcpParse (bl body)).ack, .int .i64 (Sp.tcpParse (bl body)).flags, .int .i64 0, .int .i64 0, .string ⟨#[]⟩]) (blk_put (cs' := #[.int .i64 (Sp.tcpParse (bl body)).sp, .int .i64 (Sp.tcpParse (bl body)).dp, .int .u32 (Sp.tcpParse (bl body)).seq, .int .u32 (Sp.tcpParse (bl body)).ack, .int .i64 0, .int .i64 0, .int .i64 0, .string ⟨#[]⟩]) (blk_put (cs' := #[.int .i64 (Sp.tcpParse (bl body)).sp, .int .i64 (Sp.tcpParse (bl body)).dp, .int .u32 (Sp.tcpParse (bl body)).seq, .int .u32 0, .int .i64 0, .int .i64 0, .int .i64 0, .string ⟨#[]⟩]) (blk_put (cs' := #[.int .i64 (Sp.tcpParse (bl body)).sp, .int .i64 (Sp.tcpParse (bl body)).dp, .int .u32 0, .int .u32 0, .int .i64 0, .int .i64 0, .int .i64 0, .string ⟨#[]⟩]) (blk_put (cs' := #[.int .i64 (Sp.tcpParse (bl body)).sp, .int .i64 0, .int .u32 0, .int .u32 0, .int .i64 0, .int .i64 0, .int .i64 0, .string ⟨#[]⟩]) hH1 0 _ rfl) 1 _ rfl) 2 _ rfl) 3 _ rfl) 4 _ rfl) 5 _ rfl) 6 _ rfl) 7 _ rfl)
 have hR' : ((((((((w1.setCell ⟨H, 0, none⟩ (.int .i64 (Sp.tcpParse (bl body)).sp)).setCell ⟨H, 1, none⟩ (.int .i64 (Sp.tcpParse (bl body)).dp)).setCell ⟨H, 2, none⟩ (.int .u32 (Sp.tcpParse (bl body)).seq)).setCell ⟨H, 3, none⟩ (.int .u32 (Sp.tcpParse (bl body)).ack)).setCell ⟨H, 4, none⟩ (.int .i64 (Sp.tcpParse (bl body)).flags)).setCell ⟨H, 5, none⟩ (.int .i64 (Sp.tcpParse (bl body)).win)).setCell ⟨H, 6, none⟩ (.int .i64 (Sp.tcpParse (bl body)).urg)).setCell ⟨H, 7, none⟩ (.string (lb (Sp.tcpParse (bl body)).opts))).heap[B]? = some (.cells (rr14 k a t 6 s d sp dp fl tt s2 d2 q i) 51 (0, 0)) := (blk_far (blk_far (blk_far (blk_far (blk_far (blk_far (blk_far (blk_far hR (by show B ≠ H; omega) _) (by show B ≠ H; omega) _) (by show B ≠ H; omega) _) (by show B ≠ H; omega) _) (by show B ≠ H; omega) _) (by show B ≠ H; omega) _) (by show B ≠ H; omega) _) (by show B ≠ H; omega) _)
 have hB' : Below B w ((((((((w1.setCell ⟨H, 0, none⟩ (.int .i64 (Sp.tcpParse (bl body)).sp)).setCell ⟨H, 1, none⟩ (.int .i64 (Sp.tcpParse (bl body)).dp)).setCell ⟨H, 2, none⟩ (.int .u32 (Sp.tcpParse (bl body)).seq)).setCell ⟨H, 3, none⟩ (.int .u32 (Sp.tcpParse (bl body)).ack)).setCell ⟨H, 4, none⟩ (.int .i64 (Sp.tcpParse (bl body)).flags)).setCell ⟨H, 5, none⟩ (.int .i64 (Sp.tcpParse (bl body)).win)).setCell ⟨H, 6, none⟩ (.int .i64 (Sp.tcpParse (bl body)).urg)).setCell ⟨H, 7, none⟩ (.string (lb (Sp.tcpParse (bl body)).opts))) := (Below.setCell (Below.setCell (Below.setCell (Below.setCell (Below.setCell (Below.setCell (Below.setCell (Below.setCell hB (show B ≤ H by omega) _) (show B ≤ H by omega) _) (show B ≤ H by omega) _) (show B ≤ H by omega) _) (show B ≤ H by omega) _) (show B ≤ H by omega) _) (show B ≤ H by omega) _) (show B ≤ H by omega) _)
 clear hH1 hR hB
 generalize ((((((((w1.setCell ⟨H, 0, none⟩ (.int .i64 (Sp.tcpParse (bl body)).sp)).setCell ⟨H, 1, none⟩ (.int .i64 (Sp.tcpParse (bl body)).dp)).setCell ⟨H, 2, none⟩ (.int .u32 (Sp.tcpParse (bl body)).seq)).setCell ⟨H, 3, none⟩ (.int .u32 (Sp.tcpParse (bl body)).ack)).setCell ⟨H, 4, none⟩ (.int .i64 (Sp.tcpParse (bl body)).flags)).setCell ⟨H, 5, none⟩ (.int .i64 (Sp.tcpParse (bl body)).win)).setCell ⟨H, 6, none⟩ (.int .i64 (Sp.tcpParse (bl body)).urg)).setCell ⟨H, 7, none⟩ (.string (lb (Sp.tcpParse (bl body)).opts))) = u at hH' hR' hB' ⊢
 clear w1
 have hRS : ∀ W : World, W.heap[H]? = some (.cells #[.int .i64 (Sp.tcpParse (bl body)).sp, .int .i64 (Sp.tcpParse (bl body)).dp, .int .u32 (Sp.tcpParse (bl body)).seq, .int .u32 (Sp.tcpParse (bl body)).ack, .int .i64 (Sp.tcpParse (bl body)).flags, .int .i64 (Sp.tcpParse (bl body)).win, .int .i64 (Sp.tcpParse (bl body)).urg, .string (lb (Sp.tcpParse (bl body)).opts)] 134 (0, 0)) → (W.cell? ⟨H, 4, none⟩ = some (.int .i64 (Sp.tcpParse (bl body)).flags) ∧ W.cell? ⟨H, 0, none⟩ = some (.int .i64 (Sp.tcpParse (bl body)).sp) ∧ W.cell? ⟨H, 1, none⟩ = some (.int .i64 (Sp.tcpParse (bl body)).dp)) := fun W h => ⟨(blk_cell h 4).trans rfl, (blk_cell h 0).trans rfl, (blk_cell h 1).trans rfl⟩
 refine start_ (n := 20) (S := fun w' => w'.cell? ⟨H, 4, none⟩ = some (.int .i64 (Sp.tcpParse (bl body)).flags) ∧ w'.cell? ⟨H, 0, none⟩ = some (.int .i64 (Sp.tcpParse (bl body)).sp) ∧ w'.cell? ⟨H, 1, none⟩ = some (.int .i64 (Sp.tcpParse (bl body)).dp)) (ds := []) (bm 20 0x0) (by kernel_rfl) rfl rfl (hRS _ (pk_drew hH')) (fun hHeld => ?_)
 have hH1 := pk_drew hH'
 have hR1 := pk_drew hR'
 have hB1 := pk_below_drew hB'
 clear hH' hR' hB'
 generalize u.drew = v1 at hH1 hR1 hB1 hHeld ⊢
 clear u
 refine pk 0 34 (bm 20 0x1) ?_
 refine pk 1 35 (bm 20 0x3) ?_
 refine pk 2 36 (bm 20 0x7) ?_
 refine pk 3 37 (bm 20 0xf) ?_
 refine tk 4 38 (bm 20 0x1f) hHeld ?_
 refine pk 5 39 (bm 20 0x3f) ?_
 refine tk 6 40 (bm 20 0x7f) hHeld ?_
 refine pk 7 41 (bm 20 0xff) ?_
 refine tk 8 42 (bm 20 0x1ff) hHeld ?_
 refine pk 9 43 (bm 20 0x3ff) ?_
 refine pk 10 44 (bm 20 0x7ff) ?_
 have x := (blk_cell hR1 8).trans (show _ = some (.int .i64 fl) from rfl)
 have z := blk_frozen hR1 8
 refine one_ (i := 11) (N := none) (bm 20 0xfff) rfl rfl (by kernel_rfl) (by decide) (fun K hK => ?_)
 refine skip_ (w1 := ?_) (by rfl) rfl ?_ ?_
 rotate_left
 ·go_simp
  rfl
 have hH2 : (v1.setCell ⟨B, 8, none⟩ (.int .i64 (Sp.tcpParse (bl body)).flags)).heap[H]? = some (.cells #[.int .i64 (Sp.tcpParse (bl body)).sp, .int .i64 (Sp.tcpParse (bl body)).dp, .int .u32 (Sp.tcpParse (bl body)).seq, .int .u32 (Sp.tcpParse (bl body)).ack, .int .i64 (Sp.tcpParse (bl body)).flags, .int .i64 (Sp.tcpParse (bl body)).win, .int .i64 (Sp.tcpParse (bl body)).urg, .string (lb (Sp.tcpParse (bl body)).opts)] 134 (0, 0)) := blk_far hH1 (by show H ≠ B; omega) _
 have hR2 : (v1.setCell ⟨B, 8, none⟩ (.int .i64 (Sp.tcpParse (bl body)).flags)).heap[B]? = some (.cells #[.int .i64 k, .int .i64 a, .int .i64 t, .int .i64 6, .int .u32 s, .int .u32 d, .int .i64 sp, .int .i64 dp, .int .i64 (Sp.tcpParse (bl body)).flags, .int .i64 tt, .int .u32 s2, .int .u32 d2, .int .i64 q, .int .i64 i] 51 (0, 0)) := blk_put hR1 8 _ rfl
 have hB2 : Below B w (v1.setCell ⟨B, 8, none⟩ (.int .i64 (Sp.tcpParse (bl body)).flags)) := Below.setCell hB1 (Nat.le_refl _) _
 refine hK.out _ _ (hRS _ hH2) (fun hHeld => ?_)
 clear hK K x z hH1 hR1 hB1
 generalize (v1.setCell ⟨B, 8, none⟩ (.int .i64 (Sp.tcpParse (bl body)).flags)) = v2 at hH2 hR2 hB2 hHeld ⊢
 refine pk 12 45 (bm 20 0x1fff) ?_
 refine pk 13 46 (bm 20 0x3fff) ?_
 refine pk 14 47 (bm 20 0x7fff) ?_
 have x := (blk_cell hR2 6).trans (show _ = some (.int .i64 sp) from rfl)
 have z := blk_frozen hR2 6
 refine one_ (i := 15) (N := none) (bm 20 0xffff) rfl rfl (by kernel_rfl) (by decide) (fun K hK => ?_)
 refine skip_ (w1 := ?_) (by rfl) rfl ?_ ?_
 rotate_left
 ·go_simp
  rfl
 have hH3 : (v2.setCell ⟨B, 6, none⟩ (.int .i64 (Sp.tcpParse (bl body)).sp)).heap[H]? = some (.cells #[.int .i64 (Sp.tcpParse (bl body)).sp, .int .i64 (Sp.tcpParse (bl body)).dp, .int .u32 (Sp.tcpParse (bl body)).seq, .int .u32 (Sp.tcpParse (bl body)).ack, .int .i64 (Sp.tcpParse (bl body)).flags, .int .i64 (Sp.tcpParse (bl body)).win, .int .i64 (Sp.tcpParse (bl body)).urg, .string (lb (Sp.tcpParse (bl body)).opts)] 134 (0, 0)) := blk_far hH2 (by show H ≠ B; omega) _
 have hR3 : (v2.setCell ⟨B, 6, none⟩ (.int .i64 (Sp.tcpParse (bl body)).sp)).heap[B]? = some (.cells #[.int .i64 k, .int .i64 a, .int .i64 t, .int .i64 6, .int .u32 s, .int .u32 d, .int .i64 (Sp.tcpParse (bl body)).sp, .int .i64 dp, .int .i64 (Sp.tcpParse (bl body)).flags, .int .i64 tt, .int .u32 s2, .int .u32 d2, .int .i64 q, .int .i64 i] 51 (0, 0)) := blk_put hR2 6 _ rfl
 have hB3 : Below B w (v2.setCell ⟨B, 6, none⟩ (.int .i64 (Sp.tcpParse (bl body)).sp)) := Below.setCell hB2 (Nat.le_refl _) _
 refine hK.out _ _ (hRS _ hH3) (fun hHeld => ?_)
 clear hK K x z hH2 hR2 hB2
 generalize (v2.setCell ⟨B, 6, none⟩ (.int .i64 (Sp.tcpParse (bl body)).sp)) = v3 at hH3 hR3 hB3 hHeld ⊢
 refine pk 16 48 (bm 20 0x1ffff) ?_
 refine pk 17 49 (bm 20 0x3ffff) ?_
 refine pk 18 50 (bm 20 0x7ffff) ?_
 have x := (blk_cell hR3 7).trans (show _ = some (.int .i64 dp) from rfl)
 have z := blk_frozen hR3 7
 refine one_ (i := 19) (N := none) (bm 20 0xfffff) rfl rfl (by kernel_rfl) (by decide) (fun K hK => ?_)
 refine skip_ (w1 := ?_) (by rfl) rfl ?_ ?_
 rotate_left
 ·go_simp
  rfl
 have hH4 : (v3.setCell ⟨B, 7, none⟩ (.int .i64 (Sp.tcpParse (bl body)).dp)).heap[H]? = some (.cells #[.int .i64 (Sp.tcpParse (bl body)).sp, .int .i64 (Sp.tcpParse (bl body)).dp, .int .u32 (Sp.tcpParse (bl body)).seq, .int .u32 (Sp.tcpParse (bl body)).ack, .int .i64 (Sp.tcpParse (bl body)).flags, .int .i64 (Sp.tcpParse (bl body)).win, .int .i64 (Sp.tcpParse (bl body)).urg, .string (lb (Sp.tcpParse (bl body)).opts)] 134 (0, 0)) := blk_far hH3 (by show H ≠ B; omega) _
 have hR4 : (v3.setCell ⟨B, 7, none⟩ (.int .i64 (Sp.tcpParse (bl body)).dp)).heap[B]? = some (.cells #[.int .i64 k, .int .i64 a, .int .i64 t, .int .i64 6, .int .u32 s, .int .u32 d, .int .i64 (Sp.tcpParse (bl body)).sp, .int .i64 (Sp.tcpParse (bl body)).dp, .int .i64 (Sp.tcpParse (bl body)).flags, .int .i64 tt, .int .u32 s2, .int .u32 d2, .int .i64 q, .int .i64 i] 51 (0, 0)) := blk_put hR3 7 _ rfl
 have hB4 : Below B w (v3.setCell ⟨B, 7, none⟩ (.int .i64 (Sp.tcpParse (bl body)).dp)) := Below.setCell hB3 (Nat.le_refl _) _
 refine hK.out _ _ (hRS _ hH4) (fun hHeld => ?_)
 clear hK K x z hH3 hR3 hB3
 generalize (v3.setCell ⟨B, 7, none⟩ (.int .i64 (Sp.tcpParse (bl body)).dp)) = v4 at hH4 hR4 hB4 hHeld ⊢
 refine done_ (by kernel_rfl) ?_
 go_wp2_with (fail)
 go_ret
 exact ⟨rfl, hR4, hB4⟩
set_option maxRecDepth 100000 in
set_option maxHeartbeats 8000000 in
theorem pk_ends_udp (B : Nat) (k a t s d sp dp fl tt s2 d2 q i : Int) (body : ByteArray) (w : World) (hs : body.size ≤ 140737488355328) (hR0 : w.heap[B]? = some (.cells (rr14 k a t 17 s d sp dp fl tt s2 d2 q i) 51 (0, 0))) :
  Calls Tryz.prog 59 #[.pointer (some ⟨B, 0, none⟩), .string body] w fun e w' => e = .returned (.int .i64 (Sp.udpParse (bl body)).2.2.2) ∧ w'.heap[B]? = some (.cells #[.int .i64 k, .int .i64 a, .int .i64 t, .int .i64 17, .int .u32 s, .int .u32 d, .int .i64 (Sp.udpParse (bl body)).1, .int .i64 (Sp.udpParse (bl body)).2.1, .int .i64 fl, .int .i64 tt, .int .u32 s2, .int .u32 d2, .int .i64 q, .int .i64 i] 51 (0, 0)) ∧ Below B w w' := by
 have HP := fun W => udp_Parse.calls body _ _ _ _ W (udp_Parse_eq (by omega))
 have c3 := (blk_cell hR0 3).trans (show _ = some (.int .i64 17) from rfl)
 have hBH := pk_lt hR0
 have HR0 := Lib.hid hR0
 clear hR0
 go_enter Tryz.func59, Tryz.ntmps59
 go_wp2_with (fail)
 refine (HP _).mono ?_
 rintro e w1 ⟨rfl, hb⟩
 have hR := pk_step HR0.out hb
 have hB : Below B w w1 := pk_below (Below.refl _ _) (by omega) hb
 clear hb HR0 c3
 have c6 := (blk_cell hR 6).trans (show _ = some (.int .i64 sp) from rfl)
 have c7 := (blk_cell hR 7).trans (show _ = some (.int .i64 dp) from rfl)
 have f6 := blk_frozen hR 6
 have f7 := blk_frozen hR 7
 have HQ := Lib.hid (And.intro hR hB)
 clear hR hB
 go_wp2_with (fail)
 obtain ⟨hR, hB⟩ := HQ.out
 go_ret
 exact ⟨rfl, blk_put (cs' := #[.int .i64 k, .int .i64 a, .int .i64 t, .int .i64 17, .int .u32 s, .int .u32 d, .int .i64 (Sp.udpParse (bl body)).1, .int .i64 (Sp.udpParse (bl body)).2.1, .int .i64 fl, .int .i64 tt, .int .u32 s2, .int .u32 d2, .int .i64 q, .int .i64 i]) (blk_put (cs' := #[.int .i64 k, .int .i64 a, .int .i64 t, .int .i64 17, .int .u32 s, .int .u32 d, .int .i64 (Sp.udpParse (bl body)).1, .int .i64 dp, .int .i64 fl, .int .i64 tt, .int .u32 s2, .int .u32 d2, .int .i64 q, .int .i64 i]) hR 6 _ rfl) 7 _ rfl, Below.setCell (Below.setCell hB (Nat.le_refl _) _) (Nat.le_refl _) _⟩
def pkArr (M Q Z : Nat) : Array Value := #[.func (.func 82) #[] #[.pointer (some ⟨M, 0, none⟩)], .int .i64 10, .func (.func 84) #[] #[.pointer (some ⟨Q, 0, none⟩)], .int .i64 2, .func (.func 85) #[] #[.pointer (some ⟨Q, 0, none⟩)], .int .i64 3, .func (.func 86) #[] #[.pointer (some ⟨Q, 0, none⟩), .pointer (some ⟨Z, 0, none⟩)], .int .i64 4, .func (.func 87) #[] #[.pointer (some ⟨Q, 0, none⟩)], .int .i64 8, .func (.func 89) #[] #[.pointer (some ⟨Q, 0, none⟩)], .int .i64 9, .func (.func 90) #[] #[.pointer (some ⟨Q, 0, none⟩), .pointer (some ⟨Z, 0, none⟩)], .int .i64 2]
def pkSt (B M Q Z L : Nat) (row : Array Value) (t c r : Int) (b q : ByteArray) (z : Int) (w W : World) : Prop :=
 W.heap[B]? = some (.cells row 51 (0, 0)) ∧ W.heap[M]? = some (.cells #[.int .i64 t, .int .i64 c, .int .u32 r, .string b] 128 (0, 0)) ∧ W.heap[Q]? = some (.cells #[.string q] 9 (0, 0)) ∧ W.heap[Z]? = some (.cells #[.int .i64 z] 3 (0, 0)) ∧ W.heap[L]? = some (.cells (pkArr M Q Z) 133 (0, 0)) ∧ Below B w W
theorem pkSt_below {B M Q Z L : Nat} {row : Array Value} {t c r : Int} {b q : ByteArray} {z : Int} {w W W' : World} (h : pkSt B M Q Z L row t c r b q z w W) (hb : Below W.heap.size W W') : pkSt B M Q Z L row t c r b q z w W' :=
 ⟨pk_step h.1 hb, pk_step h.2.1 hb, pk_step h.2.2.1 hb, pk_step h.2.2.2.1 hb, pk_step h.2.2.2.2.1 hb, pk_below h.2.2.2.2.2 (Nat.le_of_lt (pk_lt h.1)) hb⟩
theorem pkSt_set {B M Q Z L : Nat} {row : Array Value} {t c r : Int} {b q : ByteArray} {z : Int} {w W : World} (z' : Int) (h : pkSt B M Q Z L row t c r b q z w W) (h1 : B < M) (h2 : M < Q) (h3 : Q < Z) (h4 : Z < L) : pkSt B M Q Z L row t c r b q z' w (W.setCell ⟨Z, 0, none⟩ (.int .i64 z')) :=
 ⟨blk_far h.1 (by show B ≠ Z; omega) _, blk_far h.2.1 (by show M ≠ Z; omega) _, blk_far h.2.2.1 (by show Q ≠ Z; omega) _, blk_put h.2.2.2.1 0 _ rfl, blk_far h.2.2.2.2.1 (by show L ≠ Z; omega) _, Below.setCell h.2.2.2.2.2 (by show B ≤ Z; omega) _⟩
theorem pk_q1 (M : Nat) (t c r : Int) (b : ByteArray) (W : World) (h : W.heap[M]? = some (.cells #[.int .i64 t, .int .i64 c, .int .u32 r, .string b] 128 (0, 0))) :
  Calls Tryz.prog 82 #[.pointer (some ⟨M, 0, none⟩)] W fun e w' => e = .returned (.bool (!Sp.icmpErr t)) ∧ Below W.heap.size W w' := by
 have H := fun W => icmp_Error.calls t _ W (icmp_Error_eq t)
 have c0 := (blk_cell h 0).trans (show _ = some (.int .i64 t) from rfl)
 have HH := Lib.hid h
 clear h
 go_enter Tryz.func82, Tryz.ntmps82
 go_wp2_with (fail)
 refine (H _).mono ?_
 rintro e w1 ⟨rfl, hb⟩
 go_wp2_with (fail)
 go_ret
 exact ⟨rfl, hb.below⟩
theorem pk_q2 (Q : Nat) (q : ByteArray) (W : World) (h : W.heap[Q]? = some (.cells #[.string q] 9 (0, 0))) :
  Calls Tryz.prog 84 #[.pointer (some ⟨Q, 0, none⟩)] W fun e w' => e = .returned (.bool (decide ((q.size : Int) < 20))) ∧ Below W.heap.size W w' := by
 have c0 := str_box h
 have HH := Lib.hid h
 clear h
 go_enter Tryz.func84, Tryz.ntmps84
 go_wp2_with (fail)
 go_ret
 exact ⟨rfl, Below.refl _ _⟩
theorem pk_q3 (Q : Nat) (q : ByteArray) (W : World) (h : W.heap[Q]? = some (.cells #[.string q] 9 (0, 0))) (hq : 20 ≤ q.size) :
  Calls Tryz.prog 85 #[.pointer (some ⟨Q, 0, none⟩)] W fun e w' => e = .returned (.bool (bt q 0 / 16 != 4)) ∧ Below W.heap.size W w' := by
 have c0 := str_box h
 have b1 : decide (0 < q.size) = true := decide_eq_true (by omega)
 have b0 : decide (0 < (q.size : Int)) = true := decide_eq_true (by omega)
 have hbt : ∀ h : 0 < q.size, ((q[0]'h).toNat : Int) = bt q 0 := fun h => bt_at q 0 h
 have HH := Lib.hid h
 clear h
 go_enter Tryz.func85, Tryz.ntmps85
 go_wp2_with (fail)
 go_ret
 exact ⟨rfl, Below.refl _ _⟩
theorem pk_q4 (Q Z : Nat) (q : ByteArray) (z0 z : Int) (W : World) (h : W.heap[Q]? = some (.cells #[.string q] 9 (0, 0))) (hZ : W.heap[Z]? = some (.cells #[.int .i64 z0] 3 (0, 0))) (hQZ : Q < Z) (hq : 20 ≤ q.size) (hz : wrap64 (wrap64 (Go.bits .and .u8 (bt q 0) 15) * 4) = z) :
  Calls Tryz.prog 86 #[.pointer (some ⟨Q, 0, none⟩), .pointer (some ⟨Z, 0, none⟩)] W fun e w' => e = .returned (.bool (decide (z < 20 ∨ z > q.size))) ∧ w' = W.setCell ⟨Z, 0, none⟩ (.int .i64 z) := by
 have c0 := str_box h
 have c1 := (blk_cell hZ 0).trans (show _ = some (.int .i64 z0) from rfl)
 have f1 := blk_frozen hZ 0
 have c2 := (blk_cell (blk_put (cs' := #[.int .i64 z]) hZ 0 (.int .i64 z) rfl) 0).trans (show _ = some (.int .i64 z) from rfl)
 have c3 := str_box (blk_far h (show Q ≠ Z by omega) (.int .i64 z) (p := ⟨Z, 0, none⟩))
 have b1 : decide (0 < q.size) = true := decide_eq_true (by omega)
 have b0 : decide (0 < (q.size : Int)) = true := decide_eq_true (by omega)
 have hbt : ∀ h : 0 < q.size, ((q[0]'h).toNat : Int) = bt q 0 := fun h => bt_at q 0 h
 have HH := Lib.hid (And.intro h hZ)
 clear h hZ
 by_cases h1 : z < 20
 ·have d1 : decide (z < 20) = true := decide_eq_true h1
  have d3 : decide (z < 20 ∨ z > q.size) = true := decide_eq_true (Or.inl h1)
  rw [d3]
  clear d3
  go_enter Tryz.func86, Tryz.ntmps86
  go_wp2_with (fail)
  go_ret
  exact ⟨rfl, rfl⟩
 have d1 : decide (z < 20) = false := decide_eq_false h1
 by_cases h2 : z > q.size
 ·have d2 : decide (z > (q.size : Int)) = true := decide_eq_true h2
  have d2' : decide ((q.size : Int) < z) = true := decide_eq_true h2
  have d3 : decide (z < 20 ∨ z > q.size) = true := decide_eq_true (Or.inr h2)
  rw [d3]
  clear d3
  go_enter Tryz.func86, Tryz.ntmps86
  go_wp2_with (fail)
  go_ret
  exact ⟨rfl, rfl⟩
 have d2 : decide (z > (q.size : Int)) = false := decide_eq_false h2
 have d2' : decide ((q.size : Int) < z) = false := decide_eq_false h2
 have d3 : decide (z < 20 ∨ z > q.size) = false := decide_eq_false (by omega)
 rw [d3]
 clear d3
 go_enter Tryz.func86, Tryz.ntmps86
 go_wp2_with (fail)
 go_ret
 exact ⟨rfl, rfl⟩
theorem pk_q5 (Q : Nat) (q : ByteArray) (W : World) (hq : q.size ≤ 140737488355328) (h : W.heap[Q]? = some (.cells #[.string q] 9 (0, 0))) :
  Calls Tryz.prog 87 #[.pointer (some ⟨Q, 0, none⟩)] W fun e w' => e = .returned (.bool (Go.bits .and .i64 (Sp.get (bl q) 6 2).1 8191 != 0)) ∧ Below W.heap.size W w' := by
 have H := fun W => packet_get.calls q 6 2 _ W (packet_get_eq 6 2 (by omega))
 have c0 := str_box h
 have HH := Lib.hid h
 clear h
 go_enter Tryz.func87, Tryz.ntmps87
 go_wp2_with (fail)
 refine (H _).mono ?_
 rintro e w1 ⟨rfl, hb⟩
 go_wp2_with (fail)
 go_ret
 exact ⟨rfl, hb⟩
theorem pk_q6 (Q : Nat) (q : ByteArray) (W : World) (h : W.heap[Q]? = some (.cells #[.string q] 9 (0, 0))) (hq : 20 ≤ q.size) :
  Calls Tryz.prog 89 #[.pointer (some ⟨Q, 0, none⟩)] W fun e w' => e = .returned (.bool (decide (bt q 9 ≠ 6 ∧ bt q 9 ≠ 17))) ∧ Below W.heap.size W w' := by
 have c0 := str_box h
 have b1 : decide (9 < q.size) = true := decide_eq_true (by omega)
 have b0 : decide (9 < (q.size : Int)) = true := decide_eq_true (by omega)
 have hbt : ∀ h : 9 < q.size, ((q[9]'h).toNat : Int) = bt q 9 := fun h => bt_at q 9 h
 have HH := Lib.hid h
 clear h
 by_cases h1 : bt q 9 = 6
 ·have d1 : (bt q 9 != 6) = false := by simpa using h1
  have d3 : decide (bt q 9 ≠ 6 ∧ bt q 9 ≠ 17) = false := decide_eq_false (fun x => x.1 h1)
  rw [d3]
  clear d3 h1
  go_enter Tryz.func89, Tryz.ntmps89
  go_wp2_with (fail)
  go_ret
  exact ⟨rfl, Below.refl _ _⟩
 have d1 : (bt q 9 != 6) = true := by simpa using h1
 have d3 : decide (bt q 9 ≠ 6 ∧ bt q 9 ≠ 17) = (bt q 9 != 17) := by
  by_cases h2 : bt q 9 = 17
  ·rw [decide_eq_false (fun x => x.2 h2), h2]; rfl
  ·rw [decide_eq_true ⟨h1, h2⟩]; symm; simpa using h2
 rw [d3]
 clear d3 h1
 go_enter Tryz.func89, Tryz.ntmps89
 go_wp2_with (fail)
 go_ret
 exact ⟨rfl, Below.refl _ _⟩
theorem pk_q7 (Q Z : Nat) (q : ByteArray) (z : Int) (W : World) (h : W.heap[Q]? = some (.cells #[.string q] 9 (0, 0))) (hZ : W.heap[Z]? = some (.cells #[.int .i64 z] 3 (0, 0))) :
  Calls Tryz.prog 90 #[.pointer (some ⟨Q, 0, none⟩), .pointer (some ⟨Z, 0, none⟩)] W fun e w' => e = .returned (.bool (decide (wrap64 ((q.size : Int) - z) < 8))) ∧ Below W.heap.size W w' := by
 have c0 := str_box h
 have c1 := (blk_cell hZ 0).trans (show _ = some (.int .i64 z) from rfl)
 have HH := Lib.hid (And.intro h hZ)
 clear h hZ
 go_enter Tryz.func90, Tryz.ntmps90
 go_wp2_with (fail)
 go_ret
 exact ⟨rfl, Below.refl _ _⟩
theorem pk_bt {s : ByteArray} {i : Nat} (h : i < s.size) : bt s (i : Int) = Sp.byteAt (bl s) i := by
 rw [bt_bl s (i : Int) (by rw [Int.toNat_natCast]; exact h)]
 unfold Sp.byteAt
 rw [List.getD_eq_getElem?_getD, List.getElem?_eq_getElem (by simpa using h)]; rfl
theorem pk_len_b (s : List UInt8) : 0 ≤ Sp.ip4Len s ∧ Sp.ip4Len s ≤ 60 := by unfold Sp.ip4Len; omega
theorem pk_and15 : ∀ x : Fin 256, Go.bits .and .u8 (x.val : Int) 15 = (x.val : Int) % 16 := by decide +kernel
theorem pk_len {s : ByteArray} (h : 0 < s.size) : wrap64 (wrap64 (Go.bits .and .u8 (bt s 0) 15) * 4) = Sp.ip4Len (bl s) := by
 have hb := Sp.byteAt_bounds (bl s) 0
 have e : bt s 0 = Sp.byteAt (bl s) 0 := pk_bt (i := 0) h
 have e2 := pk_and15 ⟨(Sp.byteAt (bl s) 0).toNat, by omega⟩
 have e3 : (((Sp.byteAt (bl s) 0).toNat : Nat) : Int) = Sp.byteAt (bl s) 0 := by omega
 simp only [e3] at e2
 rw [e, e2, wrap_id (n := Sp.byteAt (bl s) 0 % 16) (by omega) (by omega), wrap_id (by omega) (by omega), Sp.byteAt_zero]
 unfold Sp.ip4Len; omega
theorem pk_and13 (s : List UInt8) : Go.bits .and .i64 (Sp.get s 6 2).1 8191 = (Sp.get s 6 2).1 % 8192 := by
 have h : 0 ≤ (Sp.get s 6 2).1 ∧ (Sp.get s 6 2).1 < 4294967296 := by
  unfold Sp.get
  split
  case isTrue h => have := Sp.has_iff.1 h; exact Sp.beNum_small _ (by rw [List.length_take]; omega)
  case isFalse => exact ⟨by decide, by decide⟩
 exact bits_mask .i64 63 (by decide) (fun n a b => by rw [IntKind.wrap_i64]; omega) 13 (by decide) _ h.1 (by omega)
section
theorem pk_store_func {P : Program} {w : World} (a : Addr) (m : Mode) (fn : Fn) (f c : Array Value) : (store a (.func fn f c) m).run P w = stored P w a (.func fn f c) m := run_store P w a _ m rfl
attribute [local go_sem] pk_store_func
def pkFirst (t : Int) (q : List UInt8) : Int := if Sp.icmpErr t = true then Sp.qErr q else 10
set_option maxRecDepth 100000 in
set_option maxHeartbeats 8000000 in
theorem pk_first (B M Q Z L : Nat) (hBM : B < M) (hMQ : M < Q) (hQZ : Q < Z) (hZL : Z < L) (row : Array Value) (t c r : Int) (b q : ByteArray) (w W0 : World) (hq : q.size ≤ 140737488355328) (h0 : pkSt B M Q Z L row t c r b q 0 w W0) :
  Calls Tryz.prog 81 #[.slice (some ⟨L, 0, none⟩) 7 7] W0 fun e w' => ∃ z, e = .returned (.int .i64 (pkFirst t (bl q))) ∧ pkSt B M Q Z L row t c r b q z w w' ∧ (pkFirst t (bl q) = 0 → z = Sp.ip4Len (bl q)) := by
 have hbl := bl_length q
 go_enter Tryz.func81, Tryz.ntmps81
 go_wp2_with (fail)
 refine wp_loop_rounds 8 ?_
 rw [rounds_succ]
 have x0 := (blk_cell h0.2.2.2.2.1 0).trans (show _ = some (.func (.func 82) #[] #[.pointer (some ⟨M, 0, none⟩)]) from rfl)
 have x1 := (blk_cell h0.2.2.2.2.1 1).trans (show _ = some (.int .i64 10) from rfl)
 go_wp2_with (fail)
 have hx := World.alloc_heap_new W0 (.cells #[.func (.func 82) #[] #[.pointer (some ⟨M, 0, none⟩)], .int .i64 10] 133)
 have g := pkSt_below h0 (below_alloc (Below.refl _ _) (.cells #[.func (.func 82) #[] #[.pointer (some ⟨M, 0, none⟩)], .int .i64 10] 133))
 clear x0 x1
 obtain ⟨X, hX⟩ : ∃ X, W0.heap.size = X := ⟨_, rfl⟩
 have hLX : L < X := by rw [← hX]; exact pk_lt h0.2.2.2.2.1
 clear h0
 rw [hX] at hx
 (try simp only [hX])
 generalize W0.alloc (.cells #[.func (.func 82) #[] #[.pointer (some ⟨M, 0, none⟩)], .int .i64 10] 133) = V0 at hx g ⊢
 refine (pk_q1 M t c r b _ g.2.1).mono ?_
 rintro e W1 ⟨rfl, hb⟩
 have h1 := pkSt_below g hb
 have hx' := pk_step hx hb
 clear g hx hb
 have c1 := (blk_cell hx' 1).trans (show _ = some (.int .i64 10) from rfl)
 clear hx'
 by_cases d0 : Sp.icmpErr t = true
 rotate_left
 ·rw [show (!Sp.icmpErr t) = true by rw [Bool.eq_false_iff.2 d0]; rfl]
  have f : pkFirst t (bl q) = 10 := by
   unfold pkFirst
   rw [if_neg d0]
  go_wp2_with (fail)
  go_ret
  exact ⟨0, by rw [f]; rfl, h1, fun x => by rw [f] at x; cases x⟩
 rw [show (!Sp.icmpErr t) = false by rw [d0]; rfl]
 have D0 := AA d0
 clear d0
 go_wp2_with (fail)
 clear c1 hLX hX
 rw [rounds_succ]
 have x0 := (blk_cell h1.2.2.2.2.1 2).trans (show _ = some (.func (.func 84) #[] #[.pointer (some ⟨Q, 0, none⟩)]) from rfl)
 have x1 := (blk_cell h1.2.2.2.2.1 3).trans (show _ = some (.int .i64 2) from rfl)
 go_wp2_with (fail)
 have hx := World.alloc_heap_new W1 (.cells #[.func (.func 84) #[] #[.pointer (some ⟨Q, 0, none⟩)], .int .i64 2] 133)
 have g := pkSt_below h1 (below_alloc (Below.refl _ _) (.cells #[.func (.func 84) #[] #[.pointer (some ⟨Q, 0, none⟩)], .int .i64 2] 133))
 clear x0 x1
 obtain ⟨X, hX⟩ : ∃ X, W1.heap.size = X := ⟨_, rfl⟩
 have hLX : L < X := by rw [← hX]; exact pk_lt h1.2.2.2.2.1
 clear h1
 rw [hX] at hx
 (try simp only [hX])
 generalize W1.alloc (.cells #[.func (.func 84) #[] #[.pointer (some ⟨Q, 0, none⟩)], .int .i64 2] 133) = V1 at hx g ⊢
 refine (pk_q2 Q q _ g.2.2.1).mono ?_
 rintro e W2 ⟨rfl, hb⟩
 have h2 := pkSt_below g hb
 have hx' := pk_step hx hb
 clear g hx hb
 have c1 := (blk_cell hx' 1).trans (show _ = some (.int .i64 2) from rfl)
 clear hx'
 by_cases d1 : ¬ (q.size : Int) < 20
 rotate_left
 ·rw [show decide ((q.size : Int) < 20) = true from decide_eq_true (Decidable.not_not.1 d1)]
  have f : pkFirst t (bl q) = 2 := by
   unfold pkFirst Sp.qErr
   rw [if_pos D0.out, if_pos (show ((bl q).length : Int) < 20 by rw [hbl]; exact Decidable.not_not.1 d1)]
  go_wp2_with (fail)
  go_ret
  exact ⟨0, by rw [f]; rfl, h2, fun x => by rw [f] at x; cases x⟩
 rw [show decide ((q.size : Int) < 20) = false from decide_eq_false d1]
 have D1 := AA d1
 clear d1
 go_wp2_with (fail)
 clear c1 hLX hX
 rw [rounds_succ]
 have x0 := (blk_cell h2.2.2.2.2.1 4).trans (show _ = some (.func (.func 85) #[] #[.pointer (some ⟨Q, 0, none⟩)]) from rfl)
 have x1 := (blk_cell h2.2.2.2.2.1 5).trans (show _ = some (.int .i64 3) from rfl)
 go_wp2_with (fail)
 have hx := World.alloc_heap_new W2 (.cells #[.func (.func 85) #[] #[.pointer (some ⟨Q, 0, none⟩)], .int .i64 3] 133)
 have g := pkSt_below h2 (below_alloc (Below.refl _ _) (.cells #[.func (.func 85) #[] #[.pointer (some ⟨Q, 0, none⟩)], .int .i64 3] 133))
 clear x0 x1
 obtain ⟨X, hX⟩ : ∃ X, W2.heap.size = X := ⟨_, rfl⟩
 have hLX : L < X := by rw [← hX]; exact pk_lt h2.2.2.2.2.1
 clear h2
 rw [hX] at hx
 (try simp only [hX])
 generalize W2.alloc (.cells #[.func (.func 85) #[] #[.pointer (some ⟨Q, 0, none⟩)], .int .i64 3] 133) = V2 at hx g ⊢
 refine (pk_q3 Q q _ g.2.2.1 (by have := D1.out; omega)).mono ?_
 rintro e W3 ⟨rfl, hb⟩
 have h3 := pkSt_below g hb
 have hx' := pk_step hx hb
 clear g hx hb
 have c1 := (blk_cell hx' 1).trans (show _ = some (.int .i64 3) from rfl)
 clear hx'
 have e0 : bt q 0 = Sp.ip4B0 (bl q) := i4_b0 (by have := D1.out; omega)
 rw [e0]
 by_cases d2 : Sp.ip4B0 (bl q) / 16 = 4
 rotate_left
 ·rw [show (Sp.ip4B0 (bl q) / 16 != 4) = true by simpa using d2]
  have f : pkFirst t (bl q) = 3 := by
   unfold pkFirst Sp.qErr
   rw [if_pos D0.out, if_neg (show ¬ ((bl q).length : Int) < 20 by rw [hbl]; have := D1.out; omega), if_pos d2]
  go_wp2_with (fail)
  go_ret
  exact ⟨0, by rw [f]; rfl, h3, fun x => by rw [f] at x; cases x⟩
 rw [show (Sp.ip4B0 (bl q) / 16 != 4) = false by rw [d2]; rfl]
 have D2 := AA d2
 clear d2
 go_wp2_with (fail)
 clear c1 hLX hX
 rw [rounds_succ]
 have x0 := (blk_cell h3.2.2.2.2.1 6).trans (show _ = some (.func (.func 86) #[] #[.pointer (some ⟨Q, 0, none⟩), .pointer (some ⟨Z, 0, none⟩)]) from rfl)
 have x1 := (blk_cell h3.2.2.2.2.1 7).trans (show _ = some (.int .i64 4) from rfl)
 go_wp2_with (fail)
 have hx := World.alloc_heap_new W3 (.cells #[.func (.func 86) #[] #[.pointer (some ⟨Q, 0, none⟩), .pointer (some ⟨Z, 0, none⟩)], .int .i64 4] 133)
 have g := pkSt_below h3 (below_alloc (Below.refl _ _) (.cells #[.func (.func 86) #[] #[.pointer (some ⟨Q, 0, none⟩), .pointer (some ⟨Z, 0, none⟩)], .int .i64 4] 133))
 clear x0 x1
 obtain ⟨X, hX⟩ : ∃ X, W3.heap.size = X := ⟨_, rfl⟩
 have hLX : L < X := by rw [← hX]; exact pk_lt h3.2.2.2.2.1
 clear h3
 rw [hX] at hx
 (try simp only [hX])
 generalize W3.alloc (.cells #[.func (.func 86) #[] #[.pointer (some ⟨Q, 0, none⟩), .pointer (some ⟨Z, 0, none⟩)], .int .i64 4] 133) = V3 at hx g ⊢
 obtain ⟨z, hz⟩ : ∃ z, wrap64 (wrap64 (Go.bits .and .u8 (bt q 0) 15) * 4) = z := ⟨_, rfl⟩
 refine (pk_q4 Q Z q 0 z _ g.2.2.1 g.2.2.2.1 hQZ (by have := D1.out; omega) hz).mono ?_
 rintro e _ ⟨rfl, rfl⟩
 have h4 := pkSt_set z g hBM hMQ hQZ hZL
 have hx' := blk_far hx (by show X ≠ Z; omega) (.int .i64 z) (p := ⟨Z, 0, none⟩)
 clear g hx
 generalize V3.setCell ⟨Z, 0, none⟩ (.int .i64 z) = W4 at h4 hx' ⊢
 have c1 := (blk_cell hx' 1).trans (show _ = some (.int .i64 4) from rfl)
 clear hx'
 have e1 : z = Sp.ip4Len (bl q) := by rw [← hz]; exact pk_len (by have := D1.out; omega)
 have E1 := AA e1
 clear hz
 rw [e1]
 clear e1
 by_cases d3 : ¬ (Sp.ip4Len (bl q) < 20 ∨ Sp.ip4Len (bl q) > q.size)
 rotate_left
 ·rw [show decide (Sp.ip4Len (bl q) < 20 ∨ Sp.ip4Len (bl q) > (q.size : Int)) = true from decide_eq_true (Decidable.not_not.1 d3)]
  have f : pkFirst t (bl q) = 4 := by
   unfold pkFirst Sp.qErr
   rw [if_pos D0.out, if_neg (show ¬ ((bl q).length : Int) < 20 by rw [hbl]; have := D1.out; omega), if_neg (fun x => x D2.out), if_pos (show (Sp.ip4Len (bl q) < 20 ∨ Sp.ip4Len (bl q) > ((bl q).length : Int)) by rw [hbl]; exact Decidable.not_not.1 d3)]
  go_wp2_with (fail)
  go_ret
  exact ⟨z, by rw [f]; rfl, h4, fun x => by rw [f] at x; cases x⟩
 rw [show decide (Sp.ip4Len (bl q) < 20 ∨ Sp.ip4Len (bl q) > (q.size : Int)) = false from decide_eq_false d3]
 have D3 := AA d3
 clear d3
 go_wp2_with (fail)
 clear c1 hLX hX
 rw [rounds_succ]
 have x0 := (blk_cell h4.2.2.2.2.1 8).trans (show _ = some (.func (.func 87) #[] #[.pointer (some ⟨Q, 0, none⟩)]) from rfl)
 have x1 := (blk_cell h4.2.2.2.2.1 9).trans (show _ = some (.int .i64 8) from rfl)
 go_wp2_with (fail)
 have hx := World.alloc_heap_new W4 (.cells #[.func (.func 87) #[] #[.pointer (some ⟨Q, 0, none⟩)], .int .i64 8] 133)
 have g := pkSt_below h4 (below_alloc (Below.refl _ _) (.cells #[.func (.func 87) #[] #[.pointer (some ⟨Q, 0, none⟩)], .int .i64 8] 133))
 clear x0 x1
 obtain ⟨X, hX⟩ : ∃ X, W4.heap.size = X := ⟨_, rfl⟩
 have hLX : L < X := by rw [← hX]; exact pk_lt h4.2.2.2.2.1
 clear h4
 rw [hX] at hx
 (try simp only [hX])
 generalize W4.alloc (.cells #[.func (.func 87) #[] #[.pointer (some ⟨Q, 0, none⟩)], .int .i64 8] 133) = V4 at hx g ⊢
 refine (pk_q5 Q q _ hq g.2.2.1).mono ?_
 rintro e W5 ⟨rfl, hb⟩
 have h5 := pkSt_below g hb
 have hx' := pk_step hx hb
 clear g hx hb
 have c1 := (blk_cell hx' 1).trans (show _ = some (.int .i64 8) from rfl)
 clear hx'
 have e2 := pk_and13 (bl q)
 rw [e2]
 by_cases d4 : (Sp.get (bl q) 6 2).1 % 8192 = 0
 rotate_left
 ·rw [show ((Sp.get (bl q) 6 2).1 % 8192 != 0) = true by simpa using d4]
  have f : pkFirst t (bl q) = 8 := by
   unfold pkFirst Sp.qErr
   rw [if_pos D0.out, if_neg (show ¬ ((bl q).length : Int) < 20 by rw [hbl]; have := D1.out; omega), if_neg (fun x => x D2.out), if_neg (show ¬ (Sp.ip4Len (bl q) < 20 ∨ Sp.ip4Len (bl q) > ((bl q).length : Int)) by rw [hbl]; exact D3.out), if_pos d4]
  go_wp2_with (fail)
  go_ret
  exact ⟨z, by rw [f]; rfl, h5, fun x => by rw [f] at x; cases x⟩
 rw [show ((Sp.get (bl q) 6 2).1 % 8192 != 0) = false by rw [d4]; rfl]
 have D4 := AA d4
 clear d4
 go_wp2_with (fail)
 clear c1 hLX hX
 rw [rounds_succ]
 have x0 := (blk_cell h5.2.2.2.2.1 10).trans (show _ = some (.func (.func 89) #[] #[.pointer (some ⟨Q, 0, none⟩)]) from rfl)
 have x1 := (blk_cell h5.2.2.2.2.1 11).trans (show _ = some (.int .i64 9) from rfl)
 go_wp2_with (fail)
 have hx := World.alloc_heap_new W5 (.cells #[.func (.func 89) #[] #[.pointer (some ⟨Q, 0, none⟩)], .int .i64 9] 133)
 have g := pkSt_below h5 (below_alloc (Below.refl _ _) (.cells #[.func (.func 89) #[] #[.pointer (some ⟨Q, 0, none⟩)], .int .i64 9] 133))
 clear x0 x1
 obtain ⟨X, hX⟩ : ∃ X, W5.heap.size = X := ⟨_, rfl⟩
 have hLX : L < X := by rw [← hX]; exact pk_lt h5.2.2.2.2.1
 clear h5
 rw [hX] at hx
 (try simp only [hX])
 generalize W5.alloc (.cells #[.func (.func 89) #[] #[.pointer (some ⟨Q, 0, none⟩)], .int .i64 9] 133) = V5 at hx g ⊢
 refine (pk_q6 Q q _ g.2.2.1 (by have := D1.out; omega)).mono ?_
 rintro e W6 ⟨rfl, hb⟩
 have h6 := pkSt_below g hb
 have hx' := pk_step hx hb
 clear g hx hb
 have c1 := (blk_cell hx' 1).trans (show _ = some (.int .i64 9) from rfl)
 clear hx'
 have e3 : bt q 9 = Sp.byteAt (bl q) 9 := pk_bt (i := 9) (by have := D1.out; omega)
 rw [e3]
 by_cases d5 : ¬ (Sp.byteAt (bl q) 9 ≠ 6 ∧ Sp.byteAt (bl q) 9 ≠ 17)
 rotate_left
 ·rw [show decide (Sp.byteAt (bl q) 9 ≠ 6 ∧ Sp.byteAt (bl q) 9 ≠ 17) = true from decide_eq_true (Decidable.not_not.1 d5)]
  have f : pkFirst t (bl q) = 9 := by
   unfold pkFirst Sp.qErr
   rw [if_pos D0.out, if_neg (show ¬ ((bl q).length : Int) < 20 by rw [hbl]; have := D1.out; omega), if_neg (fun x => x D2.out), if_neg (show ¬ (Sp.ip4Len (bl q) < 20 ∨ Sp.ip4Len (bl q) > ((bl q).length : Int)) by rw [hbl]; exact D3.out), if_neg (fun x => x D4.out), if_pos (Decidable.not_not.1 d5)]
  go_wp2_with (fail)
  go_ret
  exact ⟨z, by rw [f]; rfl, h6, fun x => by rw [f] at x; cases x⟩
 rw [show decide (Sp.byteAt (bl q) 9 ≠ 6 ∧ Sp.byteAt (bl q) 9 ≠ 17) = false from decide_eq_false d5]
 have D5 := AA d5
 clear d5
 go_wp2_with (fail)
 clear c1 hLX hX
 rw [rounds_succ]
 have x0 := (blk_cell h6.2.2.2.2.1 12).trans (show _ = some (.func (.func 90) #[] #[.pointer (some ⟨Q, 0, none⟩), .pointer (some ⟨Z, 0, none⟩)]) from rfl)
 have x1 := (blk_cell h6.2.2.2.2.1 13).trans (show _ = some (.int .i64 2) from rfl)
 go_wp2_with (fail)
 have hx := World.alloc_heap_new W6 (.cells #[.func (.func 90) #[] #[.pointer (some ⟨Q, 0, none⟩), .pointer (some ⟨Z, 0, none⟩)], .int .i64 2] 133)
 have g := pkSt_below h6 (below_alloc (Below.refl _ _) (.cells #[.func (.func 90) #[] #[.pointer (some ⟨Q, 0, none⟩), .pointer (some ⟨Z, 0, none⟩)], .int .i64 2] 133))
 clear x0 x1
 obtain ⟨X, hX⟩ : ∃ X, W6.heap.size = X := ⟨_, rfl⟩
 have hLX : L < X := by rw [← hX]; exact pk_lt h6.2.2.2.2.1
 clear h6
 rw [hX] at hx
 (try simp only [hX])
 generalize W6.alloc (.cells #[.func (.func 90) #[] #[.pointer (some ⟨Q, 0, none⟩), .pointer (some ⟨Z, 0, none⟩)], .int .i64 2] 133) = V6 at hx g ⊢
 refine (pk_q7 Q Z q z _ g.2.2.1 g.2.2.2.1).mono ?_
 rintro e W7 ⟨rfl, hb⟩
 have h7 := pkSt_below g hb
 have hx' := pk_step hx hb
 clear g hx hb
 have c1 := (blk_cell hx' 1).trans (show _ = some (.int .i64 2) from rfl)
 clear hx'
 have hz6 : wrap64 ((q.size : Int) - z) = (q.size : Int) - Sp.ip4Len (bl q) := by rw [E1.out]; exact wrap_id (by have := pk_len_b (bl q); omega) (by have := pk_len_b (bl q); omega)
 rw [hz6]
 by_cases d6 : ¬ (q.size : Int) - Sp.ip4Len (bl q) < 8
 rotate_left
 ·rw [show decide ((q.size : Int) - Sp.ip4Len (bl q) < 8) = true from decide_eq_true (Decidable.not_not.1 d6)]
  have f : pkFirst t (bl q) = 2 := by
   unfold pkFirst Sp.qErr
   rw [if_pos D0.out, if_neg (show ¬ ((bl q).length : Int) < 20 by rw [hbl]; have := D1.out; omega), if_neg (fun x => x D2.out), if_neg (show ¬ (Sp.ip4Len (bl q) < 20 ∨ Sp.ip4Len (bl q) > ((bl q).length : Int)) by rw [hbl]; exact D3.out), if_neg (fun x => x D4.out), if_neg D5.out, if_pos (show ((bl q).length : Int) - Sp.ip4Len (bl q) < 8 by rw [hbl]; exact Decidable.not_not.1 d6)]
  go_wp2_with (fail)
  go_ret
  exact ⟨z, by rw [f]; rfl, h7, fun x => by rw [f] at x; cases x⟩
 rw [show decide ((q.size : Int) - Sp.ip4Len (bl q) < 8) = false from decide_eq_false d6]
 have D6 := AA d6
 clear d6
 go_wp2_with (fail)
 clear c1 hLX hX
 rw [rounds_succ]
 go_wp2_with (fail)
 go_ret
 have f : pkFirst t (bl q) = 0 := by
  unfold pkFirst Sp.qErr
  rw [if_pos D0.out, if_neg (show ¬ ((bl q).length : Int) < 20 by rw [hbl]; have := D1.out; omega), if_neg (fun x => x D2.out), if_neg (show ¬ (Sp.ip4Len (bl q) < 20 ∨ Sp.ip4Len (bl q) > ((bl q).length : Int)) by rw [hbl]; exact D3.out), if_neg (fun x => x D4.out), if_neg D5.out, if_neg (show ¬ ((bl q).length : Int) - Sp.ip4Len (bl q) < 8 by rw [hbl]; have := D6.out; omega)]
 exact ⟨z, by rw [f]; rfl, h7, fun _ => E1.out⟩
end
theorem pkSt_start {B : Nat} {row : Array Value} {t c r : Int} {q : ByteArray} {w W : World} (hR : W.heap[B]? = some (.cells row 51 (0, 0))) (hB : Below B w W) :
  pkSt B W.heap.size (W.heap.size + 1) (W.heap.size + 1 + 1) (W.heap.size + 1 + 1 + 1) row t c r q q 0 w ((((W.alloc (.cells #[.int .i64 t, .int .i64 c, .int .u32 r, .string q] 128)).alloc (.cells #[.string q] 9)).alloc (.cells #[.int .i64 0] 3)).alloc (.cells (pkArr W.heap.size (W.heap.size + 1) (W.heap.size + 1 + 1)) 133)) := by
 have hlt := pk_lt hR
 have s1 : (W.alloc (.cells #[.int .i64 t, .int .i64 c, .int .u32 r, .string q] 128)).heap.size = W.heap.size + 1 := by simp
 have s2 : ((W.alloc (.cells #[.int .i64 t, .int .i64 c, .int .u32 r, .string q] 128)).alloc (.cells #[.string q] 9)).heap.size = W.heap.size + 1 + 1 := by simp
 have s3 : (((W.alloc (.cells #[.int .i64 t, .int .i64 c, .int .u32 r, .string q] 128)).alloc (.cells #[.string q] 9)).alloc (.cells #[.int .i64 0] 3)).heap.size = W.heap.size + 1 + 1 + 1 := by simp
 refine ⟨pk_alloc _ (pk_alloc _ (pk_alloc _ (pk_alloc _ hR))), pk_alloc _ (pk_alloc _ (pk_alloc _ (World.alloc_heap_new W _))), pk_alloc _ (pk_alloc _ ?_), pk_alloc _ ?_, ?_, ?_⟩
 ·rw [← s1]; exact World.alloc_heap_new _ _
 ·rw [← s2]; exact World.alloc_heap_new _ _
 ·rw [← s3]; exact World.alloc_heap_new _ _
 exact Below.alloc (Below.alloc (Below.alloc (Below.alloc hB (by omega) _) (by rw [s1]; omega) _) (by rw [s2]; omega) _) (by rw [s3]; omega) _
theorem pk_small (s : List UInt8) (a b : Int) : 0 ≤ (Sp.get s a b).1 ∧ (Sp.get s a b).1 < 4294967296 := by
 unfold Sp.get
 split
 case isTrue h => have := Sp.has_iff.1 h; exact Sp.beNum_small _ (by rw [List.length_take]; omega)
 case isFalse => exact ⟨by decide, by decide⟩
theorem pk_qlen {q : List UInt8} (h : Sp.qErr q = 0) : 20 ≤ q.length ∧ 20 ≤ Sp.ip4Len q := by
 unfold Sp.qErr at h
 by_cases h1 : (q.length : Int) < 20
 ·rw [if_pos h1] at h; cases h
 rw [if_neg h1] at h
 by_cases h2 : Sp.ip4B0 q / 16 ≠ 4
 ·rw [if_pos h2] at h; cases h
 rw [if_neg h2] at h
 by_cases h3 : Sp.ip4Len q < 20 ∨ Sp.ip4Len q > q.length
 ·rw [if_pos h3] at h; cases h
 omega
set_option maxRecDepth 100000 in
set_option maxHeartbeats 8000000 in
theorem pk_quoted_bad (B : Nat) (k a tl p s d sp dp fl tt s2 d2 qq ii : Int) (body : ByteArray) (w : World) (hR0 : w.heap[B]? = some (.cells (rr14 k a tl p s d sp dp fl tt s2 d2 qq ii) 51 (0, 0))) (ha : 0 ≤ a ∧ a ≤ 100000) (t c r er : Int) (q : ByteArray) (her : er ≠ 0) (HP : ∀ W, Calls Tryz.prog 80 #[.string body] W fun e w' => e = .returned (.tuple #[.agg #[.int .i64 t, .int .i64 c, .int .u32 r, .string q], .int .i64 er]) ∧ Below W.heap.size W w') :
  Calls Tryz.prog 58 #[.pointer (some ⟨B, 0, none⟩), .string body] w fun e w' => e = .returned (.int .i64 er) ∧ Below B w w' := by
 have d0 : (er != 0) = true := by simpa using her
 have d1 : (er == 0) = false := by simpa using her
 have hBH := pk_lt hR0
 clear her
 have HR0 := Lib.hid hR0
 clear hR0
 go_enter Tryz.func58, Tryz.ntmps58
 go_wp2_with (fail)
 refine (HP _).mono ?_
 rintro e w1 ⟨rfl, hb⟩
 go_wp2_with (fail)
 go_ret
 exact ⟨rfl, Below.alloc (pk_below (Below.refl _ _) (Nat.le_of_lt hBH) hb) (by have := hb.size; omega) _⟩
set_option maxRecDepth 100000 in
set_option maxHeartbeats 8000000 in
theorem pk_quoted_wrong (B : Nat) (k a tl p s d sp dp fl tt s2 d2 qq ii : Int) (body : ByteArray) (w : World) (hR0 : w.heap[B]? = some (.cells (rr14 k a tl p s d sp dp fl tt s2 d2 qq ii) 51 (0, 0))) (ha : 0 ≤ a ∧ a ≤ 100000) (t c r : Int) (q : ByteArray) (hq : q.size ≤ 140737488355328) (HP : ∀ W, Calls Tryz.prog 80 #[.string body] W fun e w' => e = .returned (.tuple #[.agg #[.int .i64 t, .int .i64 c, .int .u32 r, .string q], .int .i64 0]) ∧ Below W.heap.size W w') (hw : pkFirst t (bl q) ≠ 0) :
  Calls Tryz.prog 58 #[.pointer (some ⟨B, 0, none⟩), .string body] w fun e w' => e = .returned (.int .i64 (pkFirst t (bl q))) ∧ Below B w w' := by
 obtain ⟨er, he⟩ : ∃ er, pkFirst t (bl q) = er := ⟨_, rfl⟩
 rw [he] at hw ⊢
 have d0 : (er != 0) = true := by simpa using hw
 have d1 : (er == 0) = false := by simpa using hw
 have hBH := pk_lt hR0
 have HR0 := Lib.hid hR0
 clear hR0
 go_enter Tryz.func58, Tryz.ntmps58
 go_wp2_with (fail)
 refine (HP _).mono ?_
 rintro e w1 ⟨rfl, hb⟩
 have c3 := (blk_cell (World.alloc_heap_new w1 (.cells #[.int .i64 t, .int .i64 c, .int .u32 r, .string q] 128)) 3).trans (show _ = some (.string q) from rfl)
 have hR := Lib.hid (pk_step HR0.out hb)
 have hB := Lib.hid (pk_below (Below.refl B w) (Nat.le_of_lt hBH) hb)
 have hBM : B < w1.heap.size := pk_lt hR.out
 clear hb HR0
 go_wp2_with (fail)
 clear c3
 have h0 := pkSt_start (t := t) (c := c) (r := r) (q := q) hR.out hB.out
 clear hR hB
 have HF := pk_first B w1.heap.size (w1.heap.size + 1) (w1.heap.size + 1 + 1) (w1.heap.size + 1 + 1 + 1) hBM (by omega) (by omega) (by omega) _ t c r q q w _ hq h0
 clear h0
 refine HF.mono ?_
 clear HF
 rintro e w2 ⟨z, rfl, h2, hz⟩
 rw [he]
 clear hz
 go_wp2_with (fail)
 go_ret
 exact ⟨rfl, h2.2.2.2.2.2⟩
set_option maxRecDepth 100000 in
set_option maxHeartbeats 8000000 in
theorem pk_quoted_right (B : Nat) (k a tl p s d sp dp fl tt s2 d2 qq ii : Int) (body : ByteArray) (w : World) (hR0 : w.heap[B]? = some (.cells (rr14 k a tl p s d sp dp fl tt s2 d2 qq ii) 51 (0, 0))) (ha : 0 ≤ a ∧ a ≤ 100000) (t c r : Int) (q : ByteArray) (hq : q.size ≤ 140737488355328) (HP : ∀ W, Calls Tryz.prog 80 #[.string body] W fun e w' => e = .returned (.tuple #[.agg #[.int .i64 t, .int .i64 c, .int .u32 r, .string q], .int .i64 0]) ∧ Below W.heap.size W w') (hw : pkFirst t (bl q) = 0) :
  Calls Tryz.prog 58 #[.pointer (some ⟨B, 0, none⟩), .string body] w fun e w' => e = .returned (.int .i64 0) ∧ w'.heap[B]? = some (.cells (rr14 2 a tl ((Sp.byteAt (bl q) 9)) ((Sp.get (bl q) 12 4).1) ((Sp.get (bl q) 16 4).1) ((Sp.get (bl q) (Sp.ip4Len (bl q)) 2).1) ((Sp.get (bl q) (Sp.ip4Len (bl q) + 2) 2).1) fl tt s2 d2 ((a + 8)) ((a + 8 + Sp.ip4Len (bl q)))) 51 (0, 0)) ∧ Below B w w' := by
 have hqe : Sp.qErr (bl q) = 0 := by
  unfold pkFirst at hw
  by_cases hi : Sp.icmpErr t = true
  ·rw [if_pos hi] at hw; exact hw
  ·rw [if_neg hi] at hw; cases hw
 have hql := pk_qlen hqe
 have hbl := bl_length q
 have h20 : 20 ≤ q.size := by omega
 have hlb := pk_len_b (bl q)
 clear hqe hbl
 have hBH := pk_lt hR0
 have HR0 := Lib.hid hR0
 clear hR0
 go_enter Tryz.func58, Tryz.ntmps58
 go_wp2_with (fail)
 refine (HP _).mono ?_
 rintro e w1 ⟨rfl, hb⟩
 have c3 := (blk_cell (World.alloc_heap_new w1 (.cells #[.int .i64 t, .int .i64 c, .int .u32 r, .string q] 128)) 3).trans (show _ = some (.string q) from rfl)
 have hR := Lib.hid (pk_step HR0.out hb)
 have hB := Lib.hid (pk_below (Below.refl B w) (Nat.le_of_lt hBH) hb)
 have hBM : B < w1.heap.size := pk_lt hR.out
 clear hb HR0
 go_wp2_with (fail)
 clear c3
 have h0 := pkSt_start (t := t) (c := c) (r := r) (q := q) hR.out hB.out
 clear hR hB
 have HF := pk_first B w1.heap.size (w1.heap.size + 1) (w1.heap.size + 1 + 1) (w1.heap.size + 1 + 1 + 1) hBM (by omega) (by omega) (by omega) _ t c r q q w _ hq h0
 clear h0
 refine HF.mono ?_
 clear HF
 rw [hw]
 rintro e w2 ⟨z, rfl, h2, hz⟩
 obtain rfl := hz rfl
 clear hz hw
 obtain ⟨hR, hM, hQ, hZ, -, hB⟩ := h2
 have hBQ : B < w1.heap.size + 1 := by omega
 have hBZ : B < w1.heap.size + 1 + 1 := by omega
 generalize w1.heap.size + 1 = Q at *
 generalize Q + 1 = Z at *
 clear hM hBM
 obtain ⟨z, hz⟩ : ∃ z, Sp.ip4Len (bl q) = z := ⟨_, rfl⟩
 rw [hz] at hZ hlb hql
 have HZ0 := AA hz
 clear hz
 have hw1 : wrap64 (a + 8) = a + 8 := wrap_id (by omega) (by omega)
 have hw2 : wrap64 (a + 8 + z) = a + 8 + z := wrap_id (by omega) (by omega)
 have hw3 : wrap64 (z + 2) = z + 2 := wrap_id (by omega) (by omega)
 have c0 := (blk_cell hR 0).trans (show _ = some (.int .i64 k) from rfl)
 have c1 := (blk_cell hR 1).trans (show _ = some (.int .i64 a) from rfl)
 have c12 := (blk_cell hR 12).trans (show _ = some (.int .i64 qq) from rfl)
 have f0 := blk_frozen hR 0
 have f12 := blk_frozen hR 12
 have HQ := Lib.hid (And.intro hR (And.intro hQ (And.intro hZ hB)))
 clear hR hQ hZ hB
 go_wp2_with (fail)
 obtain ⟨hR, hQ, hZ, hB⟩ := HQ.out
 clear HQ c0 c1 c12 f0 f12
 have hR1 : ((w2.setCell ⟨B, 0, none⟩ (.int .i64 2)).setCell ⟨B, 12, none⟩ (.int .i64 (a + 8))).heap[B]? = some (.cells (rr14 2 a tl p s d sp dp fl tt s2 d2 ((a + 8)) ii) 51 (0, 0)) := blk_put (cs' := (rr14 2 a tl p s d sp dp fl tt s2 d2 ((a + 8)) ii)) (blk_put (cs' := (rr14 2 a tl p s d sp dp fl tt s2 d2 qq ii)) hR 0 _ rfl) 12 _ rfl
 have hQ1 : ((w2.setCell ⟨B, 0, none⟩ (.int .i64 2)).setCell ⟨B, 12, none⟩ (.int .i64 (a + 8))).heap[Q]? = some (.cells #[.string q] 9 (0, 0)) := blk_far (blk_far hQ (by show Q ≠ B; omega) _) (by show Q ≠ B; omega) _
 have hZ1 : ((w2.setCell ⟨B, 0, none⟩ (.int .i64 2)).setCell ⟨B, 12, none⟩ (.int .i64 (a + 8))).heap[Z]? = some (.cells #[.int .i64 z] 3 (0, 0)) := blk_far (blk_far hZ (by show Z ≠ B; omega) _) (by show Z ≠ B; omega) _
 have hB1 : Below B w ((w2.setCell ⟨B, 0, none⟩ (.int .i64 2)).setCell ⟨B, 12, none⟩ (.int .i64 (a + 8))) := Below.setCell (Below.setCell hB (Nat.le_refl _) _) (Nat.le_refl _) _
 clear hR hQ hZ hB
 generalize ((w2.setCell ⟨B, 0, none⟩ (.int .i64 2)).setCell ⟨B, 12, none⟩ (.int .i64 (a + 8))) = u at hR1 hQ1 hZ1 hB1 ⊢
 clear w2
 have hRS : ∀ W : World, W.heap[B]? = some (.cells (rr14 2 a tl p s d sp dp fl tt s2 d2 ((a + 8)) ii) 51 (0, 0)) → W.heap[Z]? = some (.cells #[.int .i64 z] 3 (0, 0)) → (W.cell? ⟨B, 12, none⟩ = some (.int .i64 (a + 8)) ∧ W.cell? ⟨Z, 0, none⟩ = some (.int .i64 z)) := fun W h h' => ⟨(blk_cell h 12).trans rfl, (blk_cell h' 0).trans rfl⟩
 refine start_ (n := 10) (S := fun w' => w'.cell? ⟨B, 12, none⟩ = some (.int .i64 (a + 8)) ∧ w'.cell? ⟨Z, 0, none⟩ = some (.int .i64 z)) (ds := []) (bm 10 0x0) (by kernel_rfl) rfl rfl (hRS _ (pk_drew hR1) (pk_drew hZ1)) (fun hHeld => ?_)
 have hR2 := pk_drew hR1
 have hQ2 := pk_drew hQ1
 have hZ2 := pk_drew hZ1
 have hB2 := pk_below_drew hB1
 clear hR1 hQ1 hZ1 hB1 hRS
 generalize u.drew = u2 at hR2 hQ2 hZ2 hB2 hHeld ⊢
 clear u
 refine pk 0 49 (bm 10 0x1) ?_
 refine pk 1 50 (bm 10 0x3) ?_
 refine pk 2 51 (bm 10 0x7) ?_
 refine pk 3 52 (bm 10 0xf) ?_
 refine tk 4 53 (bm 10 0x1f) hHeld ?_
 refine tk 5 54 (bm 10 0x3f) hHeld ?_
 refine pk 6 55 (bm 10 0x7f) ?_
 refine pk 7 56 (bm 10 0xff) ?_
 refine pk 8 57 (bm 10 0x1ff) ?_
 have x := (blk_cell hR2 13).trans (show _ = some (.int .i64 ii) from rfl)
 have y := blk_frozen hR2 13
 refine one_ (i := 9) (N := none) (bm 10 0x3ff) rfl rfl (by kernel_rfl) (by decide) (fun K hK => ?_)
 refine skip_ (w1 := ?_) (by rfl) rfl ?_ ?_
 rotate_left
 ·go_simp
  rfl
 have hR3 : (u2.setCell ⟨B, 13, none⟩ (.int .i64 (a + 8 + z))).heap[B]? = some (.cells (rr14 2 a tl p s d sp dp fl tt s2 d2 ((a + 8)) ((a + 8 + z))) 51 (0, 0)) := blk_put (cs' := (rr14 2 a tl p s d sp dp fl tt s2 d2 ((a + 8)) ((a + 8 + z)))) hR2 13 _ rfl
 have hQ3 : (u2.setCell ⟨B, 13, none⟩ (.int .i64 (a + 8 + z))).heap[Q]? = some (.cells #[.string q] 9 (0, 0)) := blk_far hQ2 (by show Q ≠ B; omega) _
 have hZ3 : (u2.setCell ⟨B, 13, none⟩ (.int .i64 (a + 8 + z))).heap[Z]? = some (.cells #[.int .i64 z] 3 (0, 0)) := blk_far hZ2 (by show Z ≠ B; omega) _
 have hB3 : Below B w (u2.setCell ⟨B, 13, none⟩ (.int .i64 (a + 8 + z))) := Below.setCell hB2 (Nat.le_refl _) _
 clear hHeld
 refine hK.out _ _ ⟨(blk_cell hR3 12).trans rfl, (blk_cell hZ3 0).trans rfl⟩ (fun hHeld => ?_)
 clear hK K x y hR2 hQ2 hZ2 hB2 hHeld
 generalize (u2.setCell ⟨B, 13, none⟩ (.int .i64 (a + 8 + z))) = u3 at hR3 hQ3 hZ3 hB3 ⊢
 clear u2
 refine done_ (by kernel_rfl) ?_
 go_wp2_with (fail)
 have hRS : ∀ W : World, W.heap[Q]? = some (.cells #[.string q] 9 (0, 0)) → W.heap[Z]? = some (.cells #[.int .i64 z] 3 (0, 0)) → (W.cell? ⟨Q, 0, none⟩ = some (.string q) ∧ W.cell? ⟨Z, 0, none⟩ = some (.int .i64 z)) := fun W h h' => ⟨(blk_cell h 0).trans rfl, (blk_cell h' 0).trans rfl⟩
 have b1 : decide (9 < q.size) = true := decide_eq_true (by omega)
 have b0 : decide (9 < (q.size : Int)) = true := decide_eq_true (by omega)
 have b2 : (9 < (q.size : Int)) = True := eq_true (by omega)
 have hbt : ∀ h : 9 < q.size, ((q[9]'h).toNat : Int) = bt q 9 := fun h => bt_at q 9 h
 have e9 : wrap64 (bt q 9) = Sp.byteAt (bl q) 9 := by
  have hb9 := Sp.byteAt_bounds (bl q) 9
  rw [show bt q 9 = Sp.byteAt (bl q) 9 from pk_bt (i := 9) (by omega)]; exact wrap_id (by omega) (by omega)
 have g1 := pk_small (bl q) 12 4
 have g2 := pk_small (bl q) 16 4
 have e10 : IntKind.u32.wrap (Sp.get (bl q) 12 4).1 = (Sp.get (bl q) 12 4).1 := IntWalk.u32_in _ ⟨g1.1, by omega⟩
 have e11 : IntKind.u32.wrap (Sp.get (bl q) 16 4).1 = (Sp.get (bl q) 16 4).1 := IntWalk.u32_in _ ⟨g2.1, by omega⟩
 clear g1 g2
 have G := fun a b W => packet_get.calls q a b _ W (packet_get_eq a b (by omega))
 refine start_ (n := 21) (S := fun w' => w'.cell? ⟨Q, 0, none⟩ = some (.string q) ∧ w'.cell? ⟨Z, 0, none⟩ = some (.int .i64 z)) (ds := []) (bm 21 0x0) (by kernel_rfl) rfl rfl (hRS _ (pk_drew hQ3) (pk_drew hZ3)) (fun hHeld => ?_)
 have hR4 := pk_drew hR3
 have hQ4 := pk_drew hQ3
 have hZ4 := pk_drew hZ3
 have hB4 := pk_below_drew hB3
 clear hR3 hQ3 hZ3 hB3
 generalize u3.drew = u4 at hR4 hQ4 hZ4 hB4 hHeld ⊢
 clear u3
 refine pk 0 58 (bm 21 0x1) ?_
 refine tk 1 59 (bm 21 0x3) hHeld ?_
 refine pk 2 60 (bm 21 0x7) ?_
 refine pk 3 61 (bm 21 0xf) ?_
 refine tk 4 62 (bm 21 0x1f) hHeld ?_
 refine tk 7 65 (bm 21 0x9f) hHeld ?_
 refine tk 10 68 (bm 21 0x49f) hHeld ?_
 refine tk 11 69 (bm 21 0xc9f) hHeld ?_
 refine tk 13 71 (bm 21 0x2c9f) hHeld ?_
 refine tk 14 72 (bm 21 0x6c9f) hHeld ?_
 refine pk 15 73 (bm 21 0xec9f) ?_
 refine one_ (i := 5) (N := some 63) (bm 21 0xecbf) rfl rfl (by kernel_rfl) (by decide) (fun K hK => ?_)
 refine goes_ Tryz.func88 (by kernel_rfl) rfl #[.string q, .int .i64 12, .int .i64 4] (by rfl) rfl rfl (by (try simp only [List.map_toArray, List.map_cons, List.map_nil]); first | done | rfl) ?_
 refine (G 12 4 _).mono ?_
 rintro e u5 ⟨rfl, hb⟩
 refine ⟨_, rfl, ?_⟩
 have hR5 := pk_step hR4 hb
 have hQ5 := pk_step hQ4 hb
 have hZ5 := pk_step hZ4 hb
 have hB5 := pk_below hB4 (Nat.le_of_lt (pk_lt hR4)) hb
 clear hb hR4 hQ4 hZ4 hB4
 refine hK.out _ _ (hRS _ hQ5 hZ5) (fun hHeld => ?_)
 clear hK K
 refine nm 63 ?_
 refine pk 6 64 (bm 21 0xecff) ?_
 refine one_ (i := 8) (N := some 66) (bm 21 0xedff) rfl rfl (by kernel_rfl) (by decide) (fun K hK => ?_)
 refine goes_ Tryz.func88 (by kernel_rfl) rfl #[.string q, .int .i64 16, .int .i64 4] (by rfl) rfl rfl (by (try simp only [List.map_toArray, List.map_cons, List.map_nil]); first | done | rfl) ?_
 refine (G 16 4 _).mono ?_
 rintro e u6 ⟨rfl, hb⟩
 refine ⟨_, rfl, ?_⟩
 have hR6 := pk_step hR5 hb
 have hQ6 := pk_step hQ5 hb
 have hZ6 := pk_step hZ5 hb
 have hB6 := pk_below hB5 (Nat.le_of_lt (pk_lt hR5)) hb
 clear hb hR5 hQ5 hZ5 hB5
 refine hK.out _ _ (hRS _ hQ6 hZ6) (fun hHeld => ?_)
 clear hK K
 refine nm 66 ?_
 refine pk 9 67 (bm 21 0xefff) ?_
 refine one_ (i := 12) (N := some 70) (bm 21 0xffff) rfl rfl (by kernel_rfl) (by decide) (fun K hK => ?_)
 refine goes_ Tryz.func88 (by kernel_rfl) rfl #[.string q, .int .i64 z, .int .i64 2] (by rfl) rfl rfl (by (try simp only [List.map_toArray, List.map_cons, List.map_nil]); first | done | rfl) ?_
 refine (G z 2 _).mono ?_
 rintro e u7 ⟨rfl, hb⟩
 refine ⟨_, rfl, ?_⟩
 have hR7 := pk_step hR6 hb
 have hQ7 := pk_step hQ6 hb
 have hZ7 := pk_step hZ6 hb
 have hB7 := pk_below hB6 (Nat.le_of_lt (pk_lt hR6)) hb
 clear hb hR6 hQ6 hZ6 hB6
 refine hK.out _ _ (hRS _ hQ7 hZ7) (fun hHeld => ?_)
 clear hK K
 refine nm 70 ?_
 refine one_ (i := 16) (N := some 74) (bm 21 0x1ffff) rfl rfl (by kernel_rfl) (by decide) (fun K hK => ?_)
 refine goes_ Tryz.func88 (by kernel_rfl) rfl #[.string q, .int .i64 (wrap64 (z + 2)), .int .i64 2] (by rfl) rfl rfl (by (try simp only [List.map_toArray, List.map_cons, List.map_nil]); first | done | rfl) ?_
 refine (G (wrap64 (z + 2)) 2 _).mono ?_
 rintro e u8 ⟨rfl, hb⟩
 refine ⟨_, rfl, ?_⟩
 have hR8 := pk_step hR7 hb
 have hQ8 := pk_step hQ7 hb
 have hZ8 := pk_step hZ7 hb
 have hB8 := pk_below hB7 (Nat.le_of_lt (pk_lt hR7)) hb
 clear hb hR7 hQ7 hZ7 hB7
 refine hK.out _ _ (hRS _ hQ8 hZ8) (fun hHeld => ?_)
 clear hK K
 refine nm 74 ?_
 refine pk 17 75 (bm 21 0x3ffff) ?_
 refine pk 18 76 (bm 21 0x7ffff) ?_
 refine pk 19 77 (bm 21 0xfffff) ?_
 have x3 := (blk_cell hR8 3).trans (show _ = some (.int .i64 p) from rfl)
 have x4 := (blk_cell hR8 4).trans (show _ = some (.int .u32 s) from rfl)
 have x5 := (blk_cell hR8 5).trans (show _ = some (.int .u32 d) from rfl)
 have x6 := (blk_cell hR8 6).trans (show _ = some (.int .i64 sp) from rfl)
 have x7 := (blk_cell hR8 7).trans (show _ = some (.int .i64 dp) from rfl)
 have y3 := blk_frozen hR8 3
 have y4 := blk_frozen hR8 4
 have y5 := blk_frozen hR8 5
 have y6 := blk_frozen hR8 6
 have y7 := blk_frozen hR8 7
 refine one_ (i := 20) (N := none) (bm 21 0x1fffff) rfl rfl (by kernel_rfl) (by decide) (fun K hK => ?_)
 refine skip_ (w1 := ?_) (by rfl) rfl ?_ ?_
 rotate_left
 ·go_simp
  rfl
 have hR9 : (((((u8.setCell ⟨B, 3, none⟩ (.int .i64 (Sp.byteAt (bl q) 9))).setCell ⟨B, 4, none⟩ (.int .u32 (Sp.get (bl q) 12 4).1)).setCell ⟨B, 5, none⟩ (.int .u32 (Sp.get (bl q) 16 4).1)).setCell ⟨B, 6, none⟩ (.int .i64 (Sp.get (bl q) z 2).1)).setCell ⟨B, 7, none⟩ (.int .i64 (Sp.get (bl q) (z + 2) 2).1)).heap[B]? = some (.cells (rr14 2 a tl ((Sp.byteAt (bl q) 9)) ((Sp.get (bl q) 12 4).1) ((Sp.get (bl q) 16 4).1) ((Sp.get (bl q) z 2).1) ((Sp.get (bl q) (z + 2) 2).1) fl tt s2 d2 ((a + 8)) ((a + 8 + z))) 51 (0, 0)) := (blk_put (cs' := (rr14 2 a tl ((Sp.byteAt (bl q) 9)) ((Sp.get (bl q) 12 4).1) ((Sp.get (bl q) 16 4).1) ((Sp.get (bl q) z 2).1) ((Sp.get (bl q) (z + 2) 2).1) fl tt s2 d2 ((a + 8)) ((a + 8 + z)))) (blk_put (cs' := (rr14 2 a tl ((Sp.byteAt (bl q) 9)) ((Sp.get (bl q) 12 4).1) ((Sp.get (bl q) 16 4).1) ((Sp.get (bl q) z 2).1) dp fl tt s2 d2 ((a + 8)) ((a + 8 + z)))) (blk_put (cs' := (rr14 2 a tl ((Sp.byteAt (bl q) 9)) ((Sp.get (bl q) 12 4).1) ((Sp.get (bl q) 16 4).1) sp dp fl tt s2 d2 ((a + 8)) ((a + 8 + z)))) (blk_put (cs' := (rr14 2 a tl ((Sp.byteAt (bl q) 9)) ((Sp.get (bl q) 12 4).1) d sp dp fl tt s2 d2 ((a + 8)) ((a + 8 + z)))) (blk_put (cs' := (rr14 2 a tl ((Sp.byteAt (bl q) 9)) s d sp dp fl tt s2 d2 ((a + 8)) ((a + 8 + z)))) hR8 3 _ rfl) 4 _ rfl) 5 _ rfl) 6 _ rfl) 7 _ rfl)
 have hB9 : Below B w (((((u8.setCell ⟨B, 3, none⟩ (.int .i64 (Sp.byteAt (bl q) 9))).setCell ⟨B, 4, none⟩ (.int .u32 (Sp.get (bl q) 12 4).1)).setCell ⟨B, 5, none⟩ (.int .u32 (Sp.get (bl q) 16 4).1)).setCell ⟨B, 6, none⟩ (.int .i64 (Sp.get (bl q) z 2).1)).setCell ⟨B, 7, none⟩ (.int .i64 (Sp.get (bl q) (z + 2) 2).1)) := (Below.setCell (Below.setCell (Below.setCell (Below.setCell (Below.setCell hB8 (Nat.le_refl _) _) (Nat.le_refl _) _) (Nat.le_refl _) _) (Nat.le_refl _) _) (Nat.le_refl _) _)
 have hQ9 : (((((u8.setCell ⟨B, 3, none⟩ (.int .i64 (Sp.byteAt (bl q) 9))).setCell ⟨B, 4, none⟩ (.int .u32 (Sp.get (bl q) 12 4).1)).setCell ⟨B, 5, none⟩ (.int .u32 (Sp.get (bl q) 16 4).1)).setCell ⟨B, 6, none⟩ (.int .i64 (Sp.get (bl q) z 2).1)).setCell ⟨B, 7, none⟩ (.int .i64 (Sp.get (bl q) (z + 2) 2).1)).heap[Q]? = some (.cells #[.string q] 9 (0, 0)) := (blk_far (blk_far (blk_far (blk_far (blk_far hQ8 (by show Q ≠ B; omega) _) (by show Q ≠ B; omega) _) (by show Q ≠ B; omega) _) (by show Q ≠ B; omega) _) (by show Q ≠ B; omega) _)
 have hZ9 : (((((u8.setCell ⟨B, 3, none⟩ (.int .i64 (Sp.byteAt (bl q) 9))).setCell ⟨B, 4, none⟩ (.int .u32 (Sp.get (bl q) 12 4).1)).setCell ⟨B, 5, none⟩ (.int .u32 (Sp.get (bl q) 16 4).1)).setCell ⟨B, 6, none⟩ (.int .i64 (Sp.get (bl q) z 2).1)).setCell ⟨B, 7, none⟩ (.int .i64 (Sp.get (bl q) (z + 2) 2).1)).heap[Z]? = some (.cells #[.int .i64 z] 3 (0, 0)) := (blk_far (blk_far (blk_far (blk_far (blk_far hZ8 (by show Z ≠ B; omega) _) (by show Z ≠ B; omega) _) (by show Z ≠ B; omega) _) (by show Z ≠ B; omega) _) (by show Z ≠ B; omega) _)
 refine hK.out _ _ (hRS _ hQ9 hZ9) (fun hHeld => ?_)
 clear hK K hR8 hQ8 hZ8 hB8 hQ9 hZ9 hHeld x3 y3 x4 y4 x5 y5 x6 y6 x7 y7
 generalize (((((u8.setCell ⟨B, 3, none⟩ (.int .i64 (Sp.byteAt (bl q) 9))).setCell ⟨B, 4, none⟩ (.int .u32 (Sp.get (bl q) 12 4).1)).setCell ⟨B, 5, none⟩ (.int .u32 (Sp.get (bl q) 16 4).1)).setCell ⟨B, 6, none⟩ (.int .i64 (Sp.get (bl q) z 2).1)).setCell ⟨B, 7, none⟩ (.int .i64 (Sp.get (bl q) (z + 2) 2).1)) = u9 at hR9 hB9 ⊢
 refine done_ (by kernel_rfl) ?_
 go_wp2_with (fail)
 go_ret
 obtain rfl := HZ0.out
 exact ⟨rfl, hR9, hB9⟩
theorem pk_iter_below {w0 w : World} {A : Nat} {v0 v1 v2 v3 v4 v5 v6 v7 v8 v9 v10 v11 v12 v13 : Value} (h : Below A w0 w) : Below A w0 ((((((((((((((w.setCell ⟨A, 0, none⟩ v0).setCell ⟨A, 1, none⟩ v1).setCell ⟨A, 2, none⟩ v2).setCell ⟨A, 3, none⟩ v3).setCell ⟨A, 4, none⟩ v4).setCell ⟨A, 5, none⟩ v5).setCell ⟨A, 6, none⟩ v6).setCell ⟨A, 7, none⟩ v7).setCell ⟨A, 8, none⟩ v8).setCell ⟨A, 9, none⟩ v9).setCell ⟨A, 10, none⟩ v10).setCell ⟨A, 11, none⟩ v11).setCell ⟨A, 12, none⟩ v12).setCell ⟨A, 13, none⟩ v13) := by
 iterate 14 refine Below.setCell ?_ (by exact Nat.le_refl _) _
 exact h
theorem pk_put14 {w : World} {A : Nat} {t : TypeId} {c0 c1 c2 c3 c4 c5 c6 c7 c8 c9 c10 c11 c12 c13 v0 v1 v2 v3 v4 v5 v6 v7 v8 v9 v10 v11 v12 v13 : Value} (h : w.heap[A]? = some (.cells #[c0, c1, c2, c3, c4, c5, c6, c7, c8, c9, c10, c11, c12, c13] t (0, 0))) : ((((((((((((((w.setCell ⟨A, 0, none⟩ v0).setCell ⟨A, 1, none⟩ v1).setCell ⟨A, 2, none⟩ v2).setCell ⟨A, 3, none⟩ v3).setCell ⟨A, 4, none⟩ v4).setCell ⟨A, 5, none⟩ v5).setCell ⟨A, 6, none⟩ v6).setCell ⟨A, 7, none⟩ v7).setCell ⟨A, 8, none⟩ v8).setCell ⟨A, 9, none⟩ v9).setCell ⟨A, 10, none⟩ v10).setCell ⟨A, 11, none⟩ v11).setCell ⟨A, 12, none⟩ v12).setCell ⟨A, 13, none⟩ v13).heap[A]? = some (.cells #[v0, v1, v2, v3, v4, v5, v6, v7, v8, v9, v10, v11, v12, v13] t (0, 0)) :=
 (blk_put (cs' := #[v0, v1, v2, v3, v4, v5, v6, v7, v8, v9, v10, v11, v12, v13]) (blk_put (cs' := #[v0, v1, v2, v3, v4, v5, v6, v7, v8, v9, v10, v11, v12, c13]) (blk_put (cs' := #[v0, v1, v2, v3, v4, v5, v6, v7, v8, v9, v10, v11, c12, c13]) (blk_put (cs' := #[v0, v1, v2, v3, v4, v5, v6, v7, v8, v9, v10, c11, c12, c13]) (blk_put (cs' := #[v0, v1, v2, v3, v4, v5, v6, v7, v8, v9, c10, c11, c12, c13]) (blk_put (cs' := #[v0, v1, v2, v3, v4, v5, v6, v7, v8, c9, c10, c11, c12, c13]) (blk_put (cs' := #[v0, v1, v2, v3, v4, v5, v6, v7, c8, c9, c10, c11, c12, c13]) (blk_put (cs' := #[v0, v1, v2, v3, v4, v5, v6, c7, c8, c9, c10, c11, c12, c13]) (blk_put (cs' := #[v0, v1, v2, v3, v4, v5, c6, c7, c8, c9, c10, c11, c12, c13]) (blk_put (cs' := #[v0, v1, v2, v3, v4, c5, c6, c7, c8, c9, c10, c11, c12, c13]) (blk_put (cs' := #[v0, v1, v2, v3, c4, c5, c6, c7, c8, c9, c10, c11, c12, c13]) (blk_put (cs' := #[v0, v1, v2, c3, c4, c5, c6, c7, c8, c9, c10, c11, c12, c13]) (blk_put (cs' := #[v0, v1, c2, c3, c4, c5, c6, c7, c8, c9, c10, c11, c12, c13]) (blk_put (cs' := #[v0, c1, c2, c3, c4, c5, c6, c7, c8, c9, c10, c11, c12, c13]) h 0 _ rfl) 1 _ rfl) 2 _ rfl) 3 _ rfl) 4 _ rfl) 5 _ rfl) 6 _ rfl) 7 _ rfl) 8 _ rfl) 9 _ rfl) 10 _ rfl) 11 _ rfl) 12 _ rfl) 13 _ rfl)
abbrev pkZ : Array Value := rr14 0 0 0 0 0 0 0 0 0 0 0 0 0 0
set_option maxRecDepth 100000 in
set_option maxHeartbeats 8000000 in
theorem pk_cl_err (s b o : ByteArray) (w : World) (A : Nat) (hA : w.heap.size = A) (h0 h1 h2 h3 h4 h5 h6 h7 er : Int) (HP : ∀ W, Calls Tryz.prog 56 #[.string s] W fun e w' => e = .returned (.tuple #[.agg (rr9 h0 h1 h2 h3 h4 h5 h6 h7 o), .string b, .int .i64 er]) ∧ Below W.heap.size W w') (her : er ≠ 0) :
  Calls Tryz.prog 38 #[.string s] w fun e w' => e = .returned (.tuple #[.agg pkZ, .int .i64 er]) ∧ Below A w w' := by
 have d0 : (er != 0) = true := by simpa using her
 have d1 : (er == 0) = false := by simpa using her
 clear her
 have hAe := Lib.hid hA
 clear hA
 go_enter Tryz.func38, Tryz.ntmps38
 go_wp2_with (fail)
 refine (HP _).mono ?_
 rintro e w1 ⟨rfl, hb⟩
 have hZ : w1.heap[w.heap.size]? = some (.cells pkZ 51 (0, 0)) := pk_step (World.alloc_heap_new w _) hb
 have hB : Below w.heap.size w w1 := below_step (below_alloc (Below.refl _ _) _) hb
 clear hb
 rw [hAe.out] at hZ hB ⊢
 have hAH := pk_lt hZ
 have HQ0 := Lib.hid (And.intro hZ hB)
 clear hZ hB
 go_wp2_with ((with_reducible refine gate_dst (N := 4) rfl ?_); refine bx 4 97 (rr9 0 0 0 0 0 0 0 0 ⟨#[]⟩) ?_; intro gb hg w2 hbox hb2; have hlt : A < gb := (by omega); have hne : A ≠ gb := (by omega); have hne2 : gb ≠ A := fun h => hne h.symm; have hZ2 := pk_step HQ0.out.1 hb2; have x := blk9 hbox; have z := blk14 hZ2; have HQ := Lib.hid (And.intro hZ2 (And.intro hbox (pk_below HQ0.out.2 (by omega) hb2))); clear hZ2 hbox hb2 hg HQ0)
 obtain ⟨hZ, hbox, hB⟩ := HQ.out
 have hAg : A ≤ gb := by omega
 (try simp only [Exit.inBlock, Exit.then])
 refine bodyPost_ret (results_ct rfl _ _ A 51 pkZ (0, 0) _ rfl (pk_put14 (c0 := .int .i64 0) (c1 := .int .i64 0) (c2 := .int .i64 0) (c3 := .int .i64 0) (c4 := .int .u32 0) (c5 := .int .u32 0) (c6 := .int .i64 0) (c7 := .int .i64 0) (c8 := .int .i64 0) (c9 := .int .i64 0) (c10 := .int .u32 0) (c11 := .int .u32 0) (c12 := .int .i64 0) (c13 := .int .i64 0) ?_) Tryz.underlying51 rfl (by kernel_rfl)) rfl ?_
 ·iterate 9 refine blk_far ?_ (by show A ≠ gb; exact hne) _
  exact hZ
 refine ⟨rfl, pk_iter_below ?_⟩
 iterate 9 refine Below.setCell ?_ (by exact hAg) _
 exact hB
set_option maxRecDepth 100000 in
set_option maxHeartbeats 16000000 in
theorem pk_cl (s b o : ByteArray) (w : World) (A : Nat) (hA : w.heap.size = A) (h0 h1 h2 h3 h4 h5 h6 h7 : Int) (HP : ∀ W, Calls Tryz.prog 56 #[.string s] W fun e w' => e = .returned (.tuple #[.agg (rr9 h0 h1 h2 h3 h4 h5 h6 h7 o), .string b, .int .i64 0]) ∧ Below W.heap.size W w') (hd tot : Int) (ok : Bool) (HZ : ∀ W, Calls Tryz.prog 57 #[.string s] W fun e w' => e = .returned (.tuple #[.int .i64 hd, .int .i64 tot, .bool ok]) ∧ Below W.heap.size W w') (fb : Int) (hfb : Go.bits .and .i64 h2 1 = fb) (R : Array Value) (E : Int)
  (C : (fb ≠ 0 ∧ R = pkZ ∧ E = 8) ∨ (fb = 0 ∧ h3 ≠ 0 ∧ R = pkZ ∧ E = 8) ∨ (fb = 0 ∧ h3 = 0 ∧ h5 ≠ 1 ∧ h5 ≠ 6 ∧ h5 ≠ 17 ∧ R = pkZ ∧ E = 9) ∨
   (fb = 0 ∧ h3 = 0 ∧ h5 = 1 ∧ ∃ q0 q1 q2 q3 q4 q5 q6 q7 q8 q9 q10 q11 q12 q13 qe : Int, (∀ (W : World) (B : Nat), W.heap[B]? = some (.cells (rr14 1 hd tot 1 h6 h7 0 0 0 h4 h6 h7 0 0) 51 (0, 0)) → Calls Tryz.prog 58 #[.pointer (some ⟨B, 0, none⟩), .string b] W fun e w' => e = .returned (.int .i64 qe) ∧ (qe = 0 → w'.heap[B]? = some (.cells (rr14 q0 q1 q2 q3 q4 q5 q6 q7 q8 q9 q10 q11 q12 q13) 51 (0, 0))) ∧ Below B W w') ∧ ((qe ≠ 0 ∧ R = pkZ ∧ E = qe) ∨ (qe = 0 ∧ R = rr14 q0 q1 q2 q3 q4 q5 q6 q7 q8 q9 q10 q11 q12 q13 ∧ E = 0))) ∨
   (fb = 0 ∧ h3 = 0 ∧ (h5 = 6 ∨ h5 = 17) ∧ ∃ ea eb ec ee ve : Int, (∀ (W : World) (B : Nat), W.heap[B]? = some (.cells (rr14 1 hd tot h5 h6 h7 0 0 0 h4 h6 h7 0 0) 51 (0, 0)) → Calls Tryz.prog 59 #[.pointer (some ⟨B, 0, none⟩), .string b] W fun e w' => e = .returned (.int .i64 ee) ∧ w'.heap[B]? = some (.cells (rr14 1 hd tot h5 h6 h7 ea eb ec h4 h6 h7 0 0) 51 (0, 0)) ∧ Below B W w') ∧ (∀ W, Calls Tryz.prog 60 #[.int .i64 h5, .int .u32 h6, .int .u32 h7, .string b] W fun e w' => e = .returned (.int .i64 ve) ∧ Below W.heap.size W w') ∧ ((ee ≠ 0 ∧ R = pkZ ∧ E = ee) ∨ (ee = 0 ∧ ((ve ≠ 0 ∧ R = pkZ ∧ E = ve) ∨ (ve = 0 ∧ R = rr14 1 hd tot h5 h6 h7 ea eb ec h4 h6 h7 0 0 ∧ E = 0)))))) :
  Calls Tryz.prog 38 #[.string s] w fun e w' => e = .returned (.tuple #[.agg R, .int .i64 E]) ∧ Below A w w' := by
 have hAe := Lib.hid hA
 have hC := Lib.hid C
 clear hA C
 go_enter Tryz.func38, Tryz.ntmps38
 go_wp2_with (fail)
 refine (HP _).mono ?_
 rintro e w1 ⟨rfl, hb⟩
 have hZ : w1.heap[w.heap.size]? = some (.cells pkZ 51 (0, 0)) := pk_step (World.alloc_heap_new w _) hb
 have hB : Below w.heap.size w w1 := below_step (below_alloc (Below.refl _ _) _) hb
 clear hb
 rw [hAe.out] at hZ hB ⊢
 have hAH := pk_lt hZ
 have c4 := blk9 (World.alloc_heap_new w1 (.cells (rr9 h0 h1 h2 h3 h4 h5 h6 h7 o) 97))
 have HQ := Lib.hid (And.intro hZ hB)
 clear hZ hB
 go_wp2_with (fail)
 obtain ⟨hZ, hB⟩ := HQ.out
 clear HQ c4
 have hH1 := pk_alloc (.cells (rr14 1 0 0 h5 h6 h7 0 0 0 h4 h6 h7 0 0) 51) (World.alloc_heap_new w1 (.cells (rr9 h0 h1 h2 h3 h4 h5 h6 h7 o) 97))
 have hs1 : (w1.alloc (.cells (rr9 h0 h1 h2 h3 h4 h5 h6 h7 o) 97)).heap.size = w1.heap.size + 1 := by simp
 have hP1 := World.alloc_heap_new (w1.alloc (.cells (rr9 h0 h1 h2 h3 h4 h5 h6 h7 o) 97)) (.cells (rr14 1 0 0 h5 h6 h7 0 0 0 h4 h6 h7 0 0) 51)
 rw [hs1] at hP1
 have hZ1 := pk_alloc (.cells (rr14 1 0 0 h5 h6 h7 0 0 0 h4 h6 h7 0 0) 51) (pk_alloc (.cells (rr9 h0 h1 h2 h3 h4 h5 h6 h7 o) 97) hZ)
 have hB1 : Below A w ((w1.alloc (.cells (rr9 h0 h1 h2 h3 h4 h5 h6 h7 o) 97)).alloc (.cells (rr14 1 0 0 h5 h6 h7 0 0 0 h4 h6 h7 0 0) 51)) := Below.alloc (Below.alloc hB (Nat.le_of_lt hAH) _) (by rw [hs1]; omega) _
 clear hZ hB hs1
 refine (HZ _).mono ?_
 rintro e w2 ⟨rfl, hb⟩
 have hB := pk_below hB1 (Nat.le_of_lt (pk_lt hZ1)) hb
 have hZ := pk_step hZ1 hb
 have hH := pk_step hH1 hb
 have hP := pk_step hP1 hb
 clear hB1 hZ1 hH1 hP1 hb
 generalize w1.heap.size = H at *
 obtain ⟨P, hPe⟩ : ∃ P, H + 1 = P := ⟨_, rfl⟩
 rw [hPe] at hP ⊢
 have hHP : H < P := by omega
 have hAP : A < P := by omega
 clear hPe w1
 have c1 := blk14 hP
 have hZ3 : ((w2.setCell ⟨P, 1, none⟩ (.int .i64 hd)).setCell ⟨P, 2, none⟩ (.int .i64 tot)).heap[A]? = some (.cells pkZ 51 (0, 0)) := blk_far (blk_far hZ (by show A ≠ P; omega) _) (by show A ≠ P; omega) _
 have hH3 : ((w2.setCell ⟨P, 1, none⟩ (.int .i64 hd)).setCell ⟨P, 2, none⟩ (.int .i64 tot)).heap[H]? = some (.cells (rr9 h0 h1 h2 h3 h4 h5 h6 h7 o) 97 (0, 0)) := blk_far (blk_far hH (by show H ≠ P; omega) _) (by show H ≠ P; omega) _
 have hP3 : ((w2.setCell ⟨P, 1, none⟩ (.int .i64 hd)).setCell ⟨P, 2, none⟩ (.int .i64 tot)).heap[P]? = some (.cells (rr14 1 hd tot h5 h6 h7 0 0 0 h4 h6 h7 0 0) 51 (0, 0)) := blk_put (cs' := (rr14 1 hd tot h5 h6 h7 0 0 0 h4 h6 h7 0 0)) (blk_put (cs' := (rr14 1 hd 0 h5 h6 h7 0 0 0 h4 h6 h7 0 0)) hP 1 _ rfl) 2 _ rfl
 have hB3 : Below A w ((w2.setCell ⟨P, 1, none⟩ (.int .i64 hd)).setCell ⟨P, 2, none⟩ (.int .i64 tot)) := Below.setCell (Below.setCell hB (Nat.le_of_lt hAP) _) (Nat.le_of_lt hAP) _
 clear hZ hH hP hB
 have k := blk9 hH3
 rcases hC.out with ⟨hx, rfl, rfl⟩ | ⟨rfl, hy, rfl, rfl⟩ | ⟨rfl, rfl, p1, p6, p17, rfl, rfl⟩ | ⟨rfl, rfl, rfl, q0, q1, q2, q3, q4, q5, q6, q7, q8, q9, q10, q11, q12, q13, qe, HQt, hq⟩ | ⟨rfl, rfl, hp, ea, eb, ec, ee, ve, HE, HV, he⟩
 -- a fragment
 have d0 := NT hx
 have d1 := BF hx
 clear hx hC hP3 hH3
 rotate_left
 have d0 := NT hy
 have d1 := BF hy
 clear hy hC hP3 hH3
 rotate_left
 -- another protocol
 have d0 := NT p1
 have d1 := BF p1
 have d2 := NT p6
 have d3 := BF p6
 have d4 := NT p17
 have d5 := BF p17
 clear p1 p6 p17 hC hP3 hH3
 rotate_left
 -- about
 have HQ := Lib.hid (And.intro hZ3 (And.intro hP3 (And.intro hB3 hq)))
 clear hZ3 hH3 hP3 hB3 hq hC
 focus go_wp2_with (fail)
 obtain ⟨hZ3, hP3, hB3, hq⟩ := HQ.out
 clear HQ
 generalize ((w2.setCell ⟨P, 1, none⟩ (.int .i64 hd)).setCell ⟨P, 2, none⟩ (.int .i64 tot)) = w3 at hZ3 hP3 hB3 ⊢
 clear k c1 w2
 refine (HQt w3 P hP3).mono ?_
 rintro e w4 ⟨rfl, hP4, hb⟩
 replace hZ3 := (hb.block A hAP).trans hZ3
 replace hB3 : Below A w w4 := hB3.trans ⟨hb.os, hb.tape, hb.output, hb.size, fun k hk => hb.block k (by omega)⟩
 clear hb hP3
 rcases hq with ⟨hq, rfl, rfl⟩ | ⟨rfl, rfl, rfl⟩
 have d0 := NT hq
 have d1 := BF hq
 clear hq hP4
 rotate_left
 have hP5 := hP4 rfl
 have x := blk14 hP5
 clear hP5 hP4
 rotate_left
 -- ends
 rcases hp with rfl | rfl
 iterate 2
  have HQ := Lib.hid (And.intro hZ3 (And.intro hH3 (And.intro hP3 (And.intro hB3 he))))
  clear hZ3 hH3 hP3 hB3 he hC
  focus go_wp2_with (fail)
  obtain ⟨hZ3, hH3, hP3, hB3, he⟩ := HQ.out
  clear HQ
  generalize ((w2.setCell ⟨P, 1, none⟩ (.int .i64 hd)).setCell ⟨P, 2, none⟩ (.int .i64 tot)) = w3 at hZ3 hH3 hP3 hB3 ⊢
  clear k c1 w2
  refine (HE w3 P hP3).mono ?_
  rintro e w4 ⟨rfl, hP4, hb⟩
  replace hZ3 := (hb.block A hAP).trans hZ3
  replace hH3 := (hb.block H hHP).trans hH3
  replace hB3 : Below A w w4 := hB3.trans ⟨hb.os, hb.tape, hb.output, hb.size, fun k hk => hb.block k (by omega)⟩
  clear hb hP3
  rcases he with ⟨h, rfl, rfl⟩ | ⟨rfl, hv⟩
  have d0 := NT h
  have d1 := BF h
  clear h hP4 hH3
  rotate_left
  have k := blk9 hH3
  have HQ := Lib.hid (And.intro hZ3 (And.intro hP4 (And.intro hB3 hv)))
  clear hZ3 hH3 hP4 hB3 hv
  focus go_wp2_with (fail)
  obtain ⟨hZ3, hP4, hB3, hv⟩ := HQ.out
  clear HQ k
  refine (HV _).mono ?_
  rintro e w5 ⟨rfl, hb⟩
  replace hB3 := pk_below hB3 (Nat.le_of_lt (pk_lt hZ3)) hb
  replace hZ3 := pk_step hZ3 hb
  replace hP4 := pk_step hP4 hb
  clear hb
  rcases hv with ⟨h, rfl, rfl⟩ | ⟨rfl, rfl, rfl⟩
  have d0 := NT h
  have d1 := BF h
  clear h hP4
  rotate_left
  have x := blk14 hP4
  clear hP4
  rotate_left
 all_goals
  have z := blk14 hZ3
  have HQ := Lib.hid (And.intro hZ3 hB3)
  clear hZ3 hB3
  go_wp2_with (fail)
  obtain ⟨hZ3, hB3⟩ := HQ.out
  (try simp only [Exit.inBlock, Exit.then])
  refine bodyPost_ret (results_ct rfl _ _ A 51 _ (0, 0) _ rfl (pk_put14 hZ3) Tryz.underlying51 rfl (by kernel_rfl)) rfl ?_
  exact ⟨rfl, pk_iter_below hB3⟩
theorem pk_facts {s : List UInt8} (h : (Sp.ip4Parse s).e = 0) : Sp.ip4Sizes s = (Sp.ip4Len s, Sp.ip4Tot s, 0) ∧ (0 ≤ (Sp.ip4Parse s).flags ∧ (Sp.ip4Parse s).flags < 4294967296) ∧ (0 ≤ (Sp.ip4Parse s).proto ∧ (Sp.ip4Parse s).proto < 4294967296) ∧ (0 ≤ (Sp.ip4Parse s).src ∧ (Sp.ip4Parse s).src ≤ 4294967295) ∧ (0 ≤ (Sp.ip4Parse s).dst ∧ (Sp.ip4Parse s).dst ≤ 4294967295) ∧ (Sp.ip4Parse s).body.length ≤ 1500 ∧ (20 ≤ Sp.ip4Len s ∧ Sp.ip4Len s ≤ 60) := by
 have h0 : (Sp.ip4Sizes s).2.2 = 0 := by
  by_cases h0 : (Sp.ip4Sizes s).2.2 = 0
  ·exact h0
  ·unfold Sp.ip4Parse at h; rw [if_neg h0] at h; exact absurd h h0
 have hp : Sp.ip4Parse s = Sp.ip4Fields s (Sp.ip4Len s) (Sp.ip4Tot s) := by
  unfold Sp.ip4Parse at h ⊢
  rw [if_pos h0] at h ⊢
  by_cases h1 : Sp.sum (s.take (Sp.ip4Len s).toNat) = 65535
  ·rw [if_pos h1] at h ⊢
   by_cases h2 : Sp.optsOk ((s.take (Sp.ip4Len s).toNat).drop 20) = true
   ·rw [if_pos h2]
   ·rw [if_neg h2] at h; cases h
  ·rw [if_neg h1] at h; cases h
 obtain ⟨a0, a1, a2, a3, a4, a5, a6, a7⟩ := Sp.ip4Sizes_ok h0
 have g6 := pk_small s 6 2
 have g9 := pk_small s 9 1
 have g12 := pk_small s 12 4
 have g16 := pk_small s 16 4
 have hb := pk_len_b s
 rw [hp]
 unfold Sp.ip4Fields
 refine ⟨a7, ⟨?_, ?_⟩, ⟨?_, ?_⟩, ⟨?_, ?_⟩, ⟨?_, ?_⟩, ?_, a2, hb.2⟩
 ·show 0 ≤ (Sp.get s 6 2).1 / 8192; omega
 ·show (Sp.get s 6 2).1 / 8192 < 4294967296; omega
 ·exact g9.1
 ·exact g9.2
 ·exact g12.1
 ·show (Sp.get s 12 4).1 ≤ 4294967295; omega
 ·exact g16.1
 ·show (Sp.get s 16 4).1 ≤ 4294967295; omega
 show ((s.take (Sp.ip4Tot s).toNat).drop (Sp.ip4Len s).toNat).length ≤ 1500
 rw [List.length_drop, List.length_take]; omega
theorem pk_size {s : ByteArray} (hs : s.size ≤ 140737488355328) (h : Sp.ip4Sizes (bl s) = (Sp.ip4Len (bl s), Sp.ip4Tot (bl s), 0)) : ip4_Size.f s = some (Sp.ip4Len (bl s), Sp.ip4Tot (bl s), true) := by
 unfold ip4_Size.f; rw [ip4_sizes_eq hs, Option.bind_some, h]; rfl
theorem pk_mb (s : List UInt8) : (Sp.icmpParse s).body.length ≤ s.length := by
 unfold Sp.icmpParse
 split
 ·exact Nat.zero_le _
 split
 ·show (s.drop 8).length ≤ _; rw [List.length_drop]; omega
 exact Nat.zero_le _
theorem pk_plain_e {h : Sp.Ip4} {n t : Int} {a b c e : Int} (he : Sp.endsOf h.proto h.body = (a, b, c, e)) (h0 : e ≠ 0) : Sp.pktPlain h n t = Sp.pktNone e := by
 unfold Sp.pktPlain Sp.plainErr; rw [he]; simp only; rw [if_neg h0, if_neg h0]
theorem pk_plain_v {h : Sp.Ip4} {n t : Int} {a b c v : Int} (he : Sp.endsOf h.proto h.body = (a, b, c, 0)) (hv : Sp.pverify h.proto h.src h.dst h.body = v) (h0 : v ≠ 0) : Sp.pktPlain h n t = Sp.pktNone v := by
 unfold Sp.pktPlain Sp.plainErr; rw [he, hv]; simp only; rw [if_pos trivial, if_neg h0]
theorem pk_plain_y {h : Sp.Ip4} {n t : Int} {a b c : Int} (he : Sp.endsOf h.proto h.body = (a, b, c, 0)) (hv : Sp.pverify h.proto h.src h.dst h.body = 0) : Sp.pktPlain h n t = ⟨1, n, t, h.proto, h.src, h.dst, a, b, c, h.ttl, h.src, h.dst, 0, 0, 0⟩ := by
 unfold Sp.pktPlain Sp.plainErr; rw [he, hv]; simp only; rw [if_pos trivial, if_pos rfl]
theorem pk_classify (s : ByteArray) (hs : s.size ≤ 140737488355328) (w : World) :
  Calls Tryz.prog 38 #[.string s] w fun e w' => e = .returned (.tuple #[.agg #[.int .i64 (Sp.pkt (bl s)).kind, .int .i64 (Sp.pkt (bl s)).at_, .int .i64 (Sp.pkt (bl s)).total, .int .i64 (Sp.pkt (bl s)).proto, .int .u32 (Sp.pkt (bl s)).tsrc, .int .u32 (Sp.pkt (bl s)).tdst, .int .i64 (Sp.pkt (bl s)).sp, .int .i64 (Sp.pkt (bl s)).dp, .int .i64 (Sp.pkt (bl s)).flags, .int .i64 (Sp.pkt (bl s)).ttl, .int .u32 (Sp.pkt (bl s)).src, .int .u32 (Sp.pkt (bl s)).dst, .int .i64 (Sp.pkt (bl s)).quote, .int .i64 (Sp.pkt (bl s)).inner], .int .i64 (Sp.pkt (bl s)).e]) ∧ Below w.heap.size w w' := by
 have HP := fun W => ip4_Parse.calls s _ _ _ _ _ _ _ _ _ _ _ W (ip4_Parse_eq hs)
 unfold Sp.pkt
 by_cases he : (Sp.ip4Parse (bl s)).e = 0
 rotate_left
 ·have hP : Sp.pktOf (Sp.ip4Parse (bl s)) (Sp.ip4Len (bl s)) (Sp.ip4Tot (bl s)) = Sp.pktNone (Sp.ip4Parse (bl s)).e := by unfold Sp.pktOf; rw [if_neg he]
  rw [hP]
  exact pk_cl_err s _ _ w _ rfl _ _ _ _ _ _ _ _ _ HP he
 obtain ⟨hz, hfl, hpr, hsr, hds, hbd, hl0, hl1⟩ := pk_facts he
 have HZ := fun W => ip4_Size.calls s _ _ _ W (pk_size hs hz)
 generalize Sp.ip4Len (bl s) = n at *
 generalize Sp.ip4Tot (bl s) = t at *
 clear hz
 generalize Sp.ip4Parse (bl s) = h at *
 obtain ⟨tos, id, fl, fr, ttl, pr, sr, ds, op, bd, er⟩ := h
 dsimp only at *
 subst he
 have hfb : Go.bits .and .i64 fl 1 = fl % 2 := bits_mask .i64 63 (by decide) (fun n a b => by rw [IntKind.wrap_i64]; omega) 1 (by decide) fl hfl.1 (by omega)
 have hbs : (lb bd).size ≤ 140737488355328 := by rw [lb_size]; omega
 by_cases h2 : fl % 2 = 0
 rotate_left
 ·have hP : Sp.pktOf ⟨tos, id, fl, fr, ttl, pr, sr, ds, op, bd, 0⟩ n t = Sp.pktNone 8 := by unfold Sp.pktOf; rw [if_pos rfl, if_neg (fun x => h2 x.1)]
  rw [hP]
  exact pk_cl s _ _ w _ rfl _ _ _ _ _ _ _ _ HP _ _ _ HZ _ hfb _ _ (Or.inl ⟨h2, rfl, rfl⟩)
 by_cases h3 : fr = 0
 rotate_left
 ·have hP : Sp.pktOf ⟨tos, id, fl, fr, ttl, pr, sr, ds, op, bd, 0⟩ n t = Sp.pktNone 8 := by unfold Sp.pktOf; rw [if_pos rfl, if_neg (fun x => h3 x.2)]
  rw [hP]
  exact pk_cl s _ _ w _ rfl _ _ _ _ _ _ _ _ HP _ _ _ HZ _ hfb _ _ (Or.inr (Or.inl ⟨h2, h3, rfl, rfl⟩))
 by_cases p1 : pr = 1
 ·subst p1
  have hP : Sp.pktOf ⟨tos, id, fl, fr, ttl, 1, sr, ds, op, bd, 0⟩ n t = Sp.pktAbout ⟨tos, id, fl, fr, ttl, 1, sr, ds, op, bd, 0⟩ n t := by unfold Sp.pktOf; rw [if_pos rfl, if_pos ⟨h2, h3⟩, if_pos rfl]
  have HI := fun W => icmp_Parse.calls (lb bd) _ _ _ _ _ W (icmp_Parse_eq hbs)
  have hmb := pk_mb bd
  simp only [bl_lb] at HI
  rw [hP]
  unfold Sp.pktAbout
  dsimp only
  generalize Sp.icmpParse bd = m at *
  obtain ⟨mt, mc, mr, mb, me⟩ := m
  dsimp only at *
  by_cases hm : me = 0
  rotate_left
  ·have hA : Sp.aboutErr ⟨mt, mc, mr, mb, me⟩ = me := by unfold Sp.aboutErr; rw [if_neg hm]
   rw [hA, if_neg hm]
   have hQ := fun (W : World) (B : Nat) hR => (pk_quoted_bad B 1 n t 1 sr ds 0 0 0 ttl sr ds 0 0 (lb bd) W hR ⟨by omega, by omega⟩ mt mc mr me (lb mb) hm HI).mono (fun e w' x => (⟨x.1, fun z => absurd z hm, x.2⟩ : e = .returned (.int .i64 me) ∧ (me = 0 → w'.heap[B]? = some (.cells (rr14 0 0 0 0 0 0 0 0 0 0 0 0 0 0) 51 (0, 0))) ∧ Below B W w'))
   exact pk_cl s _ _ w _ rfl _ _ _ _ _ _ _ _ HP _ _ _ HZ _ hfb _ _ (Or.inr (Or.inr (Or.inr (Or.inl ⟨h2, h3, rfl, _, _, _, _, _, _, _, _, _, _, _, _, _, _, _, hQ, Or.inl ⟨hm, rfl, rfl⟩⟩))))
  subst hm
  have hA : Sp.aboutErr ⟨mt, mc, mr, mb, 0⟩ = pkFirst mt (bl (lb mb)) := by rw [bl_lb]; unfold Sp.aboutErr pkFirst; rw [if_pos rfl]
  have hms : (lb mb).size ≤ 140737488355328 := by rw [lb_size]; omega
  by_cases hq : pkFirst mt (bl (lb mb)) = 0
  rotate_left
  ·rw [hA, if_neg hq]
   have hQ := fun (W : World) (B : Nat) hR => (pk_quoted_wrong B 1 n t 1 sr ds 0 0 0 ttl sr ds 0 0 (lb bd) W hR ⟨by omega, by omega⟩ mt mc mr (lb mb) hms HI hq).mono (fun e w' x => (⟨x.1, fun z => absurd z hq, x.2⟩ : e = .returned (.int .i64 (pkFirst mt (bl (lb mb)))) ∧ (pkFirst mt (bl (lb mb)) = 0 → w'.heap[B]? = some (.cells (rr14 0 0 0 0 0 0 0 0 0 0 0 0 0 0) 51 (0, 0))) ∧ Below B W w'))
   exact pk_cl s _ _ w _ rfl _ _ _ _ _ _ _ _ HP _ _ _ HZ _ hfb _ _ (Or.inr (Or.inr (Or.inr (Or.inl ⟨h2, h3, rfl, _, _, _, _, _, _, _, _, _, _, _, _, _, _, _, hQ, Or.inl ⟨hq, rfl, rfl⟩⟩))))
  rw [hA, if_pos hq]
  have hQ := fun (W : World) (B : Nat) hR => (pk_quoted_right B 1 n t 1 sr ds 0 0 0 ttl sr ds 0 0 (lb bd) W hR ⟨by omega, by omega⟩ mt mc mr (lb mb) hms HI hq).mono (fun e w' x => (⟨x.1, fun _ => x.2.1, x.2.2⟩ : e = .returned (.int .i64 0) ∧ ((0 : Int) = 0 → _) ∧ Below B W w'))
  simp only [bl_lb] at hQ
  exact pk_cl s _ _ w _ rfl _ _ _ _ _ _ _ _ HP _ _ _ HZ _ hfb _ _ (Or.inr (Or.inr (Or.inr (Or.inl ⟨h2, h3, rfl, _, _, _, _, _, _, _, _, _, _, _, _, _, _, _, (fun W B hR => (hQ W B hR).mono (fun e w' x => ⟨x.1, fun _ => x.2.1 trivial, x.2.2⟩)), Or.inr ⟨rfl, rfl, rfl⟩⟩))))
 by_cases p6 : pr = 6
 ·subst p6
  have hP : Sp.pktOf ⟨tos, id, fl, fr, ttl, 6, sr, ds, op, bd, 0⟩ n t = Sp.pktPlain ⟨tos, id, fl, fr, ttl, 6, sr, ds, op, bd, 0⟩ n t := by unfold Sp.pktOf; rw [if_pos rfl, if_pos ⟨h2, h3⟩, if_neg (show ¬ (6 : Int) = 1 by decide), if_pos (Or.inl rfl)]
  have hE : Sp.endsOf 6 bd = ((Sp.tcpParse bd).sp, (Sp.tcpParse bd).dp, (Sp.tcpParse bd).flags, (Sp.tcpParse bd).e) := by unfold Sp.endsOf; rw [if_pos rfl]
  have HE := fun (W : World) (B : Nat) hR => pk_ends_tcp B 1 n t sr ds 0 0 0 ttl sr ds 0 0 (lb bd) W hbs hR
  have HV := fun W => pseudo_Verify.calls 6 sr ds (lb bd) _ W (pseudo_Verify_eq (by decide) hsr hds (by omega))
  simp only [bl_lb] at HE HV
  rw [hP]
  by_cases ht : (Sp.tcpParse bd).e = 0
  rotate_left
  ·rw [pk_plain_e hE ht]
   exact pk_cl s _ _ w _ rfl _ _ _ _ _ _ _ _ HP _ _ _ HZ _ hfb _ _ (Or.inr (Or.inr (Or.inr (Or.inr ⟨h2, h3, Or.inl rfl, _, _, _, _, _, HE, HV, Or.inl ⟨ht, rfl, rfl⟩⟩))))
  rw [ht] at hE
  by_cases hv : Sp.pverify 6 sr ds bd = 0
  rotate_left
  ·rw [pk_plain_v hE rfl hv]
   exact pk_cl s _ _ w _ rfl _ _ _ _ _ _ _ _ HP _ _ _ HZ _ hfb _ _ (Or.inr (Or.inr (Or.inr (Or.inr ⟨h2, h3, Or.inl rfl, _, _, _, _, _, HE, HV, Or.inr ⟨ht, Or.inl ⟨hv, rfl, rfl⟩⟩⟩))))
  rw [pk_plain_y hE hv]
  exact pk_cl s _ _ w _ rfl _ _ _ _ _ _ _ _ HP _ _ _ HZ _ hfb _ _ (Or.inr (Or.inr (Or.inr (Or.inr ⟨h2, h3, Or.inl rfl, _, _, _, _, _, HE, HV, Or.inr ⟨ht, Or.inr ⟨hv, rfl, rfl⟩⟩⟩))))
 by_cases p17 : pr = 17
 ·subst p17
  have hP : Sp.pktOf ⟨tos, id, fl, fr, ttl, 17, sr, ds, op, bd, 0⟩ n t = Sp.pktPlain ⟨tos, id, fl, fr, ttl, 17, sr, ds, op, bd, 0⟩ n t := by unfold Sp.pktOf; rw [if_pos rfl, if_pos ⟨h2, h3⟩, if_neg (show ¬ (17 : Int) = 1 by decide), if_pos (Or.inr rfl)]
  have hE : Sp.endsOf 17 bd = ((Sp.udpParse bd).1, (Sp.udpParse bd).2.1, 0, (Sp.udpParse bd).2.2.2) := by unfold Sp.endsOf; rw [if_neg (by decide)]
  have HE := fun (W : World) (B : Nat) hR => pk_ends_udp B 1 n t sr ds 0 0 0 ttl sr ds 0 0 (lb bd) W hbs hR
  have HV := fun W => pseudo_Verify.calls 17 sr ds (lb bd) _ W (pseudo_Verify_eq (by decide) hsr hds (by omega))
  simp only [bl_lb] at HE HV
  rw [hP]
  by_cases ht : (Sp.udpParse bd).2.2.2 = 0
  rotate_left
  ·rw [pk_plain_e hE ht]
   exact pk_cl s _ _ w _ rfl _ _ _ _ _ _ _ _ HP _ _ _ HZ _ hfb _ _ (Or.inr (Or.inr (Or.inr (Or.inr ⟨h2, h3, Or.inr rfl, _, _, _, _, _, HE, HV, Or.inl ⟨ht, rfl, rfl⟩⟩))))
  rw [ht] at hE
  by_cases hv : Sp.pverify 17 sr ds bd = 0
  rotate_left
  ·rw [pk_plain_v hE rfl hv]
   exact pk_cl s _ _ w _ rfl _ _ _ _ _ _ _ _ HP _ _ _ HZ _ hfb _ _ (Or.inr (Or.inr (Or.inr (Or.inr ⟨h2, h3, Or.inr rfl, _, _, _, _, _, HE, HV, Or.inr ⟨ht, Or.inl ⟨hv, rfl, rfl⟩⟩⟩))))
  rw [pk_plain_y hE hv]
  exact pk_cl s _ _ w _ rfl _ _ _ _ _ _ _ _ HP _ _ _ HZ _ hfb _ _ (Or.inr (Or.inr (Or.inr (Or.inr ⟨h2, h3, Or.inr rfl, _, _, _, _, _, HE, HV, Or.inr ⟨ht, Or.inr ⟨hv, rfl, rfl⟩⟩⟩))))
 have hP : Sp.pktOf ⟨tos, id, fl, fr, ttl, pr, sr, ds, op, bd, 0⟩ n t = Sp.pktNone 9 := by unfold Sp.pktOf; rw [if_pos rfl, if_pos ⟨h2, h3⟩, if_neg p1, if_neg (show ¬ (pr = 6 ∨ pr = 17) by omega)]
 rw [hP]
 exact pk_cl s _ _ w _ rfl _ _ _ _ _ _ _ _ HP _ _ _ HZ _ hfb _ _ (Or.inr (Or.inr (Or.inl ⟨h2, h3, p1, p6, p17, rfl, rfl⟩)))
def packet_Classify.f (a0 : ByteArray) : Option (Int × Int × Int × Int × Int × Int × Int × Int × Int × Int × Int × Int × Int × Int × Int) := if a0.size ≤ 140737488355328 then some ((Sp.pkt (bl a0)).kind, (Sp.pkt (bl a0)).at_, (Sp.pkt (bl a0)).total, (Sp.pkt (bl a0)).proto, (Sp.pkt (bl a0)).tsrc, (Sp.pkt (bl a0)).tdst, (Sp.pkt (bl a0)).sp, (Sp.pkt (bl a0)).dp, (Sp.pkt (bl a0)).flags, (Sp.pkt (bl a0)).ttl, (Sp.pkt (bl a0)).src, (Sp.pkt (bl a0)).dst, (Sp.pkt (bl a0)).quote, (Sp.pkt (bl a0)).inner, (Sp.pkt (bl a0)).e) else none
theorem packet_Classify_eq {a0 : ByteArray} (h : a0.size ≤ 140737488355328) : packet_Classify.f a0 = some ((Sp.pkt (bl a0)).kind, (Sp.pkt (bl a0)).at_, (Sp.pkt (bl a0)).total, (Sp.pkt (bl a0)).proto, (Sp.pkt (bl a0)).tsrc, (Sp.pkt (bl a0)).tdst, (Sp.pkt (bl a0)).sp, (Sp.pkt (bl a0)).dp, (Sp.pkt (bl a0)).flags, (Sp.pkt (bl a0)).ttl, (Sp.pkt (bl a0)).src, (Sp.pkt (bl a0)).dst, (Sp.pkt (bl a0)).quote, (Sp.pkt (bl a0)).inner, (Sp.pkt (bl a0)).e) := by unfold packet_Classify.f; exact if_pos h
theorem packet_Classify.calls (a0 : ByteArray) (r1 : Int) (r2 : Int) (r3 : Int) (r4 : Int) (r5 : Int) (r6 : Int) (r7 : Int) (r8 : Int) (r9 : Int) (r10 : Int) (r11 : Int) (r12 : Int) (r13 : Int) (r14 : Int) (r15 : Int) (w : World) (h : packet_Classify.f a0 = some (r1, r2, r3, r4, r5, r6, r7, r8, r9, r10, r11, r12, r13, r14, r15)) :
  Calls Tryz.prog 38 #[.string a0] w fun e w' => e = .returned (.tuple #[.agg #[.int .i64 r1, .int .i64 r2, .int .i64 r3, .int .i64 r4, .int .u32 r5, .int .u32 r6, .int .i64 r7, .int .i64 r8, .int .i64 r9, .int .i64 r10, .int .u32 r11, .int .u32 r12, .int .i64 r13, .int .i64 r14], .int .i64 r15]) ∧ Below w.heap.size w w' := by
 unfold packet_Classify.f at h
 split at h
 case isFalse => cases h
 case isTrue hs =>
  have h := Option.some.inj h
  have := pk_classify a0 hs w
  simp only [Prod.mk.injEq] at h
  obtain ⟨rfl, rfl, rfl, rfl, rfl, rfl, rfl, rfl, rfl, rfl, rfl, rfl, rfl, rfl, rfl⟩ := h
  exact this

end Go.Proofs.YtfnjohklmpiboaaGreat.Pr
