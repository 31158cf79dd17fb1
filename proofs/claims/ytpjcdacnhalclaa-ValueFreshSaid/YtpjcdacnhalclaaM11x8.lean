/- A part of a proof: facts of functions that the law calls; conditions stand in each. -/
import Derived.Test.YtpjcdacnhalclaaM11x2
import Derived.Test.YtpjcdacnhalclaaM11x7
import Derived.Test.YtpjcdacnhalclaaM11x4
import Derived.Lib.Bytes
import Derived.Test.YtpjcdacnhalclaaM11x5
import Derived.Test.YtpjcdacnhalclaaM11x6
import Derived.WalkLawsBesides
set_option linter.unusedVariables false
set_option linter.unusedSimpArgs false
namespace Go.Proofs.Ytpjcdacnhalclaa.Q
open Go.RowKit Go.Proofs.YtpjcdacnhalclaaW.PrintWords Go.Proofs.YtpjcdacnhalclaaW.PrintLast Go.Proofs.YtpjcdacnhalclaaW.PrintMore
attribute [local go_sem] max2_int min2_int max_two min_two max_three min_three max_four min_four
def cc_Value.f (k : Nat) (s0_0 : List Int) (s0_1 : Int) (a1 : Int) : Option (Int × Int × ByteArray × Int) := if a1 = 3 then ((cc_Int.f s0_0 s0_1 2).bind fun bt109 => (some (a1, bt109.1, (⟨#[]⟩ : ByteArray), bt109.2))) else (if a1 = 4 then ((cc_Number.f s0_0 s0_1).bind fun bt111 => (some (a1, bt111.1, (⟨#[]⟩ : ByteArray), bt111.2))) else ((cc_Text.f k s0_0 s0_1).bind fun bt113 => (some (5, 0, bt113.1, bt113.2))))
set_option maxHeartbeats 8000000 in
set_option maxRecDepth 100000 in
theorem cc_Value.calls (k : Nat) (g : Nat) (s0_0 : List Int) (s0_1 : Int) (a1 : Int) (r1 : Int) (r2 : Int) (r3 : ByteArray) (r4 : Int) (w0 w : World) (hI : IsS75 w0 w g s0_0 s0_1) (hB : Below w0.heap.size w0 w) (h : cc_Value.f k s0_0 s0_1 a1 = some (r1, r2, r3, r4)) :
  Calls Try.prog 74 #[.pointer (some ⟨g, 0, none⟩), .int .i64 a1] w fun e w' => e = .returned (.agg #[.int .i64 r1, .int .i64 r2, .string r3]) ∧ IsS75 w0 w' g s0_0 r4 ∧ Below w0.heap.size w0 w' ∧ KeepBut w w' g none := by
 have hu24 := Try.underlying24
 have HI0 := Aside0.mk hI
 have HK := aK (KeepBut.refl w g none)
 have HL := Aside0.mk hB.size
 clear hI
 have HW0 := Aside0.mk hB.size
 have HB := Aside0.mk hB
 clear hB
 have H : (if a1 = 3 then ((cc_Int.f s0_0 s0_1 2).bind fun bt109 => (some (a1, bt109.1, (⟨#[]⟩ : ByteArray), bt109.2))) else (if a1 = 4 then ((cc_Number.f s0_0 s0_1).bind fun bt111 => (some (a1, bt111.1, (⟨#[]⟩ : ByteArray), bt111.2))) else ((cc_Text.f k s0_0 s0_1).bind fun bt113 => (some (5, 0, bt113.1, bt113.2))))) = some (r1, r2, r3, r4) := h
 clear h
 by_cases c3 : a1 = 3
 rotate_left
 ·rw [if_neg c3] at H
  have c3b0 : (a1 == 3) = false := beq_eq_false_iff_ne.mpr c3
  have c3b1 : (a1 != 3) = true := bne_iff_ne.mpr c3
  by_cases c9 : a1 = 4
  rotate_left
  ·rw [if_neg c9] at H
   have c9b0 : (a1 == 4) = false := beq_eq_false_iff_ne.mpr c9
   have c9b1 : (a1 != 4) = true := bne_iff_ne.mpr c9
   obtain ⟨⟨t113, t114⟩, A15, H⟩ := oB H
   try dsimp only at H
   simp only [Option.some.injEq, Prod.mk.injEq] at H
   obtain ⟨rfl, rfl, rfl, rfl⟩ := H
   go_enter Try.func74, Try.ntmps74
   go_wp2_with (first | ((with_reducible refine gate_dst (N := 4) rfl ?_); refine box_event ?hg (N := 4) ?hd (cs := #[.int .i64 0, .int .i64 0, .string (⟨#[]⟩ : ByteArray)]) (t := 24) ?hr ?_; (case hd => rfl); (case hg => rfl); (case hr => exact hR); intro gb108 hg w16 hbox hb; have n0_ := aK (IsS75.below (iX HI0.out) hb); have n1_ := aK (KeepBut.trans kX (KeepBut.of_below hb g none) (.inl rfl)); have n2_ := aK (below_step (bS (IsS75.ge HI0.out)) hb); have n3_ := aK (hbox); have n4_ := aK ((by rw [hg]; exact (keep_size (w := w) (g := g) (row := none) kX) : w.heap.size ≤ gb108)); have n5_ := aK ((Nat.le_trans HW0.out (by rw [hg]; exact (keep_size (w := w) (g := g) (row := none) kX) : w.heap.size ≤ gb108) : w0.heap.size ≤ gb108)); have n6_ := aK ((by rw [hg]; exact Nat.ne_of_lt (IsS75.lt (show IsS75 w0 _ g s0_0 s0_1 from iX HI0.out)) : g ≠ gb108)); have n7_ := aK ((by rw [hg]; exact Nat.ne_of_gt (IsS75.lt (show IsS75 w0 _ g s0_0 s0_1 from iX HI0.out)) : gb108 ≠ g)); clear HI0 HK HB; have HI0 := n0_; have HK := n1_; have HB := n2_; have BK108 := n3_; have GW108 := n4_; have GE108 := n5_; have NB0_108 := n6_; have NB108_0 := n7_; clear n0_ n1_ n2_ n3_ n4_ n5_ n6_ n7_ hb hbox hg) | ((with_reducible refine gate_callee (f := 95) rfl ?_); refine gL (some 19) rfl Try.func95 #[.pointer (some ⟨g, 0, none⟩)] rfl ?_; (with_reducible refine (cc_Text.calls k g s0_0 s0_1 t113 t114 w0 _ ?side1 ?side2 A15.out).mono ?_); (case side1 => exact iF HI0.out NB0_108.out); (case side2 => exact bT (IsS75.ge HI0.out) GE108.out); rintro e w17 ⟨rfl, hi, hb, hk⟩; refine ⟨_, rfl, ?_⟩; have n0_ := aK (KeepBut.blk hk (g' := gb108) (o := .cells #[.int .i64 0, .int .i64 0, .string (⟨#[]⟩ : ByteArray)] 24 (0, 0)) (bX BK108.out) NB108_0.out (by simp)); have n1_ := aK (KeepBut.trans (by repeat (first | (with_reducible first | exact HK.out | apply KeepBut.set_ | apply keep_drewN | apply keep_drew | apply keep_alloc | refine keep_far ?_ GW108.out _) | exact HK.out)) hk (.inl rfl)); have n2_ := aK (hb); have n3_ := aK (hi); clear BK108 HK HB HI0; have BK108 := n0_; have HK := n1_; have HB := n2_; have HI0 := n3_; clear n0_ n1_ n2_ n3_; (try clear hb hk hi); have hnb18 := NB108_0.out; have hnc18 := NB0_108.out; obtain ⟨hcz19_0, hcz19_1, hcz19_2⟩ := z3 BK108.out (.int .i64 0) (.int .i64 0) (.string (⟨#[]⟩ : ByteArray)); obtain ⟨hfz19_0, hfz19_1, hfz19_2⟩ := f3 BK108.out))
   refine bodyPost_ret (results_cell_row rfl _ _ gb108 24 #[.int .i64 5, .int .i64 0, .string t113] (0, 0) _ rfl (by (with_reducible repeat (first | refine blk_drewN ?_ _ | refine blk_drew ?_ | refine blk_alloc ?_ _)); refine blk_put (cs := #[.int .i64 5, .int .i64 0, .string (⟨#[]⟩ : ByteArray)]) ?_ 2 _ rfl; (with_reducible repeat (first | refine blk_drewN ?_ _ | refine blk_drew ?_ | refine blk_alloc ?_ _)); refine blk_put (cs := #[.int .i64 5, .int .i64 0, .string (⟨#[]⟩ : ByteArray)]) ?_ 1 _ rfl; (with_reducible repeat (first | refine blk_drewN ?_ _ | refine blk_drew ?_ | refine blk_alloc ?_ _)); refine blk_put (cs := #[.int .i64 0, .int .i64 0, .string (⟨#[]⟩ : ByteArray)]) ?_ 0 _ rfl; (with_reducible repeat (first | refine blk_drewN ?_ _ | refine blk_drew ?_ | refine blk_alloc ?_ _)); exact BK108.out) Try.underlying24 rfl (by kernel_rfl)) rfl ?_
   exact ⟨eW, iF HI0.out NB0_108.out, bT (IsS75.ge HI0.out) GE108.out, by repeat (first | (with_reducible first | exact HK.out | apply KeepBut.set_ | apply keep_drewN | apply keep_drew | apply keep_alloc | refine keep_far ?_ GW108.out _) | exact HK.out)⟩
  rw [if_pos c9] at H
  have c9b0 : (a1 == 4) = true := beq_iff_eq.mpr c9
  have c9b1 : (a1 != 4) = false := bne_eq_false_iff_eq.mpr c9
  clear c9
  obtain ⟨⟨t111, t112⟩, A10, H⟩ := oB H
  try dsimp only at H
  simp only [Option.some.injEq, Prod.mk.injEq] at H
  obtain ⟨rfl, rfl, rfl, rfl⟩ := H
  go_enter Try.func74, Try.ntmps74
  go_wp2_with (first | ((with_reducible refine gate_dst (N := 4) rfl ?_); refine box_event ?hg (N := 4) ?hd (cs := #[.int .i64 0, .int .i64 0, .string (⟨#[]⟩ : ByteArray)]) (t := 24) ?hr ?_; (case hd => rfl); (case hg => rfl); (case hr => exact hR); intro gb108 hg w11 hbox hb; have n0_ := aK (IsS75.below (iX HI0.out) hb); have n1_ := aK (KeepBut.trans kX (KeepBut.of_below hb g none) (.inl rfl)); have n2_ := aK (below_step (bS (IsS75.ge HI0.out)) hb); have n3_ := aK (hbox); have n4_ := aK ((by rw [hg]; exact (keep_size (w := w) (g := g) (row := none) kX) : w.heap.size ≤ gb108)); have n5_ := aK ((Nat.le_trans HW0.out (by rw [hg]; exact (keep_size (w := w) (g := g) (row := none) kX) : w.heap.size ≤ gb108) : w0.heap.size ≤ gb108)); have n6_ := aK ((by rw [hg]; exact Nat.ne_of_lt (IsS75.lt (show IsS75 w0 _ g s0_0 s0_1 from iX HI0.out)) : g ≠ gb108)); have n7_ := aK ((by rw [hg]; exact Nat.ne_of_gt (IsS75.lt (show IsS75 w0 _ g s0_0 s0_1 from iX HI0.out)) : gb108 ≠ g)); clear HI0 HK HB; have HI0 := n0_; have HK := n1_; have HB := n2_; have BK108 := n3_; have GW108 := n4_; have GE108 := n5_; have NB0_108 := n6_; have NB108_0 := n7_; clear n0_ n1_ n2_ n3_ n4_ n5_ n6_ n7_ hb hbox hg) | ((with_reducible refine gate_callee (f := 94) rfl ?_); refine gL (some 16) rfl Try.func94 #[.pointer (some ⟨g, 0, none⟩)] rfl ?_; (with_reducible refine (cc_Number.calls g s0_0 s0_1 t111 t112 w0 _ ?side1 ?side2 A10.out).mono ?_); (case side1 => exact iF HI0.out NB0_108.out); (case side2 => exact bT (IsS75.ge HI0.out) GE108.out); rintro e w12 ⟨rfl, hi, hb, hk⟩; refine ⟨_, rfl, ?_⟩; have n0_ := aK (KeepBut.blk hk (g' := gb108) (o := .cells #[.int .i64 0, .int .i64 0, .string (⟨#[]⟩ : ByteArray)] 24 (0, 0)) (bX BK108.out) NB108_0.out (by simp)); have n1_ := aK (KeepBut.trans (by repeat (first | (with_reducible first | exact HK.out | apply KeepBut.set_ | apply keep_drewN | apply keep_drew | apply keep_alloc | refine keep_far ?_ GW108.out _) | exact HK.out)) hk (.inl rfl)); have n2_ := aK (hb); have n3_ := aK (hi); clear BK108 HK HB HI0; have BK108 := n0_; have HK := n1_; have HB := n2_; have HI0 := n3_; clear n0_ n1_ n2_ n3_; (try clear hb hk hi); have hnb13 := NB108_0.out; have hnc13 := NB0_108.out; obtain ⟨hcz14_0, hcz14_1, hcz14_2⟩ := z3 BK108.out (.int .i64 0) (.int .i64 0) (.string (⟨#[]⟩ : ByteArray)); obtain ⟨hfz14_0, hfz14_1, hfz14_2⟩ := f3 BK108.out))
  refine bodyPost_ret (results_cell_row rfl _ _ gb108 24 #[.int .i64 a1, .int .i64 t111, .string (⟨#[]⟩ : ByteArray)] (0, 0) _ rfl (by (with_reducible repeat (first | refine blk_drewN ?_ _ | refine blk_drew ?_ | refine blk_alloc ?_ _)); refine blk_put (cs := #[.int .i64 a1, .int .i64 t111, .string (⟨#[]⟩ : ByteArray)]) ?_ 2 _ rfl; (with_reducible repeat (first | refine blk_drewN ?_ _ | refine blk_drew ?_ | refine blk_alloc ?_ _)); refine blk_put (cs := #[.int .i64 a1, .int .i64 0, .string (⟨#[]⟩ : ByteArray)]) ?_ 1 _ rfl; (with_reducible repeat (first | refine blk_drewN ?_ _ | refine blk_drew ?_ | refine blk_alloc ?_ _)); refine blk_put (cs := #[.int .i64 0, .int .i64 0, .string (⟨#[]⟩ : ByteArray)]) ?_ 0 _ rfl; (with_reducible repeat (first | refine blk_drewN ?_ _ | refine blk_drew ?_ | refine blk_alloc ?_ _)); exact BK108.out) Try.underlying24 rfl (by kernel_rfl)) rfl ?_
  exact ⟨eW, iF HI0.out NB0_108.out, bT (IsS75.ge HI0.out) GE108.out, by repeat (first | (with_reducible first | exact HK.out | apply KeepBut.set_ | apply keep_drewN | apply keep_drew | apply keep_alloc | refine keep_far ?_ GW108.out _) | exact HK.out)⟩
 rw [if_pos c3] at H
 have c3b0 : (a1 == 3) = true := beq_iff_eq.mpr c3
 have c3b1 : (a1 != 3) = false := bne_eq_false_iff_eq.mpr c3
 clear c3
 obtain ⟨⟨t109, t110⟩, A4, H⟩ := oB H
 try dsimp only at H
 simp only [Option.some.injEq, Prod.mk.injEq] at H
 obtain ⟨rfl, rfl, rfl, rfl⟩ := H
 go_enter Try.func74, Try.ntmps74
 go_wp2_with (first | ((with_reducible refine gate_dst (N := 4) rfl ?_); refine box_event ?hg (N := 4) ?hd (cs := #[.int .i64 0, .int .i64 0, .string (⟨#[]⟩ : ByteArray)]) (t := 24) ?hr ?_; (case hd => rfl); (case hg => rfl); (case hr => exact hR); intro gb108 hg w5 hbox hb; have n0_ := aK (IsS75.below (iX HI0.out) hb); have n1_ := aK (KeepBut.trans kX (KeepBut.of_below hb g none) (.inl rfl)); have n2_ := aK (below_step (bS (IsS75.ge HI0.out)) hb); have n3_ := aK (hbox); have n4_ := aK ((by rw [hg]; exact (keep_size (w := w) (g := g) (row := none) kX) : w.heap.size ≤ gb108)); have n5_ := aK ((Nat.le_trans HW0.out (by rw [hg]; exact (keep_size (w := w) (g := g) (row := none) kX) : w.heap.size ≤ gb108) : w0.heap.size ≤ gb108)); have n6_ := aK ((by rw [hg]; exact Nat.ne_of_lt (IsS75.lt (show IsS75 w0 _ g s0_0 s0_1 from iX HI0.out)) : g ≠ gb108)); have n7_ := aK ((by rw [hg]; exact Nat.ne_of_gt (IsS75.lt (show IsS75 w0 _ g s0_0 s0_1 from iX HI0.out)) : gb108 ≠ g)); clear HI0 HK HB; have HI0 := n0_; have HK := n1_; have HB := n2_; have BK108 := n3_; have GW108 := n4_; have GE108 := n5_; have NB0_108 := n6_; have NB108_0 := n7_; clear n0_ n1_ n2_ n3_ n4_ n5_ n6_ n7_ hb hbox hg) | ((with_reducible refine gate_callee (f := 73) rfl ?_); refine gL (some 10) rfl Try.func73 #[.pointer (some ⟨g, 0, none⟩), .int .i64 2] rfl ?_; (with_reducible refine (cc_Int.calls g s0_0 s0_1 2 t109 t110 w0 _ ?side1 ?side2 A4.out).mono ?_); (case side1 => exact iF HI0.out NB0_108.out); (case side2 => exact bT (IsS75.ge HI0.out) GE108.out); rintro e w6 ⟨rfl, hi, hb, hk⟩; refine ⟨_, rfl, ?_⟩; have n0_ := aK (KeepBut.blk hk (g' := gb108) (o := .cells #[.int .i64 0, .int .i64 0, .string (⟨#[]⟩ : ByteArray)] 24 (0, 0)) (bX BK108.out) NB108_0.out (by simp)); have n1_ := aK (KeepBut.trans (by repeat (first | (with_reducible first | exact HK.out | apply KeepBut.set_ | apply keep_drewN | apply keep_drew | apply keep_alloc | refine keep_far ?_ GW108.out _) | exact HK.out)) hk (.inl rfl)); have n2_ := aK (hb); have n3_ := aK (hi); clear BK108 HK HB HI0; have BK108 := n0_; have HK := n1_; have HB := n2_; have HI0 := n3_; clear n0_ n1_ n2_ n3_; (try clear hb hk hi); have hnb7 := NB108_0.out; have hnc7 := NB0_108.out; obtain ⟨hcz8_0, hcz8_1, hcz8_2⟩ := z3 BK108.out (.int .i64 0) (.int .i64 0) (.string (⟨#[]⟩ : ByteArray)); obtain ⟨hfz8_0, hfz8_1, hfz8_2⟩ := f3 BK108.out))
 refine bodyPost_ret (results_cell_row rfl _ _ gb108 24 #[.int .i64 a1, .int .i64 t109, .string (⟨#[]⟩ : ByteArray)] (0, 0) _ rfl (by (with_reducible repeat (first | refine blk_drewN ?_ _ | refine blk_drew ?_ | refine blk_alloc ?_ _)); refine blk_put (cs := #[.int .i64 a1, .int .i64 t109, .string (⟨#[]⟩ : ByteArray)]) ?_ 2 _ rfl; (with_reducible repeat (first | refine blk_drewN ?_ _ | refine blk_drew ?_ | refine blk_alloc ?_ _)); refine blk_put (cs := #[.int .i64 a1, .int .i64 0, .string (⟨#[]⟩ : ByteArray)]) ?_ 1 _ rfl; (with_reducible repeat (first | refine blk_drewN ?_ _ | refine blk_drew ?_ | refine blk_alloc ?_ _)); refine blk_put (cs := #[.int .i64 0, .int .i64 0, .string (⟨#[]⟩ : ByteArray)]) ?_ 0 _ rfl; (with_reducible repeat (first | refine blk_drewN ?_ _ | refine blk_drew ?_ | refine blk_alloc ?_ _)); exact BK108.out) Try.underlying24 rfl (by kernel_rfl)) rfl ?_
 exact ⟨eW, iF HI0.out NB0_108.out, bT (IsS75.ge HI0.out) GE108.out, by repeat (first | (with_reducible first | exact HK.out | apply KeepBut.set_ | apply keep_drewN | apply keep_drew | apply keep_alloc | refine keep_far ?_ GW108.out _) | exact HK.out)⟩
def cc_Any.f (k : Nat) (s0_0 : List Int) (s0_1 : Int) : Option (Int × Int × ByteArray × Int) := (cc_Int.f s0_0 s0_1 5).bind fun bt116 => (if (wrap64 (1 + bt116.1)) < 3 then (some (wrap64 (1 + bt116.1), 0, (⟨#[]⟩ : ByteArray), bt116.2)) else ((cc_Value.f k s0_0 bt116.2 (wrap64 (1 + bt116.1))).bind fun bt118 => (some (bt118.1, bt118.2.1, bt118.2.2.1, bt118.2.2.2))))
set_option maxHeartbeats 8000000 in
set_option maxRecDepth 100000 in
theorem cc_Any.calls (k : Nat) (g : Nat) (s0_0 : List Int) (s0_1 : Int) (r1 : Int) (r2 : Int) (r3 : ByteArray) (r4 : Int) (w0 w : World) (hI : IsS75 w0 w g s0_0 s0_1) (hB : Below w0.heap.size w0 w) (h : cc_Any.f k s0_0 s0_1 = some (r1, r2, r3, r4)) :
  Calls Try.prog 19 #[.pointer (some ⟨g, 0, none⟩)] w fun e w' => e = .returned (.agg #[.int .i64 r1, .int .i64 r2, .string r3]) ∧ IsS75 w0 w' g s0_0 r4 ∧ Below w0.heap.size w0 w' ∧ KeepBut w w' g none := by
 have hu24 := Try.underlying24
 have HI0 := Aside0.mk hI
 have HK := aK (KeepBut.refl w g none)
 have HL := Aside0.mk hB.size
 clear hI
 have HW0 := Aside0.mk hB.size
 have HB := Aside0.mk hB
 clear hB
 have H : ((cc_Int.f s0_0 s0_1 5).bind fun bt116 => (if (wrap64 (1 + bt116.1)) < 3 then (some (wrap64 (1 + bt116.1), 0, (⟨#[]⟩ : ByteArray), bt116.2)) else ((cc_Value.f k s0_0 bt116.2 (wrap64 (1 + bt116.1))).bind fun bt118 => (some (bt118.1, bt118.2.1, bt118.2.2.1, bt118.2.2.2))))) = some (r1, r2, r3, r4) := h
 clear h
 obtain ⟨⟨t116, t117⟩, A2, H⟩ := oB H
 try dsimp only at H
 by_cases c3 : (wrap64 (1 + t116)) < 3
 rotate_left
 ·rw [if_neg c3] at H
  have c3b0 : decide ((wrap64 (1 + t116)) < 3) = false := decide_eq_false c3
  clear c3
  obtain ⟨⟨t118, t119, t120, t121⟩, A8, H⟩ := oB H
  try dsimp only at H
  simp only [Option.some.injEq, Prod.mk.injEq] at H
  obtain ⟨rfl, rfl, rfl, rfl⟩ := H
  go_enter Try.func19, Try.ntmps19
  go_wp2_with (first | ((with_reducible refine gate_dst (N := 2) rfl ?_); refine box_event ?hg (N := 2) ?hd (cs := #[.int .i64 0, .int .i64 0, .string (⟨#[]⟩ : ByteArray)]) (t := 24) ?hr ?_; (case hd => rfl); (case hg => rfl); (case hr => exact hR); intro gb115 hg w9 hbox hb; have n0_ := aK (IsS75.below (iX HI0.out) hb); have n1_ := aK (KeepBut.trans kX (KeepBut.of_below hb g none) (.inl rfl)); have n2_ := aK (below_step (bS (IsS75.ge HI0.out)) hb); have n3_ := aK (hbox); have n4_ := aK ((by rw [hg]; exact (keep_size (w := w) (g := g) (row := none) kX) : w.heap.size ≤ gb115)); have n5_ := aK ((Nat.le_trans HW0.out (by rw [hg]; exact (keep_size (w := w) (g := g) (row := none) kX) : w.heap.size ≤ gb115) : w0.heap.size ≤ gb115)); have n6_ := aK ((by rw [hg]; exact Nat.ne_of_lt (IsS75.lt (show IsS75 w0 _ g s0_0 s0_1 from iX HI0.out)) : g ≠ gb115)); have n7_ := aK ((by rw [hg]; exact Nat.ne_of_gt (IsS75.lt (show IsS75 w0 _ g s0_0 s0_1 from iX HI0.out)) : gb115 ≠ g)); clear HI0 HK HB; have HI0 := n0_; have HK := n1_; have HB := n2_; have BK115 := n3_; have GW115 := n4_; have GE115 := n5_; have NB0_115 := n6_; have NB115_0 := n7_; clear n0_ n1_ n2_ n3_ n4_ n5_ n6_ n7_ hb hbox hg) | ((with_reducible refine gate_callee (f := 73) rfl ?_); refine gL (some 5) rfl Try.func73 #[.pointer (some ⟨g, 0, none⟩), .int .i64 5] rfl ?_; (with_reducible refine (cc_Int.calls g s0_0 s0_1 5 t116 t117 w0 _ ?side1 ?side2 A2.out).mono ?_); (case side1 => exact iF HI0.out NB0_115.out); (case side2 => exact bT (IsS75.ge HI0.out) GE115.out); rintro e w10 ⟨rfl, hi, hb, hk⟩; refine ⟨_, rfl, ?_⟩; have n0_ := aK (KeepBut.blk hk (g' := gb115) (o := .cells #[.int .i64 0, .int .i64 0, .string (⟨#[]⟩ : ByteArray)] 24 (0, 0)) (bX BK115.out) NB115_0.out (by simp)); have n1_ := aK (KeepBut.trans (by repeat (first | (with_reducible first | exact HK.out | apply KeepBut.set_ | apply keep_drewN | apply keep_drew | apply keep_alloc | refine keep_far ?_ GW115.out _) | exact HK.out)) hk (.inl rfl)); have n2_ := aK (hb); have n3_ := aK (hi); clear BK115 HK HB HI0; have BK115 := n0_; have HK := n1_; have HB := n2_; have HI0 := n3_; clear n0_ n1_ n2_ n3_; (try clear hb hk hi)) | ((with_reducible refine gate_callee (f := 74) rfl ?_); refine gL (some 13) rfl Try.func74 #[.pointer (some ⟨g, 0, none⟩), .int .i64 (wrap64 (1 + t116))] rfl ?_; (with_reducible refine (cc_Value.calls k g s0_0 t117 (wrap64 (1 + t116)) t118 t119 t120 t121 w0 _ ?side1 ?side2 A8.out).mono ?_); (case side1 => exact iF HI0.out NB0_115.out); (case side2 => exact bT (IsS75.ge HI0.out) GE115.out); rintro e w11 ⟨rfl, hi, hb, hk⟩; refine ⟨_, rfl, ?_⟩; have n0_ := aK (KeepBut.blk hk (g' := gb115) (o := .cells #[.int .i64 0, .int .i64 0, .string (⟨#[]⟩ : ByteArray)] 24 (0, 0)) (bX BK115.out) NB115_0.out (by simp)); have n1_ := aK (KeepBut.trans (by repeat (first | (with_reducible first | exact HK.out | apply KeepBut.set_ | apply keep_drewN | apply keep_drew | apply keep_alloc | refine keep_far ?_ GW115.out _) | exact HK.out)) hk (.inl rfl)); have n2_ := aK (hb); have n3_ := aK (hi); clear BK115 HK HB HI0; have BK115 := n0_; have HK := n1_; have HB := n2_; have HI0 := n3_; clear n0_ n1_ n2_ n3_; (try clear hb hk hi); have hnb12 := NB115_0.out; have hnc12 := NB0_115.out; obtain ⟨hcz13_0, hcz13_1, hcz13_2⟩ := z3 BK115.out (.int .i64 0) (.int .i64 0) (.string (⟨#[]⟩ : ByteArray)); obtain ⟨hfz13_0, hfz13_1, hfz13_2⟩ := f3 BK115.out))
  refine bodyPost_ret (results_cell_row rfl _ _ gb115 24 #[.int .i64 t118, .int .i64 t119, .string t120] (0, 0) _ rfl (by (with_reducible repeat (first | refine blk_drewN ?_ _ | refine blk_drew ?_ | refine blk_alloc ?_ _)); refine blk_put (cs := #[.int .i64 t118, .int .i64 t119, .string (⟨#[]⟩ : ByteArray)]) ?_ 2 _ rfl; (with_reducible repeat (first | refine blk_drewN ?_ _ | refine blk_drew ?_ | refine blk_alloc ?_ _)); refine blk_put (cs := #[.int .i64 t118, .int .i64 0, .string (⟨#[]⟩ : ByteArray)]) ?_ 1 _ rfl; (with_reducible repeat (first | refine blk_drewN ?_ _ | refine blk_drew ?_ | refine blk_alloc ?_ _)); refine blk_put (cs := #[.int .i64 0, .int .i64 0, .string (⟨#[]⟩ : ByteArray)]) ?_ 0 _ rfl; (with_reducible repeat (first | refine blk_drewN ?_ _ | refine blk_drew ?_ | refine blk_alloc ?_ _)); exact BK115.out) Try.underlying24 rfl (by kernel_rfl)) rfl ?_
  exact ⟨eW, iF HI0.out NB0_115.out, bT (IsS75.ge HI0.out) GE115.out, by repeat (first | (with_reducible first | exact HK.out | apply KeepBut.set_ | apply keep_drewN | apply keep_drew | apply keep_alloc | refine keep_far ?_ GW115.out _) | exact HK.out)⟩
 rw [if_pos c3] at H
 have c3b0 : decide ((wrap64 (1 + t116)) < 3) = true := decide_eq_true c3
 clear c3
 simp only [Option.some.injEq, Prod.mk.injEq] at H
 obtain ⟨rfl, rfl, rfl, rfl⟩ := H
 go_enter Try.func19, Try.ntmps19
 go_wp2_with (first | ((with_reducible refine gate_dst (N := 2) rfl ?_); refine box_event ?hg (N := 2) ?hd (cs := #[.int .i64 0, .int .i64 0, .string (⟨#[]⟩ : ByteArray)]) (t := 24) ?hr ?_; (case hd => rfl); (case hg => rfl); (case hr => exact hR); intro gb115 hg w4 hbox hb; have n0_ := aK (IsS75.below (iX HI0.out) hb); have n1_ := aK (KeepBut.trans kX (KeepBut.of_below hb g none) (.inl rfl)); have n2_ := aK (below_step (bS (IsS75.ge HI0.out)) hb); have n3_ := aK (hbox); have n4_ := aK ((by rw [hg]; exact (keep_size (w := w) (g := g) (row := none) kX) : w.heap.size ≤ gb115)); have n5_ := aK ((Nat.le_trans HW0.out (by rw [hg]; exact (keep_size (w := w) (g := g) (row := none) kX) : w.heap.size ≤ gb115) : w0.heap.size ≤ gb115)); have n6_ := aK ((by rw [hg]; exact Nat.ne_of_lt (IsS75.lt (show IsS75 w0 _ g s0_0 s0_1 from iX HI0.out)) : g ≠ gb115)); have n7_ := aK ((by rw [hg]; exact Nat.ne_of_gt (IsS75.lt (show IsS75 w0 _ g s0_0 s0_1 from iX HI0.out)) : gb115 ≠ g)); clear HI0 HK HB; have HI0 := n0_; have HK := n1_; have HB := n2_; have BK115 := n3_; have GW115 := n4_; have GE115 := n5_; have NB0_115 := n6_; have NB115_0 := n7_; clear n0_ n1_ n2_ n3_ n4_ n5_ n6_ n7_ hb hbox hg) | ((with_reducible refine gate_callee (f := 73) rfl ?_); refine gL (some 5) rfl Try.func73 #[.pointer (some ⟨g, 0, none⟩), .int .i64 5] rfl ?_; (with_reducible refine (cc_Int.calls g s0_0 s0_1 5 t116 t117 w0 _ ?side1 ?side2 A2.out).mono ?_); (case side1 => exact iF HI0.out NB0_115.out); (case side2 => exact bT (IsS75.ge HI0.out) GE115.out); rintro e w5 ⟨rfl, hi, hb, hk⟩; refine ⟨_, rfl, ?_⟩; have n0_ := aK (KeepBut.blk hk (g' := gb115) (o := .cells #[.int .i64 0, .int .i64 0, .string (⟨#[]⟩ : ByteArray)] 24 (0, 0)) (bX BK115.out) NB115_0.out (by simp)); have n1_ := aK (KeepBut.trans (by repeat (first | (with_reducible first | exact HK.out | apply KeepBut.set_ | apply keep_drewN | apply keep_drew | apply keep_alloc | refine keep_far ?_ GW115.out _) | exact HK.out)) hk (.inl rfl)); have n2_ := aK (hb); have n3_ := aK (hi); clear BK115 HK HB HI0; have BK115 := n0_; have HK := n1_; have HB := n2_; have HI0 := n3_; clear n0_ n1_ n2_ n3_; (try clear hb hk hi); have hnb6 := NB115_0.out; have hnc6 := NB0_115.out; obtain ⟨hcz7_0, hcz7_1, hcz7_2⟩ := z3 BK115.out (.int .i64 0) (.int .i64 0) (.string (⟨#[]⟩ : ByteArray)); obtain ⟨hfz7_0, hfz7_1, hfz7_2⟩ := f3 BK115.out))
 refine bodyPost_ret (results_cell_row rfl _ _ gb115 24 #[.int .i64 (wrap64 (1 + t116)), .int .i64 0, .string (⟨#[]⟩ : ByteArray)] (0, 0) _ rfl (by (with_reducible repeat (first | refine blk_drewN ?_ _ | refine blk_drew ?_ | refine blk_alloc ?_ _)); refine blk_put (cs := #[.int .i64 (wrap64 (1 + t116)), .int .i64 0, .string (⟨#[]⟩ : ByteArray)]) ?_ 2 _ rfl; (with_reducible repeat (first | refine blk_drewN ?_ _ | refine blk_drew ?_ | refine blk_alloc ?_ _)); refine blk_put (cs := #[.int .i64 (wrap64 (1 + t116)), .int .i64 0, .string (⟨#[]⟩ : ByteArray)]) ?_ 1 _ rfl; (with_reducible repeat (first | refine blk_drewN ?_ _ | refine blk_drew ?_ | refine blk_alloc ?_ _)); refine blk_put (cs := #[.int .i64 0, .int .i64 0, .string (⟨#[]⟩ : ByteArray)]) ?_ 0 _ rfl; (with_reducible repeat (first | refine blk_drewN ?_ _ | refine blk_drew ?_ | refine blk_alloc ?_ _)); exact BK115.out) Try.underlying24 rfl (by kernel_rfl)) rfl ?_
 exact ⟨eW, iF HI0.out NB0_115.out, bT (IsS75.ge HI0.out) GE115.out, by repeat (first | (with_reducible first | exact HK.out | apply KeepBut.set_ | apply keep_drewN | apply keep_drew | apply keep_alloc | refine keep_far ?_ GW115.out _) | exact HK.out)⟩
end Go.Proofs.Ytpjcdacnhalclaa.Q
namespace Go.Proofs.Ytpjcdacnhalclaa.Q
open Go.RowKit Go.Proofs.YtpjcdacnhalclaaW.PrintWords Go.Proofs.YtpjcdacnhalclaaW.PrintLast Go.Proofs.YtpjcdacnhalclaaW.PrintMore
attribute [local go_sem] max2_int min2_int max_two min_two max_three min_three max_four min_four
def cc_Bool.f (s0_0 : List Int) (s0_1 : Int) (a1 : Int) : Option (Bool × Int) := (cc_Int.f s0_0 s0_1 a1).bind fun bt446 => (some ((bt446.1 == (wrap64 (a1 - 1))), bt446.2))
set_option maxHeartbeats 8000000 in
set_option maxRecDepth 100000 in
theorem cc_Bool.calls (g : Nat) (s0_0 : List Int) (s0_1 : Int) (a1 : Int) (r1 : Bool) (r2 : Int) (w0 w : World) (hI : IsS75 w0 w g s0_0 s0_1) (hB : Below w0.heap.size w0 w) (h : cc_Bool.f s0_0 s0_1 a1 = some (r1, r2)) :
  Calls Try.prog 76 #[.pointer (some ⟨g, 0, none⟩), .int .i64 a1] w fun e w' => e = .returned (.bool r1) ∧ IsS75 w0 w' g s0_0 r2 ∧ Below w0.heap.size w0 w' ∧ KeepBut w w' g none := by
 have HI0 := Aside0.mk hI
 have HK := aK (KeepBut.refl w g none)
 have HL := Aside0.mk hB.size
 clear hI
 have HW0 := Aside0.mk hB.size
 have HB := Aside0.mk hB
 clear hB
 have H : ((cc_Int.f s0_0 s0_1 a1).bind fun bt446 => (some ((bt446.1 == (wrap64 (a1 - 1))), bt446.2))) = some (r1, r2) := h
 clear h
 obtain ⟨⟨t446, t447⟩, A3, H⟩ := oB H
 try dsimp only at H
 simp only [Option.some.injEq, Prod.mk.injEq] at H
 obtain ⟨rfl, rfl⟩ := H
 go_enter Try.func76, Try.ntmps76
 go_wp2_with (first | ((with_reducible refine gate_callee (f := 73) rfl ?_); refine gL (some 7) rfl Try.func73 #[.pointer (some ⟨g, 0, none⟩), .int .i64 a1] rfl ?_; (with_reducible refine (cc_Int.calls g s0_0 s0_1 a1 t446 t447 w0 _ ?side1 ?side2 A3.out).mono ?_); (case side1 => exact iX HI0.out); (case side2 => exact bS (IsS75.ge HI0.out)); rintro e w4 ⟨rfl, hi, hb, hk⟩; refine ⟨_, rfl, ?_⟩; have n0_ := aK (KeepBut.trans kX hk (.inl rfl)); have n1_ := aK (hb); have n2_ := aK (hi); clear HK HB HI0; have HK := n0_; have HB := n1_; have HI0 := n2_; clear n0_ n1_ n2_; (try clear hb hk hi)))
 go_ret
 exact ⟨eW, iX HI0.out, bS (IsS75.ge HI0.out), kX⟩
def validV (a b : Int) (c : ByteArray) : Bool := if a = 1 ∨ a = 2 then (b == 0 && (c.toList == ([] : List UInt8))) else if a = 3 then ((b == 0 || b == 1) && (c.toList == ([] : List UInt8))) else if a = 4 then (c.toList == ([] : List UInt8)) else if a = 5 then (b == 0 && decide ((c.size : Int) ≤ 64)) else false
theorem v_Valid.some_ (k : Nat) (a b : Int) (c : ByteArray) : v_Valid.f (k + 1) a b c = some (validV a b c) := by
 unfold v_Valid.f validV
 by_cases h1 : a = 1
 ·subst h1; simp [v_Valid.j0]
 ·rw [if_neg h1]
  by_cases h2 : a = 2
  ·subst h2; simp [v_Valid.j0]
  ·have h2b : (a == 2) = false := beq_eq_false_iff_ne.2 h2
   simp only [v_Valid.j0, h2b, h1, h2, or_self, if_false]
   by_cases h3 : a = 3
   ·subst h3
    by_cases hb : b = 0
    ·simp [hb]
    ·by_cases hb1 : b = 1
     ·simp [hb1]
     ·simp [hb, hb1]
   ·by_cases h4 : a = 4
    ·subst h4; simp
    ·by_cases h5 : a = 5
     ·subst h5
      by_cases hb : b = 0
      ·simp [hb]
      ·simp [hb]
     ·simp [h3, h4, h5]
theorem ev_of_succ {α : Type} {g : Nat → Option α} {r : α} (h : ∀ k, g (k + 1) = some r) : Ev g r := ⟨1, fun k hk => by obtain ⟨j, rfl⟩ : ∃ j, k = j + 1 := ⟨k - 1, by omega⟩; exact h j⟩
theorem v_Valid.ev (a b : Int) (c : ByteArray) : Ev (fun k => v_Valid.f k a b c) (validV a b c) := ev_of_succ fun k => v_Valid.some_ k a b c
def realV (a b : Int) (c : ByteArray) : Bool := validV a b c && decide (a ≥ 3)
theorem v_Real.ev (a b : Int) (c : ByteArray) : Ev (fun k => v_Real.f k a b c) (realV a b c) := by
 refine ev_of_succ fun k => ?_
 unfold v_Real.f realV
 rw [v_Valid.some_, Option.bind_some]
 cases validV a b c <;> simp
structure StOk (l : List Int) (i : Int) : Prop where
 byte : ∀ x ∈ l, 0 ≤ x ∧ x ≤ 255
 len : l.length ≤ 4096
 lo : 0 ≤ i
 hi : i ≤ l.length
theorem rd_byte {l : List Int} (h : ∀ x ∈ l, 0 ≤ x ∧ x ≤ 255) (i : Int) : 0 ≤ rd l i ∧ rd l i ≤ 255 := by
 unfold rd
 rw [List.getD_eq_getElem?_getD]
 cases he : l[i.toNat]? with
 | none => simp
 | some x => exact h x (List.mem_of_getElem? he)
theorem cc_Int.ok {l : List Int} {i : Int} (h : StOk l i) (n : Int) (hn : n ≤ 4096) : ∃ r j, cc_Int.f l i n = some (r, j) ∧ StOk l j ∧ 0 ≤ r ∧ r ≤ 4096 ∧ (1 ≤ n → r < n) := by
 obtain ⟨hb, hl, h0, h1⟩ := h
 unfold cc_Int.f
 by_cases c1 : i ≥ (l.length : Int)
 ·rw [if_pos c1]; exact ⟨0, i, rfl, ⟨hb, hl, h0, h1⟩, by omega, by omega, by omega⟩
 ·rw [if_neg c1]
  by_cases c2 : n < 1
  ·rw [if_pos c2]; exact ⟨0, i, rfl, ⟨hb, hl, h0, h1⟩, by omega, by omega, by omega⟩
  ·rw [if_neg c2]
   have e1 : wrap64 (i + 1) = i + 1 := by unfold wrap64; omega
   have e2 : wrap64 (i + 1 - 1) = i := by unfold wrap64; omega
   obtain ⟨b0, b1⟩ := rd_byte hb i
   have e3 : wrap64 (rd l i) = rd l i := by unfold wrap64; omega
   rw [e1, e2, if_pos h0, if_pos (by omega), if_neg (by omega), e3]
   have e4 : Int.tmod (rd l i) n = rd l i % n := Int.tmod_eq_emod_of_nonneg b0
   have m0 := Int.emod_nonneg (rd l i) (show n ≠ 0 by omega)
   have m1 := Int.emod_lt_of_pos (rd l i) (show 0 < n by omega)
   exact ⟨_, _, rfl, ⟨hb, hl, by omega, by omega⟩, by rw [e4]; exact m0, by rw [e4]; omega, fun _ => by rw [e4]; exact m1⟩
theorem cc_Bool.ok {l : List Int} {i : Int} (h : StOk l i) (n : Int) (h1 : 1 ≤ n) (hn : n ≤ 4096) : ∃ r j, cc_Bool.f l i n = some (r, j) ∧ StOk l j := by
 obtain ⟨r, j, hf, hj, _⟩ := cc_Int.ok h n hn
 unfold cc_Bool.f
 rw [hf]
 exact ⟨_, _, rfl, hj⟩
theorem cc_Number.ok {l : List Int} {i : Int} (h : StOk l i) : ∃ r j, cc_Number.f l i = some (r, j) ∧ StOk l j ∧ -9223372036854775808 ≤ r ∧ r ≤ 9223372036854775807 := by
 obtain ⟨r, j, hf, hj, h0, h1, h2⟩ := cc_Int.ok h 12 (by omega)
 unfold cc_Number.f
 rw [hf, Option.bind_some]
 have e4 : Int.tmod r 4 = r % 4 := Int.tmod_eq_emod_of_nonneg h0
 dsimp only
 split
 ·exact ⟨_, _, rfl, hj, by omega, by omega⟩
 ·split
  ·exact ⟨_, _, rfl, hj, by omega, by omega⟩
  ·split
   ·exact ⟨_, _, rfl, hj, by omega, by omega⟩
   ·exact ⟨_, _, rfl, hj, by omega, by omega⟩
theorem size_push_ (x : ByteArray) (b : UInt8) : (x ++ (⟨#[b]⟩ : ByteArray)).size = x.size + 1 := by rw [ByteArray.size_append]; rfl
theorem cc_Text.l0_ok (l : List Int) (j : Int) : ∀ (m : Nat) (i : Int) (x : ByteArray) (k : Nat), 0 ≤ i → 64 - i = m → x.size = i → m < k → ∃ t, cc_Text.l0 k x i l j = some (t, j) ∧ t.size = 64 := by
 intro m
 induction m with
 | zero =>
  intro i x k h0 h1 h2 hk
  obtain ⟨k, rfl⟩ : ∃ q, k = q + 1 := ⟨k - 1, by omega⟩
  simp only [cc_Text.l0]
  rw [if_neg (by omega)]
  exact ⟨_, rfl, by omega⟩
 | succ m ih =>
  intro i x k h0 h1 h2 hk
  obtain ⟨k, rfl⟩ : ∃ q, k = q + 1 := ⟨k - 1, by omega⟩
  simp only [cc_Text.l0]
  have e : wrap64 (i + 1) = i + 1 := by unfold wrap64; omega
  rw [if_pos (by omega), if_pos (by omega), e]
  exact ih (i + 1) _ k (by omega) (by omega) (by rw [size_push_]; omega) (by omega)
theorem cc_Text.l1_ok (l : List Int) (j : Int) : ∀ (m : Nat) (i : Int) (x : ByteArray) (k : Nat), 0 ≤ i → 64 - i = m → x.size = i → m < k → ∃ t, cc_Text.l1 k x i l j = some (t, j) ∧ t.size = 64 := by
 intro m
 induction m with
 | zero =>
  intro i x k h0 h1 h2 hk
  obtain ⟨k, rfl⟩ : ∃ q, k = q + 1 := ⟨k - 1, by omega⟩
  simp only [cc_Text.l1]
  rw [if_neg (by omega)]
  exact ⟨_, rfl, by omega⟩
 | succ m ih =>
  intro i x k h0 h1 h2 hk
  obtain ⟨k, rfl⟩ : ∃ q, k = q + 1 := ⟨k - 1, by omega⟩
  simp only [cc_Text.l1]
  have e : wrap64 (i + 1) = i + 1 := by unfold wrap64; omega
  rw [if_pos (by omega), if_pos (by omega), e]
  exact ih (i + 1) _ k (by omega) (by omega) (by rw [size_push_]; omega) (by omega)
theorem cc_Text.j1_ok (l : List Int) (j : Int) (q : Int) (b : Bool) : ∃ t, cc_Text.j1 70 ⟨#[]⟩ q b l j = some (t, j) ∧ t.size ≤ 64 := by
 simp only [cc_Text.j1]
 split
 ·exact ⟨_, rfl, by decide⟩
 ·split
  ·exact ⟨_, rfl, by decide⟩
  ·split
   ·exact ⟨_, rfl, by decide⟩
   ·split
    ·exact ⟨_, rfl, by decide⟩
    ·split
     ·obtain ⟨t, h1, h2⟩ := cc_Text.l0_ok l j 64 0 ⟨#[]⟩ 69 (by omega) (by omega) rfl (by omega)
      exact ⟨t, h1, by omega⟩
     ·obtain ⟨t, h1, h2⟩ := cc_Text.l1_ok l j 64 0 ⟨#[]⟩ 69 (by omega) (by omega) rfl (by omega)
      exact ⟨t, h1, by omega⟩
theorem cc_Text.j0_ok (l : List Int) (j : Int) (q : Int) (b : Bool) : ∃ t, cc_Text.j0 71 ⟨#[]⟩ q b l j = some (t, j) ∧ t.size ≤ 64 := by
 simp only [cc_Text.j0]
 split
 ·exact ⟨_, rfl, by decide⟩
 ·split
  ·exact cc_Text.j1_ok _ _ _ _
  ·exact cc_Text.j1_ok _ _ _ _
theorem cc_Text.ok {l : List Int} {i : Int} (h : StOk l i) : ∃ t j, Ev (fun k => cc_Text.f k l i) (t, j) ∧ StOk l j ∧ t.size ≤ 64 := by
 obtain ⟨r, j, hf, hj, _⟩ := cc_Int.ok h 10 (by omega)
 have hm : ∀ k, LeO (cc_Text.f k l i) (cc_Text.f (k + 1) l i) := fun k => cc_Text.mono _ _ _
 have hx : ∃ t, cc_Text.f 71 l i = some (t, j) ∧ t.size ≤ 64 := by
  unfold cc_Text.f
  rw [hf, Option.bind_some]
  dsimp only
  split
  ·exact cc_Text.j0_ok _ _ _ _
  ·split
   ·exact cc_Text.j0_ok _ _ _ _
   ·exact cc_Text.j0_ok _ _ _ _
 obtain ⟨t, h1, h2⟩ := hx
 exact ⟨t, j, Ev.of hm h1, hj, h2⟩
theorem toListE : (⟨#[]⟩ : ByteArray).toList = [] := by rw [Go.Lib.toList_data]
theorem cc_Any.ok {l : List Int} {i : Int} (h : StOk l i) : ∃ a b c j, Ev (fun k => cc_Any.f k l i) (a, b, c, j) ∧ StOk l j ∧ validV a b c = true ∧ -9223372036854775808 ≤ b ∧ b ≤ 9223372036854775807 := by
 obtain ⟨r, j, hf, hj, h0, _, h2⟩ := cc_Int.ok h 5 (by omega)
 have h2 := h2 (by omega)
 have e : wrap64 (1 + r) = 1 + r := by unfold wrap64; omega
 unfold cc_Any.f
 rw [hf]
 simp only [Option.bind_some, e]
 by_cases c1 : 1 + r < 3
 ·simp only [if_pos c1]
  refine ⟨_, _, _, _, Ev.now _, hj, ?_, by omega, by omega⟩
  have : 1 + r = 1 ∨ 1 + r = 2 := by omega
  unfold validV
  rw [if_pos this, toListE]
  decide
 ·simp only [if_neg c1]
  unfold cc_Value.f
  by_cases c3 : 1 + r = 3
  ·simp only [if_pos c3]
   obtain ⟨r2, j2, hf2, hj2, h20, _, h22⟩ := cc_Int.ok hj 2 (by omega)
   have h22 := h22 (by omega)
   rw [hf2]
   simp only [Option.bind_some]
   refine ⟨_, _, _, _, Ev.now _, hj2, ?_, by omega, by omega⟩
   rw [c3]
   have : r2 = 0 ∨ r2 = 1 := by omega
   rcases this with rfl | rfl <;> simp [validV, toListE]
  ·simp only [if_neg c3]
   by_cases c4 : 1 + r = 4
   ·simp only [if_pos c4]
    obtain ⟨r2, j2, hf2, hj2, h20, h21⟩ := cc_Number.ok hj
    rw [hf2]
    simp only [Option.bind_some]
    refine ⟨_, _, _, _, Ev.now _, hj2, ?_, h20, h21⟩
    rw [c4]
    simp [validV, toListE]
   ·simp only [if_neg c4]
    obtain ⟨t, j2, hev, hj2, ht⟩ := cc_Text.ok hj
    refine ⟨5, 0, t, j2, ?_, hj2, ?_, by omega, by omega⟩
    ·refine Ev.bind (f := fun _ (bt118 : Int × Int × ByteArray × Int) => some (bt118.1, bt118.2.1, bt118.2.2.1, bt118.2.2.2)) (a := ((5 : Int), (0 : Int), t, j2)) (r := (5, 0, t, j2)) ?_ ⟨0, fun _ _ => rfl⟩
     exact Ev.bind (f := fun _ (bt113 : ByteArray × Int) => some ((5 : Int), (0 : Int), bt113.1, bt113.2)) (r := (5, 0, t, j2)) hev ⟨0, fun _ _ => rfl⟩
    ·unfold validV
     simp
     omega
theorem cs_New.ok {l : List Int} (h : ∀ x ∈ l, 0 ≤ x ∧ x ≤ 255) (n : Int) (h0 : 0 ≤ n) (h1 : n ≤ 4096) : cs_New.f l n = some (l.take n.toNat, 0) ∧ StOk (l.take n.toNat) 0 := by
 unfold cs_New.f
 rw [if_pos h0, if_pos h1]
 exact ⟨rfl, fun x hx => h x (List.mem_of_mem_take hx), by rw [List.length_take]; omega, by omega, by omega⟩
structure NextOk (x y : S24) : Prop where
 valid : validV y.f0 y.f1 y.f2 = true
 lo : -9223372036854775808 ≤ y.f1
 hi : y.f1 ≤ 9223372036854775807
 up : ltV x y
 none : ∀ q : S24, validV q.f0 q.f1 q.f2 = true → -9223372036854775808 ≤ q.f1 → q.f1 ≤ 9223372036854775807 → ltV x q → ltV q y → False
theorem validV_text {c : ByteArray} (h : c.size ≤ 64) : validV 5 0 c = true := by
 unfold validV
 simp; omega
theorem ev_unique {α : Type} {g : Nat → Option α} {r q : α} (hm : ∀ k, LeO (g k) (g (k + 1))) (h : Ev g r) {k : Nat} (hk : g k = some q) : q = r := by
 obtain ⟨K, hK⟩ := h
 have h1 := at_rounds hm (Nat.le_max_left k K) hk
 rw [hK _ (Nat.le_max_right k K)] at h1
 exact (Option.some.inj h1).symm
def iN (n : Int) : List S24 := [⟨4, n, ⟨#[]⟩⟩]
theorem cmpL_iN {a b : Int} (h : a < b) : cmpL (iN a) (iN b) = -1 := by
 have : cmpV ⟨4, a, ⟨#[]⟩⟩ ⟨4, b, ⟨#[]⟩⟩ = -1 := v_Compare.lt_ (.inr ⟨rfl, .inl h⟩)
 unfold iN
 simp only [cmpL, this]
 decide
theorem setOf_iN : setOf [iN 2, iN 1, iN 2] = [iN 1, iN 2] := by
 have hs : [iN 1, iN 2, iN 2] = [iN 2, iN 1, iN 2].mergeSort leL := by
  refine sorted_is (List.Perm.swap _ _ _) ?_
  have h12 : leL (iN 1) (iN 2) = true := by unfold leL; rw [cmpL_iN (by omega)]; decide
  have h22 : leL (iN 2) (iN 2) = true := by unfold leL; rw [cmpL_self]; decide
  simp [h12, h22]
 unfold setOf
 rw [← hs]
 have c12 : cmpL (iN 1) (iN 2) = -1 := cmpL_iN (by omega)
 have c22 : cmpL (iN 2) (iN 2) = 0 := cmpL_self _
 simp [ded, c12, c22]
theorem l1_begun.ev : Ev (fun k => l1_begun.f k) true := by
 unfold l1_begun.f
 have hN : Ev (fun k => v_Next.f k 5 0 ⟨#[97]⟩) (5, 0, (⟨#[97]⟩ : ByteArray) ++ ⟨#[0]⟩, true) := by
  refine Ev.bind (v_Valid.ev _ _ _) ?_
  have : validV 5 0 ⟨#[97]⟩ = true := validV_text (by decide)
  simp only [this]
  exact Ev.now _
 refine Ev.bind hN ?_
 have hS : Ev (fun k => v_Set.f k ([[(⟨4, 2, ⟨#[]⟩⟩ : S24)], [⟨4, 1, ⟨#[]⟩⟩], [⟨4, 2, ⟨#[]⟩⟩]])) [iN 1, iN 2] := by
  refine ⟨0, fun k _ => ?_⟩
  unfold v_Set.f
  rw [if_pos (by decide)]
  exact congrArg some setOf_iN
 refine Ev.bind hS ?_
 have e97 : ((⟨#[97]⟩ : ByteArray) ++ ⟨#[0]⟩).toList = [97, 0] := by rw [Go.Lib.toList_data]; rfl
 have hv : validV 5 0 ((⟨#[97]⟩ : ByteArray) ++ ⟨#[0]⟩) = true := validV_text (by decide)
 simp only [e97, if_true]
 refine Ev.bind (v_Valid.ev _ _ _) ?_
 simp only [hv, if_true]
 refine Ev.bind (v_Real.ev _ _ _) ?_
 have hr : realV 5 0 ((⟨#[97]⟩ : ByteArray) ++ ⟨#[0]⟩) = true := by unfold realV; rw [hv]; decide
 simp only [hr, if_true]
 have hc : Ev (fun k => v_CompareRows.f k (rd_L4 [iN 1, iN 2] 0) (rd_L4 [iN 1, iN 2] 1)) (-1) := ⟨4, fun k hk => by
  have := v_CompareRows.some_ (iN 1) (iN 2) (by decide) k (by simpa [iN] using hk)
  rw [cmpL_iN (by omega)] at this
  exact this⟩
 refine Ev.congr (f := fun k => (v_CompareRows.f k (rd_L4 [iN 1, iN 2] 0) (rd_L4 [iN 1, iN 2] 1)).bind fun t218 => some (t218 == (-1))) (fun k => by simp) ?_
 exact Ev.bind hc (Ev.now _)
theorem l1_begun.calls (k : Nat) (r : Bool) (w : World) (h : l1_begun.f k = some r) :
  Calls Try.prog 20 #[] w fun e w' => e = .returned (.bool r) ∧ Below w.heap.size w w' :=
 l1_begun.callsT k r w h ⟨ev_unique l1_begun.mono l1_begun.ev h⟩
def cc_Cells.l0 : Nat → Int → List (S24) → List Int → Int → Option ((List (S24)) × Int)
 | 0, _, _, _, _ => none
 | k + 1, x1, x5, x1000, x1001 => if x1 > 0 then ((cc_Any.f k x1000 x1001).bind fun bt824 => (if x5.length < 4398046511104 then (cc_Cells.l0 k (wrap64 (x1 - 1)) (x5 ++ [(⟨bt824.1, bt824.2.1, bt824.2.2.1⟩ : S24)]) x1000 bt824.2.2.2) else (none))) else (some (x5, x1001))
def cc_Cells.f (k : Nat) (s0_0 : List Int) (s0_1 : Int) (a1 : Int) : Option ((List (S24)) × Int) := cc_Cells.l0 k a1 ([] : List (S24)) s0_0 s0_1
set_option maxHeartbeats 8000000 in
set_option maxRecDepth 100000 in
theorem cc_Cells.calls (k : Nat) (g : Nat) (s0_0 : List Int) (s0_1 : Int) (a1 : Int) (r1 : List (S24)) (r2 : Int) (w0 w : World) (hI : IsS75 w0 w g s0_0 s0_1) (hB : Below w0.heap.size w0 w) (h : cc_Cells.f k s0_0 s0_1 a1 = some (r1, r2)) :
  Calls Try.prog 87 #[.pointer (some ⟨g, 0, none⟩), .int .i64 a1] w fun e w' => ∃ v0_ : Value, e = .returned (v0_) ∧ Kd.R k24 24 w' w.heap.size (fun _ => True) v0_ r1 ∧ IsS75 w0 w' g s0_0 r2 ∧ Below w0.heap.size w0 w' ∧ KeepBut w w' g none := by
 have HI0 := Aside0.mk hI
 have HK := aK (KeepBut.refl w g none)
 have HL := Aside0.mk hB.size
 clear hI
 have HW0 := Aside0.mk hB.size
 have HB := Aside0.mk hB
 clear hB
 have H : (cc_Cells.l0 k a1 ([] : List (S24)) s0_0 s0_1) = some (r1, r2) := h
 clear h
 have H' := Aside0.mk H
 clear H
 go_enter Try.func87, Try.ntmps87
 go_wp2
 go_loopg [1, 5] k (fun kq v1 v5 w' => ∃ (x1_1 : Int) (x5_1 : List (S24)) (x1001_1 : Int), v1 = .int .i64 x1_1 ∧ Aside0 (cc_Cells.l0 kq x1_1 x5_1 s0_0 x1001_1 = some (r1, r2)) ∧ Aside0 (kq ≤ k) ∧ Aside0 (Kd.R k24 24 w' w.heap.size (fun _ => True) v5 x5_1) ∧ Aside0 (IsS75 w0 w' g s0_0 x1001_1) ∧ Aside0 (KeepBut w w' g none) ∧ Aside0 (Below w0.heap.size w0 w'))
 case atStart => exact ⟨(a1), (([] : List (S24))), (s0_1), (by first | rfl | (simp; done) | (simp [*]; done)), H', ⟨Nat.le_refl _⟩, ⟨by first | exact Kd.R_nil _ _ _ _ _ | exact Kd.N_nil _ _ _ _ _ | exact Kd.V_nil _ _ _ _ _ | exact Kd.Q_nil _ _ _ _ _ | exact Kd.S_nil _ _ _ _ _⟩, ⟨iX HI0.out⟩, ⟨kX⟩, ⟨bS (IsS75.ge HI0.out)⟩⟩
 case round =>
  clear H'
  try clear p2
  obtain ⟨x1_1, x5_1, x1001_1, rfl, HA, HK1, HO_5, HI0, HK, HB⟩ := hrel
  cases gk with
  | zero => exact absurd HA.out (by simp [cc_Cells.l0])
  | succ k1 =>
   have H := HA.out
   clear HA
   simp only [cc_Cells.l0] at H
   by_cases c3 : x1_1 > 0
   rotate_left
   ·rw [if_neg c3] at H
    have c3b0 : decide (0 < x1_1) = false := decide_eq_false c3
    clear c3
    simp only [Option.some.injEq, Prod.mk.injEq] at H
    obtain ⟨rfl, rfl⟩ := H
    go_wp2
    go_ret
    exact ⟨_, eW, by (with_reducible repeat (first | apply Kd.R_alloc | apply Kd.R_drewN | apply Kd.R_drew)); exact HO_5.out, iX HI0.out, bS (IsS75.ge HI0.out), kX⟩
   rw [if_pos c3] at H
   have c3b0 : decide (0 < x1_1) = true := decide_eq_true c3
   clear c3
   obtain ⟨⟨t824, t825, t826, t827⟩, A4, H⟩ := oB H
   try dsimp only at H
   by_cases c5 : x5_1.length < 4398046511104
   rotate_left
   ·rw [if_neg c5] at H
    exact absurd H (by simp)
   rw [if_pos c5] at H
   have LMc5 := Aside0.mk c5
   clear c5
   obtain ⟨y828, hy828⟩ : ∃ y_ : List (S24), y_ = (x5_1 ++ [(⟨t824, t825, t826⟩ : S24)]) := ⟨_, rfl⟩
   replace H : (cc_Cells.l0 k1 (wrap64 (x1_1 - 1)) y828 s0_0 t827) = some (r1, r2) := by first | (rw [hy828]; with_reducible exact H) | (have H2_ := (Option.bind_some _ _).symm.trans H; rw [hy828]; with_reducible exact H2_) | (have H2_ := (Option.bind_some _ _).symm.trans H; with_reducible exact H2_) | with_reducible exact H | (rw [hy828]; exact H) | exact H
   have Ny828 := Aside0.mk hy828
   clear hy828
   have H' := Aside0.mk H
   clear H
   go_wp2_with (first | ((with_reducible refine gate_callee (f := 19) rfl ?_); refine gL (some 12) rfl Try.func19 #[.pointer (some ⟨g, 0, none⟩)] rfl ?_; (with_reducible refine (cc_Any.calls k1 g s0_0 x1001_1 t824 t825 t826 t827 w0 _ ?side1 ?side2 A4.out).mono ?_); (case side1 => exact iX HI0.out); (case side2 => exact bS (IsS75.ge HI0.out)); rintro e w6 ⟨rfl, hi, hb, hk⟩; refine ⟨_, rfl, ?_⟩; have n0_ := aK (Kd.R_mono (Kd.R_keep (IsS75.apart (show IsS75 w0 _ g s0_0 x1001_1 from iX HI0.out) (rX HO_5.out) (by decide)) hk (fun _ h => h.2)) (fun _ h => h.1)); have n1_ := aK (KeepBut.trans kX hk (.inl rfl)); have n2_ := aK (hb); have n3_ := aK (hi); clear HO_5 HK HB HI0; have HO_5 := n0_; have HK := n1_; have HB := n2_; have HI0 := n3_; clear n0_ n1_ n2_ n3_; (try clear hb hk hi)) | ((with_reducible refine gate_builtin (b := .append) (xs := #[.tmp 10, .tmp 13]) rfl ?_); at_builtin; refine Kd.R_append k24 w.heap.size rfl (.tmp 10) (.tmp 13) 54 24 (.agg #[(.int .i64 0), (.int .i64 0), (.string ⟨#[]⟩)]) 32 rfl Try.underlying54 info24 rfl (by decide) (by omega) u5 x5_1 (⟨t824, t825, t826⟩ : S24) [.int .i64 t824, .int .i64 t825, .string t826] (fun _ => True) (fun _ => False) rfl rfl ?aP (fun _ hk => hk.elim) ?aF ?aO (Below.refl _ _) ?aS ?aL ?_; (case aP => exact k24_mkM _ _ _ (⟨t824, t825, t826⟩ : S24)); (case aF => exact (fun _ _ => trivial)); (case aO => exact (rX HO_5.out)); (case aS => exact (keep_size (w := w) (g := g) (row := none) kX)); (case aL => have := LMc5.out; omega); intro v829 w7 ho hb hg hat; rw [← Ny828.out] at ho; have n0_ := aK (IsS75.grown (iX HI0.out) hg (IsS75.own_ne HI0.out HO_5.out (by decide))); have n1_ := aK (below_weaken (bS (IsS75.ge HI0.out)) HL.out hb); have n2_ := aK (KeepBut.trans kX (KeepBut.of_grown hg g) (Kd.R_base2 HO_5.out)); have n3_ := aK (ho); clear HI0 HB HK HO_5; have HI0 := n0_; have HB := n1_; have HK := n2_; have HO830 := n3_; clear n0_ n1_ n2_ n3_ ho hb hg hat))
   go_roundg k1
   case measure => have := HK1.out; omega
   case rel => exact ⟨(wrap64 (x1_1 - 1)), (y828), (t827), (by first | rfl | (simp; done) | (simp [*]; done)), H', ⟨by have := HK1.out; omega⟩, ⟨rX HO830.out⟩, ⟨iX HI0.out⟩, ⟨kX⟩, ⟨bS (IsS75.ge HI0.out)⟩⟩
def l1_rows.l0 : Nat → List (List (S24)) → Int → List Int → Int → Option ((List (List (S24))) × Int)
 | 0, _, _, _, _ => none
 | k + 1, x3, x4, x1000, x1001 => if x4 > 0 then ((cc_Int.f x1000 x1001 3).bind fun bt833 => ((cc_Cells.f k x1000 bt833.2 bt833.1).bind fun bt835 => (if (x3.length : Int) > 0 then ((cc_Bool.f x1000 bt835.2 3).bind fun bt839 => (if bt839.1 = true then ((cc_Int.f x1000 bt839.2 (x3.length : Int)).bind fun bt841 => (if 0 ≤ bt841.1 then (if bt841.1 < (x3.length : Int) then (if x3.length < 5864062014805 then (l1_rows.l0 k (x3 ++ [rd_L4 x3 bt841.1]) (wrap64 (x4 - 1)) x1000 bt841.2) else (none)) else (none)) else (none))) else (if x3.length < 5864062014805 then (l1_rows.l0 k (x3 ++ [bt835.1]) (wrap64 (x4 - 1)) x1000 bt839.2) else (none)))) else (if x3.length < 5864062014805 then (l1_rows.l0 k (x3 ++ [bt835.1]) (wrap64 (x4 - 1)) x1000 bt835.2) else (none))))) else (some (x3, x1001))
def l1_rows.f (k : Nat) (s0_0 : List Int) (s0_1 : Int) : Option ((List (List (S24))) × Int) := (cc_Int.f s0_0 s0_1 7).bind fun bt831 => (l1_rows.l0 k ([] : List (List (S24))) bt831.1 s0_0 bt831.2)
set_option maxHeartbeats 8000000 in
set_option maxRecDepth 100000 in
theorem l1_rows.calls (k : Nat) (g : Nat) (s0_0 : List Int) (s0_1 : Int) (r1 : List (List (S24))) (r2 : Int) (w0 w : World) (hI : IsS75 w0 w g s0_0 s0_1) (hB : Below w0.heap.size w0 w) (h : l1_rows.f k s0_0 s0_1 = some (r1, r2)) :
  Calls Try.prog 51 #[.pointer (some ⟨g, 0, none⟩)] w fun e w' => ∃ v0_ : Value, e = .returned (v0_) ∧ Kd.N (Kd.slice 24 k24) 54 w' w.heap.size (fun k_ => (w.heap.size ≤ k_)) v0_ r1 ∧ IsS75 w0 w' g s0_0 r2 ∧ Below w0.heap.size w0 w' ∧ KeepBut w w' g none := by
 have HI0 := Aside0.mk hI
 have HK := aK (KeepBut.refl w g none)
 have HL := Aside0.mk hB.size
 clear hI
 have HW0 := Aside0.mk hB.size
 have HB := Aside0.mk hB
 clear hB
 have H : ((cc_Int.f s0_0 s0_1 7).bind fun bt831 => (l1_rows.l0 k ([] : List (List (S24))) bt831.1 s0_0 bt831.2)) = some (r1, r2) := h
 clear h
 obtain ⟨⟨t831, t832⟩, A2, H⟩ := oB H
 try dsimp only at H
 have H' := Aside0.mk H
 clear H
 go_enter Try.func51, Try.ntmps51
 go_wp2_with (first | ((with_reducible refine gate_callee (f := 73) rfl ?_); refine gL (some 7) rfl Try.func73 #[.pointer (some ⟨g, 0, none⟩), .int .i64 7] rfl ?_; (with_reducible refine (cc_Int.calls g s0_0 s0_1 7 t831 t832 w0 _ ?side1 ?side2 A2.out).mono ?_); (case side1 => exact iX HI0.out); (case side2 => exact bS (IsS75.ge HI0.out)); rintro e w3 ⟨rfl, hi, hb, hk⟩; refine ⟨_, rfl, ?_⟩; have n0_ := aK (KeepBut.trans kX hk (.inl rfl)); have n1_ := aK (hb); have n2_ := aK (hi); clear HK HB HI0; have HK := n0_; have HB := n1_; have HI0 := n2_; clear n0_ n1_ n2_; (try clear hb hk hi)))
 go_loopg [3, 4] k (fun kq v3 v4 w' => ∃ (x3_1 : List (List (S24))) (x4_1 : Int) (x1001_1 : Int), v4 = .int .i64 x4_1 ∧ Aside0 (l1_rows.l0 kq x3_1 x4_1 s0_0 x1001_1 = some (r1, r2)) ∧ Aside0 (kq ≤ k) ∧ Aside0 (Kd.N (Kd.slice 24 k24) 54 w' w.heap.size (fun k_ => (w.heap.size ≤ k_) ∧ k_ ≠ g) v3 x3_1) ∧ Aside0 (IsS75 w0 w' g s0_0 x1001_1) ∧ Aside0 (KeepBut w w' g none) ∧ Aside0 (Below w0.heap.size w0 w'))
 case atStart => exact ⟨(([] : List (List (S24)))), (t831), (t832), (by first | rfl | (simp; done) | (simp [*]; done)), H', ⟨Nat.le_refl _⟩, ⟨by first | exact Kd.S_nil _ _ _ _ _ | exact Kd.N_nil _ _ _ _ _ | exact Kd.V_nil _ _ _ _ _ | exact Kd.Q_nil _ _ _ _ _ | exact Kd.R_nil _ _ _ _ _⟩, ⟨iX HI0.out⟩, ⟨kX⟩, ⟨bS (IsS75.ge HI0.out)⟩⟩
 case round =>
  clear H'
  try clear p2
  obtain ⟨x3_1, x4_1, x1001_1, rfl, HA, HK1, HO_3, HI0, HK, HB⟩ := hrel
  cases gk with
  | zero => exact absurd HA.out (by simp [l1_rows.l0])
  | succ k1 =>
   have H := HA.out
   clear HA
   simp only [l1_rows.l0] at H
   by_cases c4 : x4_1 > 0
   rotate_left
   ·rw [if_neg c4] at H
    have c4b0 : decide (0 < x4_1) = false := decide_eq_false c4
    clear c4
    simp only [Option.some.injEq, Prod.mk.injEq] at H
    obtain ⟨rfl, rfl⟩ := H
    go_wp2
    go_ret
    exact ⟨_, eW, by (with_reducible repeat (first | apply Kd.N_alloc | apply Kd.N_drewN | apply Kd.N_drew)); exact Kd.N_mono HO_3.out (fun _ hk => hk.1), iX HI0.out, bS (IsS75.ge HI0.out), kX⟩
   rw [if_pos c4] at H
   have c4b0 : decide (0 < x4_1) = true := decide_eq_true c4
   clear c4
   obtain ⟨⟨t833, t834⟩, A5, H⟩ := oB H
   try dsimp only at H
   obtain ⟨⟨t835, t838⟩, A6, H⟩ := oB H
   try dsimp only at H
   by_cases c7 : (x3_1.length : Int) > 0
   rotate_left
   ·rw [if_neg c7] at H
    have c7b0 : decide (0 < (x3_1.length : Int)) = false := decide_eq_false c7
    have c7b1 : decide (0 < x3_1.length) = false := decide_eq_false (by omega)
    clear c7
    by_cases c27 : x3_1.length < 5864062014805
    rotate_left
    ·rw [if_neg c27] at H
     exact absurd H (by simp)
    rw [if_pos c27] at H
    have LMc27 := Aside0.mk c27
    clear c27
    obtain ⟨y850, hy850⟩ : ∃ y_ : List (List (S24)), y_ = (x3_1 ++ [t835]) := ⟨_, rfl⟩
    replace H : (l1_rows.l0 k1 y850 (wrap64 (x4_1 - 1)) s0_0 t838) = some (r1, r2) := by first | (rw [hy850]; with_reducible exact H) | (have H2_ := (Option.bind_some _ _).symm.trans H; rw [hy850]; with_reducible exact H2_) | (have H2_ := (Option.bind_some _ _).symm.trans H; with_reducible exact H2_) | with_reducible exact H | (rw [hy850]; exact H) | exact H
    have Ny850 := Aside0.mk hy850
    clear hy850
    have H' := Aside0.mk H
    clear H
    go_wp2_with (first | ((with_reducible refine gate_callee (f := 73) rfl ?_); refine gL (some 14) rfl Try.func73 #[.pointer (some ⟨g, 0, none⟩), .int .i64 3] rfl ?_; (with_reducible refine (cc_Int.calls g s0_0 x1001_1 3 t833 t834 w0 _ ?side1 ?side2 A5.out).mono ?_); (case side1 => exact iX HI0.out); (case side2 => exact bS (IsS75.ge HI0.out)); rintro e w28 ⟨rfl, hi, hb, hk⟩; refine ⟨_, rfl, ?_⟩; have n0_ := aK (Kd.N_mono (Kd.N_keep (Kd.N_mono (ok := fun k_ => (((w.heap.size ≤ k_)) ∧ k_ ≠ g)) (by (with_reducible repeat (first | apply Kd.N_alloc | apply Kd.N_drewN | apply Kd.N_drew)); exact HO_3.out) (fun k_ hk_ => (⟨hk_, hk_.2⟩ : _ ∧ k_ ≠ g))) hk (fun _ h => h.2)) (fun _ h => h.1)); have n1_ := aK (KeepBut.trans kX hk (.inl rfl)); have n2_ := aK (hb); have n3_ := aK (hi); clear HO_3 HK HB HI0; have HO_3 := n0_; have HK := n1_; have HB := n2_; have HI0 := n3_; clear n0_ n1_ n2_ n3_; (try clear hb hk hi)) | ((with_reducible refine gate_callee (f := 87) rfl ?_); refine gL (some 15) rfl Try.func87 #[.pointer (some ⟨g, 0, none⟩), .int .i64 t833] rfl ?_; (with_reducible refine (cc_Cells.calls k1 g s0_0 t834 t833 t835 t838 w0 _ ?side1 ?side2 A6.out).mono ?_); (case side1 => exact iX HI0.out); (case side2 => exact bS (IsS75.ge HI0.out)); rintro e w29 ⟨v836, rfl, ho0, hi, hb, hk⟩; refine ⟨_, rfl, ?_⟩; have n0_ := aK (Kd.N_mono (Kd.N_told (Kd.N_oldK (Kd.N_mono (ok := fun k_ => (((w.heap.size ≤ k_)) ∧ k_ ≠ g)) (by (with_reducible repeat (first | apply Kd.N_alloc | apply Kd.N_drewN | apply Kd.N_drew)); exact HO_3.out) (fun k_ hk_ => (⟨hk_, hk_.2⟩ : _ ∧ k_ ≠ g))) hk) (Kd.R_base ho0)) (fun _ h_ => h_.1)); have n1_ := aK (Kd.R_lower (Kd.R_newM (M := fun k_ => (w.heap.size ≤ k_)) ho0 (keep_size (w := w) (g := g) (row := none) kX) (fun k_ h_ => h_)) (keep_size (w := w) (g := g) (row := none) kX)); have n2_ := aK (KeepBut.trans kX hk (.inl rfl)); have n3_ := aK (hb); have n4_ := aK (hi); clear HO_3 HK HB HI0; have HO_3 := n0_; have HO837 := n1_; have HK := n2_; have HB := n3_; have HI0 := n4_; clear n0_ n1_ n2_ n3_ n4_; (try clear hb hk hi ho0); obtain ⟨Ao30, co30, eo30⟩ := Kd.N_slice HO_3.out; subst eo30; obtain ⟨Ao32, co32, eo32⟩ := Kd.R_slice HO837.out; subst eo32) | ((with_reducible refine gate_builtin (b := .append) (xs := #[.tmp 30, .tmp 32]) rfl ?_); at_builtin; refine Kd.N_append (Kd.slice 24 k24) w.heap.size rfl (.tmp 30) (.tmp 32) 55 54 (.slice none 0 0) 24 rfl Try.underlying55 info54 rfl (by decide) (by omega) (.slice Ao30 x3_1.length co30) x3_1 t835 [.slice Ao32 t835.length co32] (fun k_ => (w.heap.size ≤ k_) ∧ k_ ≠ g) (fun k_ => ((fun k_ => (w.heap.size ≤ k_) ∧ k_ ≠ g)) k_ ∧ some k_ ≠ (.slice Ao30 x3_1.length co30 : Value).ownBlock) rfl rfl ?aP (fun _ hk => hk) ?aF ?aO (Below.refl _ _) ?aS ?aL ?_; (case aP => exact (Kd.FK_slice_mk (Kd.R_reads' (Kd.R_mono (ok' := (fun k_ => ((fun k_ => (w.heap.size ≤ k_) ∧ k_ ≠ g)) k_ ∧ some k_ ≠ (.slice Ao30 x3_1.length co30 : Value).ownBlock)) (IsS75.apart HI0.out (Kd.R_apart' (HO837.out) (Kd.N_typed HO_3.out) (by decide)) (by decide)) (fun k_ hk => ⟨⟨hk.1.1.1, hk.2⟩, hk.1.2⟩))).2.1 (Kd.R_F (Kd.R_mono (ok' := (fun k_ => ((fun k_ => (w.heap.size ≤ k_) ∧ k_ ≠ g)) k_ ∧ some k_ ≠ (.slice Ao30 x3_1.length co30 : Value).ownBlock)) (IsS75.apart HI0.out (Kd.R_apart' (HO837.out) (Kd.N_typed HO_3.out) (by decide)) (by decide)) (fun k_ hk => ⟨⟨hk.1.1.1, hk.2⟩, hk.1.2⟩))))); (case aF => exact (fun k_ hk => ⟨(Nat.le_trans (keep_size (w := w) (g := g) (row := none) kX) hk), IsS75.fresh (iX HI0.out) k_ hk⟩)); (case aO => exact (by (with_reducible repeat (first | apply Kd.N_alloc | apply Kd.N_drewN | apply Kd.N_drew)); exact Kd.N_mono HO_3.out (fun _ hk => ⟨hk.1.1, hk.1.2⟩))); (case aS => exact (keep_size (w := w) (g := g) (row := none) kX)); (case aL => have := LMc27.out; omega); intro v851 w31 ho hb hg hat; rw [← Ny850.out] at ho; have n0_ := aK (IsS75.grown (iX HI0.out) hg (IsS75.own_neN HI0.out HO_3.out (by decide))); have n1_ := aK (below_weaken (bS (IsS75.ge HI0.out)) HL.out hb); have n2_ := aK (KeepBut.trans kX (KeepBut.of_grown hg g) (Kd.N_base2 HO_3.out)); have n3_ := aK (ho); clear HI0 HB HK HO_3 HO837; have HI0 := n0_; have HB := n1_; have HK := n2_; have HO852 := n3_; clear n0_ n1_ n2_ n3_ ho hb hg hat))
    go_roundg k1
    case measure => have := HK1.out; omega
    case rel => exact ⟨(y850), (wrap64 (x4_1 - 1)), (t838), (by first | rfl | (simp; done) | (simp [*]; done)), H', ⟨by have := HK1.out; omega⟩, ⟨by (with_reducible repeat (first | apply Kd.N_alloc | apply Kd.N_drewN | apply Kd.N_drew)); exact HO852.out⟩, ⟨iX HI0.out⟩, ⟨kX⟩, ⟨bS (IsS75.ge HI0.out)⟩⟩
   rw [if_pos c7] at H
   have c7b0 : decide (0 < (x3_1.length : Int)) = true := decide_eq_true c7
   have c7b1 : decide (0 < x3_1.length) = true := decide_eq_true (by omega)
   clear c7
   obtain ⟨⟨t839, t840⟩, A8, H⟩ := oB H
   try dsimp only at H
   by_cases c9 : t839 = true
   rotate_left
   ·replace c9 := Bool.eq_false_iff.mpr c9
    subst c9
    rw [if_neg (show ¬ (false = true) by decide)] at H
    by_cases c20 : x3_1.length < 5864062014805
    rotate_left
    ·rw [if_neg c20] at H
     exact absurd H (by simp)
    rw [if_pos c20] at H
    have LMc20 := Aside0.mk c20
    clear c20
    obtain ⟨y847, hy847⟩ : ∃ y_ : List (List (S24)), y_ = (x3_1 ++ [t835]) := ⟨_, rfl⟩
    replace H : (l1_rows.l0 k1 y847 (wrap64 (x4_1 - 1)) s0_0 t840) = some (r1, r2) := by first | (rw [hy847]; with_reducible exact H) | (have H2_ := (Option.bind_some _ _).symm.trans H; rw [hy847]; with_reducible exact H2_) | (have H2_ := (Option.bind_some _ _).symm.trans H; with_reducible exact H2_) | with_reducible exact H | (rw [hy847]; exact H) | exact H
    have Ny847 := Aside0.mk hy847
    clear hy847
    have H' := Aside0.mk H
    clear H
    go_wp2_with (first | ((with_reducible refine gate_callee (f := 73) rfl ?_); refine gL (some 14) rfl Try.func73 #[.pointer (some ⟨g, 0, none⟩), .int .i64 3] rfl ?_; (with_reducible refine (cc_Int.calls g s0_0 x1001_1 3 t833 t834 w0 _ ?side1 ?side2 A5.out).mono ?_); (case side1 => exact iX HI0.out); (case side2 => exact bS (IsS75.ge HI0.out)); rintro e w21 ⟨rfl, hi, hb, hk⟩; refine ⟨_, rfl, ?_⟩; have n0_ := aK (Kd.N_mono (Kd.N_keep (Kd.N_mono (ok := fun k_ => (((w.heap.size ≤ k_)) ∧ k_ ≠ g)) (by (with_reducible repeat (first | apply Kd.N_alloc | apply Kd.N_drewN | apply Kd.N_drew)); exact HO_3.out) (fun k_ hk_ => (⟨hk_, hk_.2⟩ : _ ∧ k_ ≠ g))) hk (fun _ h => h.2)) (fun _ h => h.1)); have n1_ := aK (KeepBut.trans kX hk (.inl rfl)); have n2_ := aK (hb); have n3_ := aK (hi); clear HO_3 HK HB HI0; have HO_3 := n0_; have HK := n1_; have HB := n2_; have HI0 := n3_; clear n0_ n1_ n2_ n3_; (try clear hb hk hi)) | ((with_reducible refine gate_callee (f := 87) rfl ?_); refine gL (some 15) rfl Try.func87 #[.pointer (some ⟨g, 0, none⟩), .int .i64 t833] rfl ?_; (with_reducible refine (cc_Cells.calls k1 g s0_0 t834 t833 t835 t838 w0 _ ?side1 ?side2 A6.out).mono ?_); (case side1 => exact iX HI0.out); (case side2 => exact bS (IsS75.ge HI0.out)); rintro e w22 ⟨v836, rfl, ho0, hi, hb, hk⟩; refine ⟨_, rfl, ?_⟩; have n0_ := aK (Kd.N_mono (Kd.N_told (Kd.N_oldK (Kd.N_mono (ok := fun k_ => (((w.heap.size ≤ k_)) ∧ k_ ≠ g)) (by (with_reducible repeat (first | apply Kd.N_alloc | apply Kd.N_drewN | apply Kd.N_drew)); exact HO_3.out) (fun k_ hk_ => (⟨hk_, hk_.2⟩ : _ ∧ k_ ≠ g))) hk) (Kd.R_base ho0)) (fun _ h_ => h_.1)); have n1_ := aK (Kd.R_lower (Kd.R_newM (M := fun k_ => (w.heap.size ≤ k_)) ho0 (keep_size (w := w) (g := g) (row := none) kX) (fun k_ h_ => h_)) (keep_size (w := w) (g := g) (row := none) kX)); have n2_ := aK (KeepBut.trans kX hk (.inl rfl)); have n3_ := aK (hb); have n4_ := aK (hi); clear HO_3 HK HB HI0; have HO_3 := n0_; have HO837 := n1_; have HK := n2_; have HB := n3_; have HI0 := n4_; clear n0_ n1_ n2_ n3_ n4_; (try clear hb hk hi ho0); obtain ⟨Ao23, co23, eo23⟩ := Kd.N_slice HO_3.out; subst eo23) | (go_at_call 76; (with_reducible refine (cc_Bool.calls g s0_0 t838 3 false t840 w0 _ ?side1 ?side2 A8.out).mono ?_); (case side1 => exact iX HI0.out); (case side2 => exact bS (IsS75.ge HI0.out)); rintro e w24 ⟨rfl, hi, hb, hk⟩; have n0_ := aK (Kd.N_mono (Kd.N_keep (Kd.N_mono (ok := fun k_ => ((((w.heap.size ≤ k_)) ∧ k_ ≠ g) ∧ some k_ ≠ (v836 : Value).ownBlock)) (by (with_reducible repeat (first | apply Kd.N_alloc | apply Kd.N_drewN | apply Kd.N_drew)); exact HO_3.out) (fun k_ hk_ => (⟨hk_, hk_.1.2⟩ : _ ∧ k_ ≠ g))) hk (fun _ h => h.2)) (fun _ h => h.1)); have n1_ := aK (Kd.R_mono (Kd.R_keep (IsS75.apart (show IsS75 w0 _ g s0_0 t838 from iX HI0.out) (rX HO837.out) (by decide)) hk (fun _ h => h.2)) (fun _ h => h.1)); have n2_ := aK (KeepBut.trans kX hk (.inl rfl)); have n3_ := aK (hb); have n4_ := aK (hi); clear HO_3 HO837 HK HB HI0; have HO_3 := n0_; have HO837 := n1_; have HK := n2_; have HB := n3_; have HI0 := n4_; clear n0_ n1_ n2_ n3_ n4_; (try clear hb hk hi); obtain ⟨Ao26, co26, eo26⟩ := Kd.R_slice HO837.out; subst eo26) | ((with_reducible refine gate_builtin (b := .append) (xs := #[.tmp 30, .tmp 32]) rfl ?_); at_builtin; refine Kd.N_append (Kd.slice 24 k24) w.heap.size rfl (.tmp 30) (.tmp 32) 55 54 (.slice none 0 0) 24 rfl Try.underlying55 info54 rfl (by decide) (by omega) (.slice Ao23 x3_1.length co23) x3_1 t835 [.slice Ao26 t835.length co26] (fun k_ => (w.heap.size ≤ k_) ∧ k_ ≠ g) (fun k_ => ((fun k_ => (w.heap.size ≤ k_) ∧ k_ ≠ g)) k_ ∧ some k_ ≠ (.slice Ao23 x3_1.length co23 : Value).ownBlock) rfl rfl ?aP (fun _ hk => hk) ?aF ?aO (Below.refl _ _) ?aS ?aL ?_; (case aP => exact (Kd.FK_slice_mk (Kd.R_reads' (Kd.R_mono (ok' := (fun k_ => ((fun k_ => (w.heap.size ≤ k_) ∧ k_ ≠ g)) k_ ∧ some k_ ≠ (.slice Ao23 x3_1.length co23 : Value).ownBlock)) (IsS75.apart HI0.out (Kd.R_apart' (HO837.out) (Kd.N_typed HO_3.out) (by decide)) (by decide)) (fun k_ hk => ⟨⟨hk.1.1.1, hk.2⟩, hk.1.2⟩))).2.1 (Kd.R_F (Kd.R_mono (ok' := (fun k_ => ((fun k_ => (w.heap.size ≤ k_) ∧ k_ ≠ g)) k_ ∧ some k_ ≠ (.slice Ao23 x3_1.length co23 : Value).ownBlock)) (IsS75.apart HI0.out (Kd.R_apart' (HO837.out) (Kd.N_typed HO_3.out) (by decide)) (by decide)) (fun k_ hk => ⟨⟨hk.1.1.1, hk.2⟩, hk.1.2⟩))))); (case aF => exact (fun k_ hk => ⟨(Nat.le_trans (keep_size (w := w) (g := g) (row := none) kX) hk), IsS75.fresh (iX HI0.out) k_ hk⟩)); (case aO => exact (by (with_reducible repeat (first | apply Kd.N_alloc | apply Kd.N_drewN | apply Kd.N_drew)); exact Kd.N_mono HO_3.out (fun _ hk => ⟨hk.1.1, hk.1.2⟩))); (case aS => exact (keep_size (w := w) (g := g) (row := none) kX)); (case aL => have := LMc20.out; omega); intro v848 w25 ho hb hg hat; rw [← Ny847.out] at ho; have n0_ := aK (IsS75.grown (iX HI0.out) hg (IsS75.own_neN HI0.out HO_3.out (by decide))); have n1_ := aK (below_weaken (bS (IsS75.ge HI0.out)) HL.out hb); have n2_ := aK (KeepBut.trans kX (KeepBut.of_grown hg g) (Kd.N_base2 HO_3.out)); have n3_ := aK (ho); clear HI0 HB HK HO_3 HO837; have HI0 := n0_; have HB := n1_; have HK := n2_; have HO849 := n3_; clear n0_ n1_ n2_ n3_ ho hb hg hat))
    go_roundg k1
    case measure => have := HK1.out; omega
    case rel => exact ⟨(y847), (wrap64 (x4_1 - 1)), (t840), (by first | rfl | (simp; done) | (simp [*]; done)), H', ⟨by have := HK1.out; omega⟩, ⟨by (with_reducible repeat (first | apply Kd.N_alloc | apply Kd.N_drewN | apply Kd.N_drew)); exact HO849.out⟩, ⟨iX HI0.out⟩, ⟨kX⟩, ⟨bS (IsS75.ge HI0.out)⟩⟩
   subst c9
   rw [if_pos rfl] at H
   obtain ⟨⟨t841, t842⟩, A10, H⟩ := oB H
   try dsimp only at H
   by_cases c11 : 0 ≤ t841
   rotate_left
   ·rw [if_neg c11] at H
    exact absurd H (by simp)
   rw [if_pos c11] at H
   have c11b0 : decide (0 ≤ t841) = true := decide_eq_true c11
   clear c11
   by_cases c12 : t841 < (x3_1.length : Int)
   rotate_left
   ·rw [if_neg c12] at H
    exact absurd H (by simp)
   rw [if_pos c12] at H
   have c12b0 : decide (t841 < (x3_1.length : Int)) = true := decide_eq_true c12
   clear c12
   by_cases c13 : x3_1.length < 5864062014805
   rotate_left
   ·rw [if_neg c13] at H
    exact absurd H (by simp)
   rw [if_pos c13] at H
   have LMc13 := Aside0.mk c13
   clear c13
   obtain ⟨y844, hy844⟩ : ∃ y_ : List (List (S24)), y_ = (x3_1 ++ [rd_L4 x3_1 t841]) := ⟨_, rfl⟩
   replace H : (l1_rows.l0 k1 y844 (wrap64 (x4_1 - 1)) s0_0 t842) = some (r1, r2) := by first | (rw [hy844]; with_reducible exact H) | (have H2_ := (Option.bind_some _ _).symm.trans H; rw [hy844]; with_reducible exact H2_) | (have H2_ := (Option.bind_some _ _).symm.trans H; with_reducible exact H2_) | with_reducible exact H | (rw [hy844]; exact H) | exact H
   have Ny844 := Aside0.mk hy844
   clear hy844
   have H' := Aside0.mk H
   clear H
   go_wp2_with (first | ((with_reducible refine gate_callee (f := 73) rfl ?_); refine gL (some 14) rfl Try.func73 #[.pointer (some ⟨g, 0, none⟩), .int .i64 3] rfl ?_; (with_reducible refine (cc_Int.calls g s0_0 x1001_1 3 t833 t834 w0 _ ?side1 ?side2 A5.out).mono ?_); (case side1 => exact iX HI0.out); (case side2 => exact bS (IsS75.ge HI0.out)); rintro e w14 ⟨rfl, hi, hb, hk⟩; refine ⟨_, rfl, ?_⟩; have n0_ := aK (Kd.N_mono (Kd.N_keep (Kd.N_mono (ok := fun k_ => (((w.heap.size ≤ k_)) ∧ k_ ≠ g)) (by (with_reducible repeat (first | apply Kd.N_alloc | apply Kd.N_drewN | apply Kd.N_drew)); exact HO_3.out) (fun k_ hk_ => (⟨hk_, hk_.2⟩ : _ ∧ k_ ≠ g))) hk (fun _ h => h.2)) (fun _ h => h.1)); have n1_ := aK (KeepBut.trans kX hk (.inl rfl)); have n2_ := aK (hb); have n3_ := aK (hi); clear HO_3 HK HB HI0; have HO_3 := n0_; have HK := n1_; have HB := n2_; have HI0 := n3_; clear n0_ n1_ n2_ n3_; (try clear hb hk hi)) | ((with_reducible refine gate_callee (f := 87) rfl ?_); refine gL (some 15) rfl Try.func87 #[.pointer (some ⟨g, 0, none⟩), .int .i64 t833] rfl ?_; (with_reducible refine (cc_Cells.calls k1 g s0_0 t834 t833 t835 t838 w0 _ ?side1 ?side2 A6.out).mono ?_); (case side1 => exact iX HI0.out); (case side2 => exact bS (IsS75.ge HI0.out)); rintro e w15 ⟨v836, rfl, ho0, hi, hb, hk⟩; refine ⟨_, rfl, ?_⟩; have n0_ := aK (Kd.N_mono (Kd.N_told (Kd.N_oldK (Kd.N_mono (ok := fun k_ => (((w.heap.size ≤ k_)) ∧ k_ ≠ g)) (by (with_reducible repeat (first | apply Kd.N_alloc | apply Kd.N_drewN | apply Kd.N_drew)); exact HO_3.out) (fun k_ hk_ => (⟨hk_, hk_.2⟩ : _ ∧ k_ ≠ g))) hk) (Kd.R_base ho0)) (fun _ h_ => h_.1)); have n1_ := aK (Kd.R_lower (Kd.R_newM (M := fun k_ => (w.heap.size ≤ k_)) ho0 (keep_size (w := w) (g := g) (row := none) kX) (fun k_ h_ => h_)) (keep_size (w := w) (g := g) (row := none) kX)); have n2_ := aK (KeepBut.trans kX hk (.inl rfl)); have n3_ := aK (hb); have n4_ := aK (hi); clear HO_3 HK HB HI0; have HO_3 := n0_; have HO837 := n1_; have HK := n2_; have HB := n3_; have HI0 := n4_; clear n0_ n1_ n2_ n3_ n4_; (try clear hb hk hi ho0); obtain ⟨Ao16, co16, eo16⟩ := Kd.N_slice HO_3.out; subst eo16) | (go_at_call 76; (with_reducible refine (cc_Bool.calls g s0_0 t838 3 true t840 w0 _ ?side1 ?side2 A8.out).mono ?_); (case side1 => exact iX HI0.out); (case side2 => exact bS (IsS75.ge HI0.out)); rintro e w17 ⟨rfl, hi, hb, hk⟩; have n0_ := aK (Kd.N_mono (Kd.N_keep (Kd.N_mono (ok := fun k_ => ((((w.heap.size ≤ k_)) ∧ k_ ≠ g) ∧ some k_ ≠ (v836 : Value).ownBlock)) (by (with_reducible repeat (first | apply Kd.N_alloc | apply Kd.N_drewN | apply Kd.N_drew)); exact HO_3.out) (fun k_ hk_ => (⟨hk_, hk_.1.2⟩ : _ ∧ k_ ≠ g))) hk (fun _ h => h.2)) (fun _ h => h.1)); have n1_ := aK (Kd.R_mono (Kd.R_keep (IsS75.apart (show IsS75 w0 _ g s0_0 t838 from iX HI0.out) (rX HO837.out) (by decide)) hk (fun _ h => h.2)) (fun _ h => h.1)); have n2_ := aK (KeepBut.trans kX hk (.inl rfl)); have n3_ := aK (hb); have n4_ := aK (hi); clear HO_3 HO837 HK HB HI0; have HO_3 := n0_; have HO837 := n1_; have HK := n2_; have HB := n3_; have HI0 := n4_; clear n0_ n1_ n2_ n3_ n4_; (try clear hb hk hi)) | ((with_reducible refine gate_callee (f := 73) rfl ?_); refine gL (some 27) rfl Try.func73 #[.pointer (some ⟨g, 0, none⟩), .int .i64 (x3_1.length : Int)] rfl ?_; (with_reducible refine (cc_Int.calls g s0_0 t840 (x3_1.length : Int) t841 t842 w0 _ ?side1 ?side2 A10.out).mono ?_); (case side1 => exact iX HI0.out); (case side2 => exact bS (IsS75.ge HI0.out)); rintro e w18 ⟨rfl, hi, hb, hk⟩; refine ⟨_, rfl, ?_⟩; have n0_ := aK (Kd.N_mono (Kd.N_keep (Kd.N_mono (ok := fun k_ => ((((w.heap.size ≤ k_)) ∧ k_ ≠ g) ∧ some k_ ≠ (v836 : Value).ownBlock)) (by (with_reducible repeat (first | apply Kd.N_alloc | apply Kd.N_drewN | apply Kd.N_drew)); exact HO_3.out) (fun k_ hk_ => (⟨hk_, hk_.1.2⟩ : _ ∧ k_ ≠ g))) hk (fun _ h => h.2)) (fun _ h => h.1)); have n1_ := aK (Kd.R_mono (Kd.R_keep (IsS75.apart (show IsS75 w0 _ g s0_0 t840 from iX HI0.out) (rX HO837.out) (by decide)) hk (fun _ h => h.2)) (fun _ h => h.1)); have n2_ := aK (KeepBut.trans kX hk (.inl rfl)); have n3_ := aK (hb); have n4_ := aK (hi); clear HO_3 HO837 HK HB HI0; have HO_3 := n0_; have HO837 := n1_; have HK := n2_; have HB := n3_; have HI0 := n4_; clear n0_ n1_ n2_ n3_ n4_; (try clear hb hk hi); have p843 : 0 ≤ (t841 : Int) := of_decide_eq_true (aA); have q843 : t841 < (x3_1.length : Int) := of_decide_eq_true (aA); obtain ⟨ad843, A843_0, c843_0, e843, hx843_0, hl843_0, hi843_0⟩ := at_L4 (Kd.N_reads' HO_3.out).2.2 t841 p843 q843; cases e843; obtain ⟨ce843, hce843, hMe843, hcc843⟩ := Kd.N_get HO_3.out [] t841 p843 (by first | exact q843 | exact of_decide_eq_true (aA) | (have e_ := (Kd.N_reads' HO_3.out).1; omega)); obtain ⟨ua843_0, uc843_0, rfl, ul843_0, ge843_0⟩ := Kd.FK_slice_open hMe843; have hv843_0 := hcc843 0 _ rfl; rw [Nat.add_zero, show ((Kd.slice 24 k24)).sz = 1 from rfl, Nat.mul_one] at hv843_0; replace hv843_0 := Option.some.inj (hv843_0.symm.trans hx843_0); injection hv843_0 with hva_ hvn_ hvc_; rw [hva_] at ge843_0; rw [hvc_] at ul843_0; have HL843_0 := aK (show Kd.V k24 24 _ w.heap.size _ _ (rd_L4 x3_1 t841) from Kd.V_mk ul843_0 ge843_0); clear hva_ hvn_ hvc_ ge843_0 ul843_0 hcc843 hce843; have HR843_0 := Aside0.mk hi843_0; have HC843_0 := Aside0.mk hl843_0; clear hi843_0 hl843_0; replace p843 := eq_true p843; replace q843 := eq_true q843) | ((with_reducible refine gate_builtin (b := .append) (xs := #[.tmp 30, .tmp 32]) rfl ?_); at_builtin; refine Kd.N_append (Kd.slice 24 k24) w.heap.size rfl (.tmp 30) (.tmp 32) 55 54 (.slice none 0 0) 24 rfl Try.underlying55 info54 rfl (by decide) (by omega) (.slice (some ad843) x3_1.length co16) x3_1 (rd_L4 x3_1 t841) [.slice A843_0 (rd_L4 x3_1 t841).length c843_0] (fun k_ => (w.heap.size ≤ k_) ∧ some k_ ≠ (v836 : Value).ownBlock ∧ k_ ≠ g) (fun k_ => ((fun k_ => (w.heap.size ≤ k_) ∧ some k_ ≠ (v836 : Value).ownBlock ∧ k_ ≠ g)) k_ ∧ some k_ ≠ (.slice (some ad843) x3_1.length co16 : Value).ownBlock) rfl rfl ?aP (fun _ hk => hk) ?aF ?aO (Below.refl _ _) ?aS ?aL ?_; (case aP => exact (Kd.FK_slice_mk (Kd.V_reads' (Kd.V_mono (ok' := (fun k_ => ((fun k_ => (w.heap.size ≤ k_) ∧ some k_ ≠ (v836 : Value).ownBlock ∧ k_ ≠ g)) k_ ∧ some k_ ≠ (.slice (some ad843) x3_1.length co16 : Value).ownBlock)) (HL843_0.out) (fun k_ hk => ⟨⟨hk.1.1.1, ⟨hk.1.2, hk.1.1.2⟩⟩, hk.2⟩))).2.1 (Kd.V_F (Kd.V_mono (ok' := (fun k_ => ((fun k_ => (w.heap.size ≤ k_) ∧ some k_ ≠ (v836 : Value).ownBlock ∧ k_ ≠ g)) k_ ∧ some k_ ≠ (.slice (some ad843) x3_1.length co16 : Value).ownBlock)) (HL843_0.out) (fun k_ hk => ⟨⟨hk.1.1.1, ⟨hk.1.2, hk.1.1.2⟩⟩, hk.2⟩))))); (case aF => exact (fun k_ hk => ⟨(Nat.le_trans (keep_size (w := w) (g := g) (row := none) kX) hk), Kd.fresh' (Kd.R_lt (rX HO837.out)) k_ hk, IsS75.fresh (iX HI0.out) k_ hk⟩)); (case aO => exact (by (with_reducible repeat (first | apply Kd.N_alloc | apply Kd.N_drewN | apply Kd.N_drew)); exact Kd.N_mono HO_3.out (fun _ hk => ⟨hk.1.1, ⟨hk.2, hk.1.2⟩⟩))); (case aS => exact (keep_size (w := w) (g := g) (row := none) kX)); (case aL => have := LMc13.out; omega); intro v845 w19 ho hb hg hat; rw [← Ny844.out] at ho; have n0_ := aK (IsS75.grown (iX HI0.out) hg (IsS75.own_neN HI0.out HO_3.out (by decide))); have n1_ := aK (Kd.R_over' (rX HO837.out) (Kd.N_typed (by (with_reducible repeat (first | apply Kd.N_alloc | apply Kd.N_drewN | apply Kd.N_drew)); exact HO_3.out)) (by decide) hg); have n2_ := aK (Kd.V_afterv (ok := (fun k_ => (w.heap.size ≤ k_) ∧ some k_ ≠ (v836 : Value).ownBlock ∧ k_ ≠ g)) (by (with_reducible repeat (first | apply Kd.V_alloc | apply Kd.V_drewN | apply Kd.V_drew)); exact Kd.V_mono HL843_0.out (fun _ hk => ⟨⟨hk.1.1.1, ⟨hk.1.2, hk.1.1.2⟩⟩, hk.2⟩)) hg hat); have n3_ := aK (below_weaken (bS (IsS75.ge HI0.out)) HL.out hb); have n4_ := aK (KeepBut.trans kX (KeepBut.of_grown hg g) (Kd.N_base2 HO_3.out)); have n5_ := aK (ho); clear HI0 HO837 HL843_0 HB HK HO_3; have HI0 := n0_; have HO837 := n1_; have HL843_0 := n2_; have HB := n3_; have HK := n4_; have HO846 := n5_; clear n0_ n1_ n2_ n3_ n4_ n5_ ho hb hg hat))
   go_roundg k1
   case measure => have := HK1.out; omega
   case rel => exact ⟨(y844), (wrap64 (x4_1 - 1)), (t842), (by first | rfl | (simp; done) | (simp [*]; done)), H', ⟨by have := HK1.out; omega⟩, ⟨by (with_reducible repeat (first | apply Kd.N_alloc | apply Kd.N_drewN | apply Kd.N_drew)); exact Kd.N_mono HO846.out (fun _ hk => ⟨hk.1, hk.2.2⟩)⟩, ⟨iX HI0.out⟩, ⟨kX⟩, ⟨bS (IsS75.ge HI0.out)⟩⟩
def r1_Copy.f (l0 : List (S24)) : Option ((List (S24))) := if ([] : List (S24)).length + l0.length < 4398046511104 then (some (([] : List (S24)) ++ l0)) else (none)
set_option maxHeartbeats 8000000 in
set_option maxRecDepth 100000 in
theorem r1_Copy.calls (A0 : Option Addr) (c0 : Nat) (l0 : List (S24)) (r : List (S24)) (w : World) (hr0 : Kd.C k24 w A0 l0.length l0) (hc0 : l0.length ≤ c0) (h : r1_Copy.f l0 = some r) :
  Calls Try.prog 89 #[.slice A0 l0.length c0] w fun e w' => ∃ v0_ : Value, e = .returned (v0_) ∧ Kd.R k24 24 w' w.heap.size (fun _ => True) v0_ r ∧ Below w.heap.size w w' := by
 have HR0 := Aside0.mk hr0
 have HC0 := Aside0.mk hc0
 clear hr0 hc0
 have HB := aK (Below.refl w.heap.size w)
 have H : (if ([] : List (S24)).length + l0.length < 4398046511104 then (some (([] : List (S24)) ++ l0)) else (none)) = some r := h
 clear h
 by_cases c2 : ([] : List (S24)).length + l0.length < 4398046511104
 rotate_left
 ·rw [if_neg c2] at H
  exact absurd H (by simp)
 rw [if_pos c2] at H
 have LMc2 := Aside0.mk c2
 clear c2
 obtain ⟨y161, hy161⟩ : ∃ y_ : List (S24), y_ = (([] : List (S24)) ++ l0) := ⟨_, rfl⟩
 replace H : (some y161) = some r := by first | (rw [hy161]; with_reducible exact H) | (have H2_ := (Option.bind_some _ _).symm.trans H; rw [hy161]; with_reducible exact H2_) | (have H2_ := (Option.bind_some _ _).symm.trans H; with_reducible exact H2_) | with_reducible exact H | (rw [hy161]; exact H) | exact H
 have Ny161 := Aside0.mk hy161
 clear hy161
 obtain rfl := Option.some.inj H
 go_enter Try.func89, Try.ntmps89
 go_wp2_with (first | ((with_reducible refine gate_builtin (b := .append) (xs := #[(.const (.slice none 0 0)), .tmp 3]) rfl ?_); at_builtin; refine Kd.R_append_rows k24 (w0 := w) w.heap.size rfl (.const (.slice none 0 0)) (.tmp 3) 54 24 (.agg #[(.int .i64 0), (.int .i64 0), (.string ⟨#[]⟩)]) 32 rfl Try.underlying54 info24 rfl (by decide) (by omega) (.slice none 0 0) ([] : List (S24)) l0 _ _ _ (fun _ => True) (fun _ => False) rfl rfl ?aO ?aR (fun _ _ h => h) (fun _ h => h.elim) ?aF ?aB ?aS ?aL ?_; (case aR => exact cX HR0.out); (case aB => exact bO); (case aF => exact (fun _ _ => trivial)); (case aO => exact ((Kd.R_nil _ _ _ _ (fun _ => True)))); (case aS => exact (below_size bO)); (case aL => have := LMc2.out; omega); intro v162 w3 ho hb hg hat; rw [← Ny161.out] at ho; have n0_ := aK (hb); have n1_ := aK (ho); clear HB; have HB := n0_; have HO163 := n1_; clear n0_ n1_ ho hb hg hat))
 go_ret
 exact ⟨_, eW, by (with_reducible repeat (first | apply Kd.R_alloc | apply Kd.R_drewN | apply Kd.R_drew)); exact HO163.out, bO⟩
def l1_copies.l0 : Nat → List (List (S24)) → List (List (S24)) → Int → Option ((List (List (S24))))
 | 0, _, _, _ => none
 | k + 1, x0, x3, x4 => if x4 ≥ 0 then (if 0 ≤ x4 then (if x4 < (x0.length : Int) then ((r1_Copy.f (rd_L4 x0 x4)).bind fun t863 => (if x3.length < 5864062014805 then (l1_copies.l0 k x0 (x3 ++ [t863]) (wrap64 (x4 - 1))) else (none))) else (none)) else (none)) else (some x3)
def l1_copies.f (k : Nat) (l0 : List (List (S24))) : Option ((List (List (S24)))) := l1_copies.l0 k l0 ([] : List (List (S24))) (wrap64 ((l0.length : Int) - 1))
set_option maxHeartbeats 8000000 in
set_option maxRecDepth 100000 in
theorem l1_copies.calls (k : Nat) (A0 : Option Addr) (c0 : Nat) (l0 : List (List (S24))) (r : List (List (S24))) (w : World) (hr0 : Kd.C (Kd.slice 24 k24) w A0 l0.length l0) (hc0 : l0.length ≤ c0) (h : l1_copies.f k l0 = some r) :
  Calls Try.prog 55 #[.slice A0 l0.length c0] w fun e w' => ∃ v0_ : Value, e = .returned (v0_) ∧ Kd.S (Kd.slice 24 k24) 54 w' w.heap.size (fun _ => True) v0_ r ∧ Below w.heap.size w w' := by
 have HR0 := Aside0.mk hr0
 have HC0 := Aside0.mk hc0
 clear hr0 hc0
 have HB := aK (Below.refl w.heap.size w)
 have H : (l1_copies.l0 k l0 ([] : List (List (S24))) (wrap64 ((l0.length : Int) - 1))) = some r := h
 clear h
 have H' := Aside0.mk H
 clear H
 go_enter Try.func55, Try.ntmps55
 go_wp2
 go_loopg [3, 4] k (fun kq v3 v4 w' => ∃ (x3_1 : List (List (S24))) (x4_1 : Int), v4 = .int .i64 x4_1 ∧ Aside0 (l1_copies.l0 kq l0 x3_1 x4_1 = some r) ∧ Aside0 (kq ≤ k) ∧ Aside0 (Kd.S (Kd.slice 24 k24) 54 w' w.heap.size (fun _ => True) v3 x3_1) ∧ Aside0 (Below w.heap.size w w'))
 case atStart => exact ⟨(([] : List (List (S24)))), (wrap64 ((l0.length : Int) - 1)), (by first | rfl | (simp; done) | (simp [*]; done)), H', ⟨Nat.le_refl _⟩, ⟨by first | exact Kd.S_nil _ _ _ _ _ | exact Kd.N_nil _ _ _ _ _ | exact Kd.V_nil _ _ _ _ _ | exact Kd.Q_nil _ _ _ _ _ | exact Kd.R_nil _ _ _ _ _⟩, ⟨bO⟩⟩
 case round =>
  clear H'
  obtain ⟨x3_1, x4_1, rfl, HA, HK1, HO_3, HB⟩ := hrel
  cases gk with
  | zero => exact absurd HA.out (by simp [l1_copies.l0])
  | succ k1 =>
   have H := HA.out
   clear HA
   simp only [l1_copies.l0] at H
   by_cases c2 : x4_1 ≥ 0
   rotate_left
   ·rw [if_neg c2] at H
    have c2b0 : decide (0 ≤ x4_1) = false := decide_eq_false c2
    clear c2
    obtain rfl := Option.some.inj H
    go_wp2
    go_ret
    exact ⟨_, eW, by (with_reducible repeat (first | apply Kd.S_alloc | apply Kd.S_drewN | apply Kd.S_drew)); exact HO_3.out, bO⟩
   rw [if_pos c2] at H
   have c2b0 : decide (0 ≤ x4_1) = true := decide_eq_true c2
   clear c2
   by_cases c3 : 0 ≤ x4_1
   rotate_left
   ·rw [if_neg c3] at H
    exact absurd H (by simp)
   rw [if_pos c3] at H
   have c3b0 : decide (0 ≤ x4_1) = true := decide_eq_true c3
   clear c3
   by_cases c4 : x4_1 < (l0.length : Int)
   rotate_left
   ·rw [if_neg c4] at H
    exact absurd H (by simp)
   rw [if_pos c4] at H
   have c4b0 : decide (x4_1 < (l0.length : Int)) = true := decide_eq_true c4
   clear c4
   obtain ⟨t863, A5, H⟩ := oB H
   try dsimp only at H
   by_cases c6 : x3_1.length < 5864062014805
   rotate_left
   ·rw [if_neg c6] at H
    exact absurd H (by simp)
   rw [if_pos c6] at H
   have LMc6 := Aside0.mk c6
   clear c6
   obtain ⟨y866, hy866⟩ : ∃ y_ : List (List (S24)), y_ = (x3_1 ++ [t863]) := ⟨_, rfl⟩
   replace H : (l1_copies.l0 k1 l0 y866 (wrap64 (x4_1 - 1))) = some r := by first | (rw [hy866]; with_reducible exact H) | (have H2_ := (Option.bind_some _ _).symm.trans H; rw [hy866]; with_reducible exact H2_) | (have H2_ := (Option.bind_some _ _).symm.trans H; with_reducible exact H2_) | with_reducible exact H | (rw [hy866]; exact H) | exact H
   have Ny866 := Aside0.mk hy866
   clear hy866
   have H' := Aside0.mk H
   clear H
   have p862 : 0 ≤ (x4_1 : Int) := of_decide_eq_true (aA)
   have q862 : x4_1 < (l0.length : Int) := of_decide_eq_true (aA)
   obtain ⟨ad862, A862_0, c862_0, e862, hx862_0, hl862_0, hi862_0⟩ := at_L4 HR0.out x4_1 p862 q862
   cases e862
   replace hx862_0 := hW HB.out hx862_0
   have HR862_0 := Aside0.mk hi862_0
   have HC862_0 := Aside0.mk hl862_0
   clear hi862_0 hl862_0
   replace p862 := eq_true p862
   replace q862 := eq_true q862
   go_wp2_with (first | ((with_reducible refine gate_callee (f := 89) rfl ?_); refine gL (some 17) rfl Try.func89 #[.slice A862_0 (rd_L4 l0 x4_1).length c862_0] rfl ?_; (with_reducible refine (r1_Copy.calls _ _ (rd_L4 l0 x4_1) t863 _ ?side1 ?side2 A5.out).mono ?_); (case side1 => repeat (first | exact (Kd.C_below HR862_0.out HB.out) | (with_reducible refine Kd.C_alloc ?_ _) | (with_reducible refine Kd.C_drewN ?_ _) | (with_reducible refine Kd.C_drew ?_))); (case side2 => exact HC862_0.out); rintro e w7 ⟨v864, rfl, ho0, hb⟩; refine ⟨_, rfl, ?_⟩; have n0_ := aK (Kd.S_elder' (by (with_reducible repeat (first | apply Kd.S_alloc | apply Kd.S_drewN | apply Kd.S_drew)); exact HO_3.out) (Kd.R_base ho0) hb); have n1_ := aK (Kd.R_lower ho0 (below_size bO)); have n2_ := aK (below_step bO hb); clear HO_3 HB; have HO_3 := n0_; have HO865 := n1_; have HB := n2_; clear n0_ n1_ n2_; (try clear hb ho0); obtain ⟨Ao9, co9, eo9⟩ := Kd.R_slice HO865.out; subst eo9) | ((with_reducible refine gate_builtin (b := .append) (xs := #[.tmp 12, .tmp 18]) rfl ?_); at_builtin; refine Kd.S_append (Kd.slice 24 k24) (w0 := w) w.heap.size rfl (.tmp 12) (.tmp 18) 55 54 (.slice none 0 0) 24 rfl Try.underlying55 info54 rfl (by decide) (by omega) u3 x3_1 t863 [.slice Ao9 t863.length co9] (fun _ => True) (fun k_ => some k_ = (.slice Ao9 t863.length co9 : Value).ownBlock) rfl rfl ?aP (fun k_ hk_ => ((Kd.R_mono (ok' := fun k_ => ((fun _ => True)) k_ ∧ some k_ ≠ (u3 : Value).ownBlock) (Kd.R_apart' (HO865.out) (Kd.S_typed HO_3.out) (by decide)) (fun k_ hk => ⟨trivial, hk.2⟩))).1 k_ hk_.symm) ?aF ?aO ?aB ?aS ?aL ?_; (case aP => exact Kd.M_row (Kd.R_mono (Kd.R_tight rfl (Kd.R_mono (ok' := fun k_ => ((fun _ => True)) k_ ∧ some k_ ≠ (u3 : Value).ownBlock) (Kd.R_apart' (HO865.out) (Kd.S_typed HO_3.out) (by decide)) (fun k_ hk => ⟨trivial, hk.2⟩))) (fun _ h_ => h_))); (case aB => exact bO); (case aF => exact (fun _ _ => trivial)); (case aO => exact (by (with_reducible repeat (first | apply Kd.S_alloc | apply Kd.S_drewN | apply Kd.S_drew)); exact Kd.S_mono HO_3.out (fun k_ hk => ⟨trivial, fun e_ => hk.2 e_⟩))); (case aS => exact (below_size bO)); (case aL => have := LMc6.out; omega); intro v867 w8 ho hb hg hat; rw [← Ny866.out] at ho; have n0_ := aK (hb); have n1_ := aK (ho); clear HB HO_3 HO865; have HB := n0_; have HO868 := n1_; clear n0_ n1_ ho hb hg hat))
   go_roundg k1
   case measure => have := HK1.out; omega
   case rel => exact ⟨(y866), (wrap64 (x4_1 - 1)), (by first | rfl | (simp; done) | (simp [*]; done)), H', ⟨by have := HK1.out; omega⟩, ⟨by (with_reducible repeat (first | apply Kd.S_alloc | apply Kd.S_drewN | apply Kd.S_drew)); exact HO868.out⟩, ⟨bO⟩⟩
theorem below2 (w : World) (o p : Obj) : Below w.heap.size w ((w.alloc o).alloc p) := (bg2 w o p).toBelow
def r1_Compare.f (a0_0 : Int) (a0_1 : Int) (a0_2 : ByteArray) (a1_0 : Int) (a1_1 : Int) (a1_2 : ByteArray) : Option (Int) := if a0_0 < a1_0 then (some (-1)) else (if a0_0 > a1_0 then (some 1) else (if a0_1 < a1_1 then (some (-1)) else (if a0_1 > a1_1 then (some 1) else (if (Op.bytesLess a0_2.toList a1_2.toList) = true then (some (-1)) else (if (a0_2.toList == a1_2.toList) = true then (some 0) else (some 1))))))
set_option maxHeartbeats 400000 in
theorem r1_Compare.calls (a0_0 : Int) (a0_1 : Int) (a0_2 : ByteArray) (a1_0 : Int) (a1_1 : Int) (a1_2 : ByteArray) (r : Int) (w : World) (h : r1_Compare.f a0_0 a0_1 a0_2 a1_0 a1_1 a1_2 = some r) :
  Calls Try.prog 26 #[.agg #[.int .i64 a0_0, .int .i64 a0_1, .string a0_2], .agg #[.int .i64 a1_0, .int .i64 a1_1, .string a1_2]] w fun e w' => e = .returned (.int .i64 r) ∧ Below w.heap.size w w' := by
 have hu24 := Try.underlying24
 unfold r1_Compare.f at h
 by_cases c3 : a0_0 < a1_0
 rotate_left
 ·rw [if_neg c3] at h
  by_cases c4 : a0_0 > a1_0
  rotate_left
  ·rw [if_neg c4] at h
   by_cases c5 : a0_1 < a1_1
   rotate_left
   ·rw [if_neg c5] at h
    by_cases c6 : a0_1 > a1_1
    rotate_left
    ·rw [if_neg c6] at h
     cases hb : Op.bytesLess a0_2.toList a1_2.toList
     ·rw [hb, if_neg (by decide)] at h
      cases hb2 : a0_2.toList == a1_2.toList
      all_goals
       rw [hb2] at h; cases h
       go_enter Try.func26, Try.ntmps26
       go_wp2
       go_ret
       exact ⟨rfl, below2 _ _ _⟩
     ·rw [hb] at h; cases h
      go_enter Try.func26, Try.ntmps26
      go_wp2
      go_ret
      exact ⟨rfl, below2 _ _ _⟩
    rw [if_pos c6] at h; cases h
    go_enter Try.func26, Try.ntmps26
    go_wp2
    go_ret
    exact ⟨rfl, below2 _ _ _⟩
   rw [if_pos c5] at h; cases h
   go_enter Try.func26, Try.ntmps26
   go_wp2
   go_ret
   exact ⟨rfl, below2 _ _ _⟩
  rw [if_pos c4] at h; cases h
  go_enter Try.func26, Try.ntmps26
  go_wp2
  go_ret
  exact ⟨rfl, below2 _ _ _⟩
 rw [if_pos c3] at h; cases h
 go_enter Try.func26, Try.ntmps26
 go_wp2
 go_ret
 exact ⟨rfl, below2 _ _ _⟩
end Go.Proofs.Ytpjcdacnhalclaa.Q
