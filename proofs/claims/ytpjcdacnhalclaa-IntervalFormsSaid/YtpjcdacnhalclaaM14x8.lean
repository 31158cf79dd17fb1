/- A part of a proof: facts of functions that the law calls; conditions stand in each. -/
import Derived.Test.YtpjcdacnhalclaaM14x3
import Derived.Test.YtpjcdacnhalclaaM14x5
import Derived.Lib.SlBuf
set_option linter.unusedVariables false
set_option linter.unusedSimpArgs false
namespace Go.Proofs.Ytpjcdacnhalclaa.Q
open Go.RowKit Go.Proofs.YtpjcdacnhalclaaW.PrintWords Go.Proofs.YtpjcdacnhalclaaW.PrintLast Go.Proofs.YtpjcdacnhalclaaW.PrintMore
attribute [local go_sem] max2_int min2_int max_two min_two max_three min_three max_four min_four
def i_contains.l0 : Nat → List (S65) → Int → Int → Int → Int → ByteArray → Option (Bool)
 | 0, _, _, _, _, _, _ => none
 | k + 1, x7, x8, x9, x500000, x500001, x500002 => if x9 < x8 then (if 0 ≤ x9 then (if x9 < (x7.length : Int) then ((v_Compare.f ((rd_T65 x7 x9).f0.f0) ((rd_T65 x7 x9).f0.f1) ((rd_T65 x7 x9).f0.f2) x500000 x500001 x500002).bind fun t502 => (if t502 ≤ 0 then (if (rd_T65 x7 x9).f2 = true then (some true) else ((v_Compare.f x500000 x500001 x500002 ((rd_T65 x7 x9).f1.f0) ((rd_T65 x7 x9).f1.f1) ((rd_T65 x7 x9).f1.f2)).bind fun t503 => (if t503 < 0 then (some true) else (i_contains.l0 k x7 x8 (wrap64 (x9 + 1)) x500000 x500001 x500002)))) else (i_contains.l0 k x7 x8 (wrap64 (x9 + 1)) x500000 x500001 x500002))) else (none)) else (none)) else (some false)
def i_contains.f (k : Nat) (l0 : List (S65)) (a1_0 : Int) (a1_1 : Int) (a1_2 : ByteArray) : Option (Bool) := i_contains.l0 k l0 (l0.length : Int) 0 a1_0 a1_1 a1_2
theorem i_contains.mono_l : ∀ k, (∀ y0 y1 y2 y3 y4 y5, LeO (i_contains.l0 k y0 y1 y2 y3 y4 y5) (i_contains.l0 (k + 1) y0 y1 y2 y3 y4 y5))
 | 0 => fun _ _ _ _ _ _ r h => by simp [i_contains.l0] at h
 | k + 1 => by
  have ih0 := i_contains.mono_l k
  ·intro y0 y1 y2 y3 y4 y5
   unfold i_contains.l0
   repeat' first
   | (with_reducible exact ih0 _ _ _ _ _ _)
   | (with_reducible exact LeO.refl _)
   | (with_reducible exact LeO.none _)
   | (with_reducible refine LeO.ite ?_ ?_)
   | (with_reducible refine LeO.bind ?_ (fun _ => ?_))
   | exact ih0 _ _ _ _ _ _
   | exact LeO.none _
   | refine LeO.ite ?_ ?_
   | refine LeO.bind ?_ (fun _ => ?_)
theorem i_contains.mono : ∀ a0 a1 a2 a3 k, LeO (i_contains.f k a0 a1 a2 a3) (i_contains.f (k + 1) a0 a1 a2 a3) := by
 intro a0 a1 a2 a3 k
 have ih0 := i_contains.mono_l k
 unfold i_contains.f
 repeat' first
   | (with_reducible exact ih0 _ _ _ _ _ _)
   | (with_reducible exact LeO.refl _)
   | (with_reducible exact LeO.none _)
   | (with_reducible refine LeO.ite ?_ ?_)
   | (with_reducible refine LeO.bind ?_ (fun _ => ?_))
   | exact ih0 _ _ _ _ _ _
   | exact LeO.none _
   | refine LeO.ite ?_ ?_
   | refine LeO.bind ?_ (fun _ => ?_)
set_option maxHeartbeats 8000000 in
set_option maxRecDepth 100000 in
theorem i_contains.calls (k : Nat) (A0 : Option Addr) (c0 : Nat) (l0 : List (S65)) (a1_0 : Int) (a1_1 : Int) (a1_2 : ByteArray) (r : Bool) (w : World) (hr0 : Kd.C k65 w A0 l0.length l0) (hc0 : l0.length ≤ c0) (h : i_contains.f k l0 a1_0 a1_1 a1_2 = some r) :
  Calls Try.prog 84 #[.slice A0 l0.length c0, .agg #[.int .i64 a1_0, .int .i64 a1_1, .string a1_2]] w fun e w' => e = .returned (.bool r) ∧ Below w.heap.size w w' := by
 have hu24 := Try.underlying24
 have hu65 := Try.underlying65
 have HR0 := Aside0.mk hr0
 have HC0 := Aside0.mk hc0
 clear hr0 hc0
 have HB := aK (Below.refl w.heap.size w)
 have H : (i_contains.l0 k l0 (l0.length : Int) 0 a1_0 a1_1 a1_2) = some r := h
 clear h
 have H' := Aside0.mk H
 clear H
 go_enter Try.func84, Try.ntmps84
 go_wp2_with (first | ((with_reducible refine gate_dst (N := 3) rfl ?_); refine box_event ?hg (N := 3) ?hd (cs := #[.int .i64 a1_0, .int .i64 a1_1, .string a1_2]) (t := 24) ?hr ?_; (case hd => rfl); (case hg => rfl); (case hr => exact hR); intro gb499 hg w3 hbox hb; have n0_ := aK (below_step bO hb); have n1_ := aK (hbox); have n2_ := aK ((by rw [hg]; exact (below_size bO) : w.heap.size ≤ gb499)); have n3_ := aK ((by rw [hg]; exact (below_size bO) : w.heap.size ≤ gb499)); clear HB; have HB := n0_; have BK499 := n1_; have GW499 := n2_; have GE499 := n3_; clear n0_ n1_ n2_ n3_ hb hbox hg))
 go_loopg [9] k (fun kq v9 w' => ∃ (x9_1 : Int), v9 = .int .i64 x9_1 ∧ Aside0 (i_contains.l0 kq l0 (l0.length : Int) x9_1 a1_0 a1_1 a1_2 = some r) ∧ Aside0 (kq ≤ k) ∧ Aside0 (w'.heap[gb499]? = some (.cells #[.int .i64 a1_0, .int .i64 a1_1, .string a1_2] 24 (0, 0))) ∧ Aside0 (Below w.heap.size w w'))
 case atStart => exact ⟨(0), (by first | rfl | (simp; done) | (simp [*]; done)), H', ⟨Nat.le_refl _⟩, ⟨bX BK499.out⟩, ⟨bS GE499.out⟩⟩
 case round =>
  clear H'
  try clear p2
  obtain ⟨x9_1, rfl, HA, HK1, BK499, HB⟩ := hrel
  cases gk with
  | zero => exact absurd HA.out (by simp [i_contains.l0])
  | succ k1 =>
   have H := HA.out
   clear HA
   simp only [i_contains.l0] at H
   by_cases c4 : x9_1 < (l0.length : Int)
   rotate_left
   ·rw [if_neg c4] at H
    have c4b0 : decide (x9_1 < (l0.length : Int)) = false := decide_eq_false c4
    clear c4
    obtain rfl := Option.some.inj H
    go_wp2
    go_ret
    exact ⟨eW, bS GE499.out⟩
   rw [if_pos c4] at H
   have c4b0 : decide (x9_1 < (l0.length : Int)) = true := decide_eq_true c4
   clear c4
   by_cases c5 : 0 ≤ x9_1
   rotate_left
   ·rw [if_neg c5] at H
    exact absurd H (by simp)
   rw [if_pos c5] at H
   have c5b0 : decide (0 ≤ x9_1) = true := decide_eq_true c5
   clear c5
   by_cases c6 : x9_1 < (l0.length : Int)
   rotate_left
   ·rw [if_neg c6] at H
    exact absurd H (by simp)
   rw [if_pos c6] at H
   have c6b0 : decide (x9_1 < (l0.length : Int)) = true := decide_eq_true c6
   clear c6
   obtain ⟨t502, A7, H⟩ := oB H
   try dsimp only at H
   by_cases c8 : t502 ≤ 0
   rotate_left
   ·rw [if_neg c8] at H
    have c8b0 : decide (t502 ≤ 0) = false := decide_eq_false c8
    clear c8
    have H' := Aside0.mk H
    clear H
    have p500 : 0 ≤ (x9_1 : Int) := of_decide_eq_true (aA)
    have q500 : x9_1 < (l0.length : Int) := of_decide_eq_true (aA)
    obtain ⟨ad500, e500, hx500_0, hx500_1, hx500_2, hx500_3, hx500_4, hx500_5, hx500_6⟩ := at_T65 HR0.out x9_1 p500 q500
    cases e500
    replace hx500_0 := hW HB.out hx500_0
    replace hx500_1 := hW HB.out hx500_1
    replace hx500_2 := hW HB.out hx500_2
    replace hx500_3 := hW HB.out hx500_3
    replace hx500_4 := hW HB.out hx500_4
    replace hx500_5 := hW HB.out hx500_5
    replace hx500_6 := hW HB.out hx500_6
    replace p500 := eq_true p500
    replace q500 := eq_true q500
    go_wp2_with (first | ((with_reducible refine gate_dst (N := 6) rfl ?_); refine box_event ?hg (N := 6) ?hd (cs := #[.int .i64 0, .int .i64 0, .string (⟨#[]⟩ : ByteArray), .int .i64 0, .int .i64 0, .string (⟨#[]⟩ : ByteArray), .bool false]) (t := 65) ?hr ?_; (case hd => rfl); (case hg => rfl); (case hr => exact hR); intro gb501 hg w35 hbox hb; have n0_ := aK (blk_below (bX BK499.out) hb); have n1_ := aK (below_step (bS GE499.out) hb); have n2_ := aK (hbox); have n3_ := aK ((by rw [hg]; exact (below_size (bS GE499.out)) : w.heap.size ≤ gb501)); have n4_ := aK ((by rw [hg]; exact (below_size (bS GE499.out)) : w.heap.size ≤ gb501)); have n5_ := aK ((by rw [hg]; exact Nat.ne_of_lt (blk_lt (bX BK499.out)) : gb499 ≠ gb501)); have n6_ := aK ((by rw [hg]; exact Nat.ne_of_gt (blk_lt (bX BK499.out)) : gb501 ≠ gb499)); clear BK499 HB; have BK499 := n0_; have HB := n1_; have BK501 := n2_; have GW501 := n3_; have GE501 := n4_; have NB499_501 := n5_; have NB501_499 := n6_; clear n0_ n1_ n2_ n3_ n4_ n5_ n6_ hb hbox hg; have hnb36 := NB501_499.out; have hnc36 := NB499_501.out; obtain ⟨hcz37_0, hcz37_1, hcz37_2, hcz37_3, hcz37_4, hcz37_5, hcz37_6⟩ := z7 BK501.out (.int .i64 0) (.int .i64 0) (.string (⟨#[]⟩ : ByteArray)) (.int .i64 0) (.int .i64 0) (.string (⟨#[]⟩ : ByteArray)) (.bool false); obtain ⟨hfz37_0, hfz37_1, hfz37_2, hfz37_3, hfz37_4, hfz37_5, hfz37_6⟩ := f7 BK501.out; obtain ⟨hcz38_0, hcz38_1, hcz38_2⟩ := z3 BK499.out (.int .i64 a1_0) (.int .i64 a1_1) (.string a1_2); obtain ⟨hfz38_0, hfz38_1, hfz38_2⟩ := f3 BK499.out) | ((with_reducible refine gate_callee (f := 25) rfl ?_); refine gL (some 16) rfl Try.func25 #[.agg #[.int .i64 ((rd_T65 l0 x9_1).f0.f0), .int .i64 ((rd_T65 l0 x9_1).f0.f1), .string ((rd_T65 l0 x9_1).f0.f2)], .agg #[.int .i64 a1_0, .int .i64 a1_1, .string a1_2]] rfl ?_; (with_reducible refine (v_Compare.calls ((rd_T65 l0 x9_1).f0.f0) ((rd_T65 l0 x9_1).f0.f1) ((rd_T65 l0 x9_1).f0.f2) a1_0 a1_1 a1_2 t502 _ A7.out).mono ?_); rintro e w39 ⟨rfl, hb⟩; refine ⟨_, rfl, ?_⟩; have n0_ := aK (blk_below (g := gb499) (o := .cells #[.int .i64 a1_0, .int .i64 a1_1, .string a1_2] 24 (0, 0)) (by (with_reducible repeat (first | refine blk_drewN ?_ _ | refine blk_drew ?_ | refine blk_alloc ?_ _)); refine blk_far ?_ NB499_501.out _; (with_reducible repeat (first | refine blk_drewN ?_ _ | refine blk_drew ?_ | refine blk_alloc ?_ _)); refine blk_far ?_ NB499_501.out _; (with_reducible repeat (first | refine blk_drewN ?_ _ | refine blk_drew ?_ | refine blk_alloc ?_ _)); refine blk_far ?_ NB499_501.out _; (with_reducible repeat (first | refine blk_drewN ?_ _ | refine blk_drew ?_ | refine blk_alloc ?_ _)); refine blk_far ?_ NB499_501.out _; (with_reducible repeat (first | refine blk_drewN ?_ _ | refine blk_drew ?_ | refine blk_alloc ?_ _)); refine blk_far ?_ NB499_501.out _; (with_reducible repeat (first | refine blk_drewN ?_ _ | refine blk_drew ?_ | refine blk_alloc ?_ _)); refine blk_far ?_ NB499_501.out _; (with_reducible repeat (first | refine blk_drewN ?_ _ | refine blk_drew ?_ | refine blk_alloc ?_ _)); refine blk_far ?_ NB499_501.out _; (with_reducible repeat (first | refine blk_drewN ?_ _ | refine blk_drew ?_ | refine blk_alloc ?_ _)); exact BK499.out) hb); have n1_ := aK (blk_below (g := gb501) (o := .cells #[.int .i64 ((rd_T65 l0 x9_1).f0.f0), .int .i64 ((rd_T65 l0 x9_1).f0.f1), .string ((rd_T65 l0 x9_1).f0.f2), .int .i64 ((rd_T65 l0 x9_1).f1.f0), .int .i64 ((rd_T65 l0 x9_1).f1.f1), .string ((rd_T65 l0 x9_1).f1.f2), .bool ((rd_T65 l0 x9_1).f2)] 65 (0, 0)) (put7 BK501.out) hb); have n2_ := aK (below_step (bT GE499.out GE501.out) hb); clear BK499 BK501 HB; have BK499 := n0_; have BK501 := n1_; have HB := n2_; clear n0_ n1_ n2_; (try clear hb)))
    go_roundg k1
    case measure => have := HK1.out; omega
    case rel => exact ⟨(wrap64 (x9_1 + 1)), (by first | rfl | (simp; done) | (simp [*]; done)), H', ⟨by have := HK1.out; omega⟩, ⟨bX BK499.out⟩, ⟨bT GE499.out GE501.out⟩⟩
   rw [if_pos c8] at H
   have c8b0 : decide (t502 ≤ 0) = true := decide_eq_true c8
   clear c8
   obtain ⟨bq9, hbq9⟩ : ∃ b_ : Bool, b_ = ((rd_T65 l0 x9_1).f2) := ⟨_, rfl⟩
   replace H : (if bq9 = true then (some true) else ((v_Compare.f a1_0 a1_1 a1_2 ((rd_T65 l0 x9_1).f1.f0) ((rd_T65 l0 x9_1).f1.f1) ((rd_T65 l0 x9_1).f1.f2)).bind fun t503 => (if t503 < 0 then (some true) else (i_contains.l0 k1 l0 (l0.length : Int) (wrap64 (x9_1 + 1)) a1_0 a1_1 a1_2)))) = some r := by rw [← hbq9] at H; exact H
   have Nbq9 := Aside0.mk hbq9
   clear hbq9
   by_cases c10 : bq9 = true
   rotate_left
   ·replace c10 := Bool.eq_false_iff.mpr c10
    subst c10
    rw [if_neg (show ¬ (false = true) by decide)] at H
    obtain ⟨t503, A17, H⟩ := oB H
    try dsimp only at H
    by_cases c18 : t503 < 0
    rotate_left
    ·rw [if_neg c18] at H
     have c18b0 : decide (t503 < 0) = false := decide_eq_false c18
     clear c18
     have H' := Aside0.mk H
     clear H
     have p500 : 0 ≤ (x9_1 : Int) := of_decide_eq_true (aA)
     have q500 : x9_1 < (l0.length : Int) := of_decide_eq_true (aA)
     obtain ⟨ad500, e500, hx500_0, hx500_1, hx500_2, hx500_3, hx500_4, hx500_5, hx500_6⟩ := at_T65 HR0.out x9_1 p500 q500
     (try rw [← Nbq9.out] at hx500_6)
     cases e500
     replace hx500_0 := hW HB.out hx500_0
     replace hx500_1 := hW HB.out hx500_1
     replace hx500_2 := hW HB.out hx500_2
     replace hx500_3 := hW HB.out hx500_3
     replace hx500_4 := hW HB.out hx500_4
     replace hx500_5 := hW HB.out hx500_5
     replace hx500_6 := hW HB.out hx500_6
     replace p500 := eq_true p500
     replace q500 := eq_true q500
     go_wp2_with (first | ((with_reducible refine gate_dst (N := 6) rfl ?_); refine box_event ?hg (N := 6) ?hd (cs := #[.int .i64 0, .int .i64 0, .string (⟨#[]⟩ : ByteArray), .int .i64 0, .int .i64 0, .string (⟨#[]⟩ : ByteArray), .bool false]) (t := 65) ?hr ?_; (case hd => rfl); (case hg => rfl); (case hr => exact hR); intro gb501 hg w27 hbox hb; have n0_ := aK (blk_below (bX BK499.out) hb); have n1_ := aK (below_step (bS GE499.out) hb); have n2_ := aK (hbox); have n3_ := aK ((by rw [hg]; exact (below_size (bS GE499.out)) : w.heap.size ≤ gb501)); have n4_ := aK ((by rw [hg]; exact (below_size (bS GE499.out)) : w.heap.size ≤ gb501)); have n5_ := aK ((by rw [hg]; exact Nat.ne_of_lt (blk_lt (bX BK499.out)) : gb499 ≠ gb501)); have n6_ := aK ((by rw [hg]; exact Nat.ne_of_gt (blk_lt (bX BK499.out)) : gb501 ≠ gb499)); clear BK499 HB; have BK499 := n0_; have HB := n1_; have BK501 := n2_; have GW501 := n3_; have GE501 := n4_; have NB499_501 := n5_; have NB501_499 := n6_; clear n0_ n1_ n2_ n3_ n4_ n5_ n6_ hb hbox hg; have hnb28 := NB501_499.out; have hnc28 := NB499_501.out; obtain ⟨hcz29_0, hcz29_1, hcz29_2, hcz29_3, hcz29_4, hcz29_5, hcz29_6⟩ := z7 BK501.out (.int .i64 0) (.int .i64 0) (.string (⟨#[]⟩ : ByteArray)) (.int .i64 0) (.int .i64 0) (.string (⟨#[]⟩ : ByteArray)) (.bool false); obtain ⟨hfz29_0, hfz29_1, hfz29_2, hfz29_3, hfz29_4, hfz29_5, hfz29_6⟩ := f7 BK501.out; obtain ⟨hcz30_0, hcz30_1, hcz30_2⟩ := z3 BK499.out (.int .i64 a1_0) (.int .i64 a1_1) (.string a1_2); obtain ⟨hfz30_0, hfz30_1, hfz30_2⟩ := f3 BK499.out) | ((with_reducible refine gate_callee (f := 25) rfl ?_); refine gL (some 16) rfl Try.func25 #[.agg #[.int .i64 ((rd_T65 l0 x9_1).f0.f0), .int .i64 ((rd_T65 l0 x9_1).f0.f1), .string ((rd_T65 l0 x9_1).f0.f2)], .agg #[.int .i64 a1_0, .int .i64 a1_1, .string a1_2]] rfl ?_; (with_reducible refine (v_Compare.calls ((rd_T65 l0 x9_1).f0.f0) ((rd_T65 l0 x9_1).f0.f1) ((rd_T65 l0 x9_1).f0.f2) a1_0 a1_1 a1_2 t502 _ A7.out).mono ?_); rintro e w31 ⟨rfl, hb⟩; refine ⟨_, rfl, ?_⟩; have n0_ := aK (blk_below (g := gb499) (o := .cells #[.int .i64 a1_0, .int .i64 a1_1, .string a1_2] 24 (0, 0)) (by (with_reducible repeat (first | refine blk_drewN ?_ _ | refine blk_drew ?_ | refine blk_alloc ?_ _)); refine blk_far ?_ NB499_501.out _; (with_reducible repeat (first | refine blk_drewN ?_ _ | refine blk_drew ?_ | refine blk_alloc ?_ _)); refine blk_far ?_ NB499_501.out _; (with_reducible repeat (first | refine blk_drewN ?_ _ | refine blk_drew ?_ | refine blk_alloc ?_ _)); refine blk_far ?_ NB499_501.out _; (with_reducible repeat (first | refine blk_drewN ?_ _ | refine blk_drew ?_ | refine blk_alloc ?_ _)); refine blk_far ?_ NB499_501.out _; (with_reducible repeat (first | refine blk_drewN ?_ _ | refine blk_drew ?_ | refine blk_alloc ?_ _)); refine blk_far ?_ NB499_501.out _; (with_reducible repeat (first | refine blk_drewN ?_ _ | refine blk_drew ?_ | refine blk_alloc ?_ _)); refine blk_far ?_ NB499_501.out _; (with_reducible repeat (first | refine blk_drewN ?_ _ | refine blk_drew ?_ | refine blk_alloc ?_ _)); refine blk_far ?_ NB499_501.out _; (with_reducible repeat (first | refine blk_drewN ?_ _ | refine blk_drew ?_ | refine blk_alloc ?_ _)); exact BK499.out) hb); have n1_ := aK (blk_below (g := gb501) (o := .cells #[.int .i64 ((rd_T65 l0 x9_1).f0.f0), .int .i64 ((rd_T65 l0 x9_1).f0.f1), .string ((rd_T65 l0 x9_1).f0.f2), .int .i64 ((rd_T65 l0 x9_1).f1.f0), .int .i64 ((rd_T65 l0 x9_1).f1.f1), .string ((rd_T65 l0 x9_1).f1.f2), .bool false] 65 (0, 0)) (put7 BK501.out) hb); have n2_ := aK (below_step (bT GE499.out GE501.out) hb); clear BK499 BK501 HB; have BK499 := n0_; have BK501 := n1_; have HB := n2_; clear n0_ n1_ n2_; (try clear hb); obtain ⟨hcz32_0, hcz32_1, hcz32_2, hcz32_3, hcz32_4, hcz32_5, hcz32_6⟩ := z7 BK501.out (.int .i64 ((rd_T65 l0 x9_1).f0.f0)) (.int .i64 ((rd_T65 l0 x9_1).f0.f1)) (.string ((rd_T65 l0 x9_1).f0.f2)) (.int .i64 ((rd_T65 l0 x9_1).f1.f0)) (.int .i64 ((rd_T65 l0 x9_1).f1.f1)) (.string ((rd_T65 l0 x9_1).f1.f2)) (.bool false); obtain ⟨hfz32_0, hfz32_1, hfz32_2, hfz32_3, hfz32_4, hfz32_5, hfz32_6⟩ := f7 BK501.out; obtain ⟨hcz33_0, hcz33_1, hcz33_2⟩ := z3 BK499.out (.int .i64 a1_0) (.int .i64 a1_1) (.string a1_2); obtain ⟨hfz33_0, hfz33_1, hfz33_2⟩ := f3 BK499.out) | (go_at_call 25; (with_reducible refine (v_Compare.calls a1_0 a1_1 a1_2 ((rd_T65 l0 x9_1).f1.f0) ((rd_T65 l0 x9_1).f1.f1) ((rd_T65 l0 x9_1).f1.f2) t503 _ A17.out).mono ?_); rintro e w34 ⟨rfl, hb⟩; have n0_ := aK (blk_below (bX BK499.out) hb); have n1_ := aK (blk_below (bX BK501.out) hb); have n2_ := aK (below_step (bT GE499.out GE501.out) hb); clear BK499 BK501 HB; have BK499 := n0_; have BK501 := n1_; have HB := n2_; clear n0_ n1_ n2_; (try clear hb)))
     go_roundg k1
     case measure => have := HK1.out; omega
     case rel => exact ⟨(wrap64 (x9_1 + 1)), (by first | rfl | (simp; done) | (simp [*]; done)), H', ⟨by have := HK1.out; omega⟩, ⟨bX BK499.out⟩, ⟨bT GE499.out GE501.out⟩⟩
    rw [if_pos c18] at H
    have c18b0 : decide (t503 < 0) = true := decide_eq_true c18
    clear c18
    obtain rfl := Option.some.inj H
    have p500 : 0 ≤ (x9_1 : Int) := of_decide_eq_true (aA)
    have q500 : x9_1 < (l0.length : Int) := of_decide_eq_true (aA)
    obtain ⟨ad500, e500, hx500_0, hx500_1, hx500_2, hx500_3, hx500_4, hx500_5, hx500_6⟩ := at_T65 HR0.out x9_1 p500 q500
    (try rw [← Nbq9.out] at hx500_6)
    cases e500
    replace hx500_0 := hW HB.out hx500_0
    replace hx500_1 := hW HB.out hx500_1
    replace hx500_2 := hW HB.out hx500_2
    replace hx500_3 := hW HB.out hx500_3
    replace hx500_4 := hW HB.out hx500_4
    replace hx500_5 := hW HB.out hx500_5
    replace hx500_6 := hW HB.out hx500_6
    replace p500 := eq_true p500
    replace q500 := eq_true q500
    go_wp2_with (first | ((with_reducible refine gate_dst (N := 6) rfl ?_); refine box_event ?hg (N := 6) ?hd (cs := #[.int .i64 0, .int .i64 0, .string (⟨#[]⟩ : ByteArray), .int .i64 0, .int .i64 0, .string (⟨#[]⟩ : ByteArray), .bool false]) (t := 65) ?hr ?_; (case hd => rfl); (case hg => rfl); (case hr => exact hR); intro gb501 hg w19 hbox hb; have n0_ := aK (blk_below (bX BK499.out) hb); have n1_ := aK (below_step (bS GE499.out) hb); have n2_ := aK (hbox); have n3_ := aK ((by rw [hg]; exact (below_size (bS GE499.out)) : w.heap.size ≤ gb501)); have n4_ := aK ((by rw [hg]; exact (below_size (bS GE499.out)) : w.heap.size ≤ gb501)); have n5_ := aK ((by rw [hg]; exact Nat.ne_of_lt (blk_lt (bX BK499.out)) : gb499 ≠ gb501)); have n6_ := aK ((by rw [hg]; exact Nat.ne_of_gt (blk_lt (bX BK499.out)) : gb501 ≠ gb499)); clear BK499 HB; have BK499 := n0_; have HB := n1_; have BK501 := n2_; have GW501 := n3_; have GE501 := n4_; have NB499_501 := n5_; have NB501_499 := n6_; clear n0_ n1_ n2_ n3_ n4_ n5_ n6_ hb hbox hg; have hnb20 := NB501_499.out; have hnc20 := NB499_501.out; obtain ⟨hcz21_0, hcz21_1, hcz21_2, hcz21_3, hcz21_4, hcz21_5, hcz21_6⟩ := z7 BK501.out (.int .i64 0) (.int .i64 0) (.string (⟨#[]⟩ : ByteArray)) (.int .i64 0) (.int .i64 0) (.string (⟨#[]⟩ : ByteArray)) (.bool false); obtain ⟨hfz21_0, hfz21_1, hfz21_2, hfz21_3, hfz21_4, hfz21_5, hfz21_6⟩ := f7 BK501.out; obtain ⟨hcz22_0, hcz22_1, hcz22_2⟩ := z3 BK499.out (.int .i64 a1_0) (.int .i64 a1_1) (.string a1_2); obtain ⟨hfz22_0, hfz22_1, hfz22_2⟩ := f3 BK499.out) | ((with_reducible refine gate_callee (f := 25) rfl ?_); refine gL (some 16) rfl Try.func25 #[.agg #[.int .i64 ((rd_T65 l0 x9_1).f0.f0), .int .i64 ((rd_T65 l0 x9_1).f0.f1), .string ((rd_T65 l0 x9_1).f0.f2)], .agg #[.int .i64 a1_0, .int .i64 a1_1, .string a1_2]] rfl ?_; (with_reducible refine (v_Compare.calls ((rd_T65 l0 x9_1).f0.f0) ((rd_T65 l0 x9_1).f0.f1) ((rd_T65 l0 x9_1).f0.f2) a1_0 a1_1 a1_2 t502 _ A7.out).mono ?_); rintro e w23 ⟨rfl, hb⟩; refine ⟨_, rfl, ?_⟩; have n0_ := aK (blk_below (g := gb499) (o := .cells #[.int .i64 a1_0, .int .i64 a1_1, .string a1_2] 24 (0, 0)) (by (with_reducible repeat (first | refine blk_drewN ?_ _ | refine blk_drew ?_ | refine blk_alloc ?_ _)); refine blk_far ?_ NB499_501.out _; (with_reducible repeat (first | refine blk_drewN ?_ _ | refine blk_drew ?_ | refine blk_alloc ?_ _)); refine blk_far ?_ NB499_501.out _; (with_reducible repeat (first | refine blk_drewN ?_ _ | refine blk_drew ?_ | refine blk_alloc ?_ _)); refine blk_far ?_ NB499_501.out _; (with_reducible repeat (first | refine blk_drewN ?_ _ | refine blk_drew ?_ | refine blk_alloc ?_ _)); refine blk_far ?_ NB499_501.out _; (with_reducible repeat (first | refine blk_drewN ?_ _ | refine blk_drew ?_ | refine blk_alloc ?_ _)); refine blk_far ?_ NB499_501.out _; (with_reducible repeat (first | refine blk_drewN ?_ _ | refine blk_drew ?_ | refine blk_alloc ?_ _)); refine blk_far ?_ NB499_501.out _; (with_reducible repeat (first | refine blk_drewN ?_ _ | refine blk_drew ?_ | refine blk_alloc ?_ _)); refine blk_far ?_ NB499_501.out _; (with_reducible repeat (first | refine blk_drewN ?_ _ | refine blk_drew ?_ | refine blk_alloc ?_ _)); exact BK499.out) hb); have n1_ := aK (blk_below (g := gb501) (o := .cells #[.int .i64 ((rd_T65 l0 x9_1).f0.f0), .int .i64 ((rd_T65 l0 x9_1).f0.f1), .string ((rd_T65 l0 x9_1).f0.f2), .int .i64 ((rd_T65 l0 x9_1).f1.f0), .int .i64 ((rd_T65 l0 x9_1).f1.f1), .string ((rd_T65 l0 x9_1).f1.f2), .bool false] 65 (0, 0)) (put7 BK501.out) hb); have n2_ := aK (below_step (bT GE499.out GE501.out) hb); clear BK499 BK501 HB; have BK499 := n0_; have BK501 := n1_; have HB := n2_; clear n0_ n1_ n2_; (try clear hb); obtain ⟨hcz24_0, hcz24_1, hcz24_2, hcz24_3, hcz24_4, hcz24_5, hcz24_6⟩ := z7 BK501.out (.int .i64 ((rd_T65 l0 x9_1).f0.f0)) (.int .i64 ((rd_T65 l0 x9_1).f0.f1)) (.string ((rd_T65 l0 x9_1).f0.f2)) (.int .i64 ((rd_T65 l0 x9_1).f1.f0)) (.int .i64 ((rd_T65 l0 x9_1).f1.f1)) (.string ((rd_T65 l0 x9_1).f1.f2)) (.bool false); obtain ⟨hfz24_0, hfz24_1, hfz24_2, hfz24_3, hfz24_4, hfz24_5, hfz24_6⟩ := f7 BK501.out; obtain ⟨hcz25_0, hcz25_1, hcz25_2⟩ := z3 BK499.out (.int .i64 a1_0) (.int .i64 a1_1) (.string a1_2); obtain ⟨hfz25_0, hfz25_1, hfz25_2⟩ := f3 BK499.out) | (go_at_call 25; (with_reducible refine (v_Compare.calls a1_0 a1_1 a1_2 ((rd_T65 l0 x9_1).f1.f0) ((rd_T65 l0 x9_1).f1.f1) ((rd_T65 l0 x9_1).f1.f2) t503 _ A17.out).mono ?_); rintro e w26 ⟨rfl, hb⟩; have n0_ := aK (blk_below (bX BK499.out) hb); have n1_ := aK (blk_below (bX BK501.out) hb); have n2_ := aK (below_step (bT GE499.out GE501.out) hb); clear BK499 BK501 HB; have BK499 := n0_; have BK501 := n1_; have HB := n2_; clear n0_ n1_ n2_; (try clear hb)))
    go_ret
    exact ⟨eW, bT GE499.out GE501.out⟩
   subst c10
   rw [if_pos rfl] at H
   obtain rfl := Option.some.inj H
   have p500 : 0 ≤ (x9_1 : Int) := of_decide_eq_true (aA)
   have q500 : x9_1 < (l0.length : Int) := of_decide_eq_true (aA)
   obtain ⟨ad500, e500, hx500_0, hx500_1, hx500_2, hx500_3, hx500_4, hx500_5, hx500_6⟩ := at_T65 HR0.out x9_1 p500 q500
   (try rw [← Nbq9.out] at hx500_6)
   cases e500
   replace hx500_0 := hW HB.out hx500_0
   replace hx500_1 := hW HB.out hx500_1
   replace hx500_2 := hW HB.out hx500_2
   replace hx500_3 := hW HB.out hx500_3
   replace hx500_4 := hW HB.out hx500_4
   replace hx500_5 := hW HB.out hx500_5
   replace hx500_6 := hW HB.out hx500_6
   replace p500 := eq_true p500
   replace q500 := eq_true q500
   go_wp2_with (first | ((with_reducible refine gate_dst (N := 6) rfl ?_); refine box_event ?hg (N := 6) ?hd (cs := #[.int .i64 0, .int .i64 0, .string (⟨#[]⟩ : ByteArray), .int .i64 0, .int .i64 0, .string (⟨#[]⟩ : ByteArray), .bool false]) (t := 65) ?hr ?_; (case hd => rfl); (case hg => rfl); (case hr => exact hR); intro gb501 hg w11 hbox hb; have n0_ := aK (blk_below (bX BK499.out) hb); have n1_ := aK (below_step (bS GE499.out) hb); have n2_ := aK (hbox); have n3_ := aK ((by rw [hg]; exact (below_size (bS GE499.out)) : w.heap.size ≤ gb501)); have n4_ := aK ((by rw [hg]; exact (below_size (bS GE499.out)) : w.heap.size ≤ gb501)); have n5_ := aK ((by rw [hg]; exact Nat.ne_of_lt (blk_lt (bX BK499.out)) : gb499 ≠ gb501)); have n6_ := aK ((by rw [hg]; exact Nat.ne_of_gt (blk_lt (bX BK499.out)) : gb501 ≠ gb499)); clear BK499 HB; have BK499 := n0_; have HB := n1_; have BK501 := n2_; have GW501 := n3_; have GE501 := n4_; have NB499_501 := n5_; have NB501_499 := n6_; clear n0_ n1_ n2_ n3_ n4_ n5_ n6_ hb hbox hg; have hnb12 := NB501_499.out; have hnc12 := NB499_501.out; obtain ⟨hcz13_0, hcz13_1, hcz13_2, hcz13_3, hcz13_4, hcz13_5, hcz13_6⟩ := z7 BK501.out (.int .i64 0) (.int .i64 0) (.string (⟨#[]⟩ : ByteArray)) (.int .i64 0) (.int .i64 0) (.string (⟨#[]⟩ : ByteArray)) (.bool false); obtain ⟨hfz13_0, hfz13_1, hfz13_2, hfz13_3, hfz13_4, hfz13_5, hfz13_6⟩ := f7 BK501.out; obtain ⟨hcz14_0, hcz14_1, hcz14_2⟩ := z3 BK499.out (.int .i64 a1_0) (.int .i64 a1_1) (.string a1_2); obtain ⟨hfz14_0, hfz14_1, hfz14_2⟩ := f3 BK499.out) | ((with_reducible refine gate_callee (f := 25) rfl ?_); refine gL (some 16) rfl Try.func25 #[.agg #[.int .i64 ((rd_T65 l0 x9_1).f0.f0), .int .i64 ((rd_T65 l0 x9_1).f0.f1), .string ((rd_T65 l0 x9_1).f0.f2)], .agg #[.int .i64 a1_0, .int .i64 a1_1, .string a1_2]] rfl ?_; (with_reducible refine (v_Compare.calls ((rd_T65 l0 x9_1).f0.f0) ((rd_T65 l0 x9_1).f0.f1) ((rd_T65 l0 x9_1).f0.f2) a1_0 a1_1 a1_2 t502 _ A7.out).mono ?_); rintro e w15 ⟨rfl, hb⟩; refine ⟨_, rfl, ?_⟩; have n0_ := aK (blk_below (g := gb499) (o := .cells #[.int .i64 a1_0, .int .i64 a1_1, .string a1_2] 24 (0, 0)) (by (with_reducible repeat (first | refine blk_drewN ?_ _ | refine blk_drew ?_ | refine blk_alloc ?_ _)); refine blk_far ?_ NB499_501.out _; (with_reducible repeat (first | refine blk_drewN ?_ _ | refine blk_drew ?_ | refine blk_alloc ?_ _)); refine blk_far ?_ NB499_501.out _; (with_reducible repeat (first | refine blk_drewN ?_ _ | refine blk_drew ?_ | refine blk_alloc ?_ _)); refine blk_far ?_ NB499_501.out _; (with_reducible repeat (first | refine blk_drewN ?_ _ | refine blk_drew ?_ | refine blk_alloc ?_ _)); refine blk_far ?_ NB499_501.out _; (with_reducible repeat (first | refine blk_drewN ?_ _ | refine blk_drew ?_ | refine blk_alloc ?_ _)); refine blk_far ?_ NB499_501.out _; (with_reducible repeat (first | refine blk_drewN ?_ _ | refine blk_drew ?_ | refine blk_alloc ?_ _)); refine blk_far ?_ NB499_501.out _; (with_reducible repeat (first | refine blk_drewN ?_ _ | refine blk_drew ?_ | refine blk_alloc ?_ _)); refine blk_far ?_ NB499_501.out _; (with_reducible repeat (first | refine blk_drewN ?_ _ | refine blk_drew ?_ | refine blk_alloc ?_ _)); exact BK499.out) hb); have n1_ := aK (blk_below (g := gb501) (o := .cells #[.int .i64 ((rd_T65 l0 x9_1).f0.f0), .int .i64 ((rd_T65 l0 x9_1).f0.f1), .string ((rd_T65 l0 x9_1).f0.f2), .int .i64 ((rd_T65 l0 x9_1).f1.f0), .int .i64 ((rd_T65 l0 x9_1).f1.f1), .string ((rd_T65 l0 x9_1).f1.f2), .bool true] 65 (0, 0)) (put7 BK501.out) hb); have n2_ := aK (below_step (bT GE499.out GE501.out) hb); clear BK499 BK501 HB; have BK499 := n0_; have BK501 := n1_; have HB := n2_; clear n0_ n1_ n2_; (try clear hb); obtain ⟨hcz16_0, hcz16_1, hcz16_2, hcz16_3, hcz16_4, hcz16_5, hcz16_6⟩ := z7 BK501.out (.int .i64 ((rd_T65 l0 x9_1).f0.f0)) (.int .i64 ((rd_T65 l0 x9_1).f0.f1)) (.string ((rd_T65 l0 x9_1).f0.f2)) (.int .i64 ((rd_T65 l0 x9_1).f1.f0)) (.int .i64 ((rd_T65 l0 x9_1).f1.f1)) (.string ((rd_T65 l0 x9_1).f1.f2)) (.bool true); obtain ⟨hfz16_0, hfz16_1, hfz16_2, hfz16_3, hfz16_4, hfz16_5, hfz16_6⟩ := f7 BK501.out))
   go_ret
   exact ⟨eW, bT GE499.out GE501.out⟩
def i_least.f  : Option (Int × Int × ByteArray) := some (1, 0, (⟨#[]⟩ : ByteArray))
set_option maxHeartbeats 8000000 in
set_option maxRecDepth 100000 in
theorem i_least.calls  (r1 : Int) (r2 : Int) (r3 : ByteArray) (w : World) (h : i_least.f  = some (r1, r2, r3)) :
  Calls Try.prog 86 #[] w fun e w' => e = .returned (.agg #[.int .i64 r1, .int .i64 r2, .string r3]) ∧ Below w.heap.size w w' := by
 have hu24 := Try.underlying24
 have HB := aK (Below.refl w.heap.size w)
 have H : (some (1, 0, (⟨#[]⟩ : ByteArray))) = some (r1, r2, r3) := h
 clear h
 simp only [Option.some.injEq, Prod.mk.injEq] at H
 obtain ⟨rfl, rfl, rfl⟩ := H
 go_enter Try.func86, Try.ntmps86
 go_wp2_with (first | ((with_reducible refine gate_dst (N := 0) rfl ?_); refine box_event ?hg (N := 0) ?hd (cs := #[.int .i64 0, .int .i64 0, .string (⟨#[]⟩ : ByteArray)]) (t := 24) ?hr ?_; (case hd => rfl); (case hg => rfl); (case hr => exact hR); intro gb504 hg w1 hbox hb; have n0_ := aK (below_step bO hb); have n1_ := aK (hbox); have n2_ := aK ((by rw [hg]; exact (below_size bO) : w.heap.size ≤ gb504)); have n3_ := aK ((by rw [hg]; exact (below_size bO) : w.heap.size ≤ gb504)); clear HB; have HB := n0_; have BK504 := n1_; have GW504 := n2_; have GE504 := n3_; clear n0_ n1_ n2_ n3_ hb hbox hg; obtain ⟨hcz2_0, hcz2_1, hcz2_2⟩ := z3 BK504.out (.int .i64 0) (.int .i64 0) (.string (⟨#[]⟩ : ByteArray)); obtain ⟨hfz2_0, hfz2_1, hfz2_2⟩ := f3 BK504.out))
 refine bodyPost_ret (results_cell_row rfl _ _ gb504 24 #[.int .i64 1, .int .i64 0, .string (⟨#[]⟩ : ByteArray)] (0, 0) _ rfl (put3 BK504.out) Try.underlying24 rfl (by kernel_rfl)) rfl ?_
 exact ⟨eW, bS GE504.out⟩
end Go.Proofs.Ytpjcdacnhalclaa.Q
namespace Go.Proofs.Ytpjcdacnhalclaa.Q
open Go.RowKit Go.Proofs.YtpjcdacnhalclaaW.PrintWords Go.Proofs.YtpjcdacnhalclaaW.PrintLast Go.Proofs.YtpjcdacnhalclaaW.PrintMore
attribute [local go_sem] max2_int min2_int max_two min_two max_three min_three max_four min_four
def kOr (x y : Bool) : Bool := x || y
def kAnd (x y : Bool) : Bool := x && y
def kMinus (x y : Bool) : Bool := x && !y
structure IsKeep (fk : Nat) (kp : Bool → Bool → Bool) : Prop where
 enters : ∀ args w, (callFunc fk args).run Try.prog w = .ok (.enter fk args) w
 tells : ∀ (x y z : Bool) (w : World), some (kp x y) = some z → Calls Try.prog fk #[.bool x, .bool y] w fun e w' => e = .returned (.bool z) ∧ Drawn0 w w'
theorem keep78 : IsKeep 78 kOr where
 enters := enters_of Try.func78 (by kernel_rfl) rfl
 tells x y z w h := by
  obtain rfl := Option.some.inj h
  cases x <;> cases y <;> go_enter Try.func78, Try.ntmps78 <;> go_wp2 <;> go_ret <;> exact ⟨rfl, by repeat (first | exact Drawn0.refl _ | apply Drawn0.step)⟩
section
variable {P : Program} {ops : Array Oper} {Q : Exit → Act → World → Prop}
theorem goesF_ {oi : Oper} {N : Option Tmp} {a : Act} {w : World} {K : Act → World → Prop} {f : FuncId} {o : Operand} {xs : Array Operand} {ts : Array TypeId} (he : ∀ args w, (callFunc f args).run P w = .ok (.enter f args) w) (ho : a.eval o = .func (.func f) #[] #[]) (args : Array Value)
  (hw : Region.wanted oi (yielded ops a.tmps) = true) (hN : oi.dst = N) (hop : oi.op = .call { callee := .value o, args := xs, argTypes := ts }) (hargs : xs.map a.eval = args)
  (h : Calls P f args w fun e w' => ∃ v, e = .returned v ∧ K (a.put N v) w') : if Region.wanted oi (yielded ops a.tmps) = true then Oper.wp P oi a w K Q else K (a.put N undef) w := by
 refine call_ f args hw hN ?_ h
 have he' := he args w
 unfold execOp
 simp [hop, resolve, Deferred.ofValue, invoke, ho, hargs, he']
end
end Go.Proofs.Ytpjcdacnhalclaa.Q
