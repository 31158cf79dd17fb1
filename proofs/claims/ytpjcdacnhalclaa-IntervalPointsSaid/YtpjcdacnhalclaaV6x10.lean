/- A part of a proof: facts of functions that the law calls; conditions stand in each. -/
import Derived.Test.YtpjcdacnhalclaaV6x2
import Derived.Test.YtpjcdacnhalclaaV6x8
import Derived.Shelf.SlSortCmp.WholeK
import Derived.Shelf.SlSortCmp.Whole1
import Derived.Test.YtpjcdacnhalclaaV6x4
import Derived.Laws.CopyOwn
import Derived.Lib.SlBuf
set_option linter.unusedVariables false
set_option linter.unusedSimpArgs false
namespace Go.Proofs.Ytpjcdacnhalclaa.Q
open Go.RowKit Go.Proofs.YtpjcdacnhalclaaW.PrintWords Go.Proofs.YtpjcdacnhalclaaW.PrintLast Go.Proofs.YtpjcdacnhalclaaW.PrintMore
attribute [local go_sem] max2_int min2_int max_two min_two max_three min_three max_four min_four
def r3_In.l0 : Nat → List (S65) → Int → Int → Int → Int → ByteArray → Option (Bool)
 | 0, _, _, _, _, _, _ => none
 | k + 1, x7, x8, x9, x374000, x374001, x374002 => if x9 < x8 then (if 0 ≤ x9 then (if x9 < (x7.length : Int) then ((r1_Compare.f ((rd_T65 x7 x9).f0.f0) ((rd_T65 x7 x9).f0.f1) ((rd_T65 x7 x9).f0.f2) x374000 x374001 x374002).bind fun t376 => (if t376 ≤ 0 then (if (rd_T65 x7 x9).f2 = true then (some true) else ((r1_Compare.f x374000 x374001 x374002 ((rd_T65 x7 x9).f1.f0) ((rd_T65 x7 x9).f1.f1) ((rd_T65 x7 x9).f1.f2)).bind fun t377 => (if t377 < 0 then (some true) else (r3_In.l0 k x7 x8 (wrap64 (x9 + 1)) x374000 x374001 x374002)))) else (r3_In.l0 k x7 x8 (wrap64 (x9 + 1)) x374000 x374001 x374002))) else (none)) else (none)) else (some false)
def r3_In.f (k : Nat) (l0 : List (S65)) (a1_0 : Int) (a1_1 : Int) (a1_2 : ByteArray) : Option (Bool) := r3_In.l0 k l0 (l0.length : Int) 0 a1_0 a1_1 a1_2
set_option maxHeartbeats 8000000 in
set_option maxRecDepth 100000 in
theorem r3_In.calls (k : Nat) (A0 : Option Addr) (c0 : Nat) (l0 : List (S65)) (a1_0 : Int) (a1_1 : Int) (a1_2 : ByteArray) (r : Bool) (w : World) (hr0 : Kd.C k65 w A0 l0.length l0) (hc0 : l0.length ≤ c0) (h : r3_In.f k l0 a1_0 a1_1 a1_2 = some r) :
  Calls Try.prog 92 #[.slice A0 l0.length c0, .agg #[.int .i64 a1_0, .int .i64 a1_1, .string a1_2]] w fun e w' => e = .returned (.bool r) ∧ Below w.heap.size w w' := by
 have hu24 := Try.underlying24
 have hu65 := Try.underlying65
 have HR0 := Aside0.mk hr0
 have HC0 := Aside0.mk hc0
 clear hr0 hc0
 have HB := aK (Below.refl w.heap.size w)
 have H : (r3_In.l0 k l0 (l0.length : Int) 0 a1_0 a1_1 a1_2) = some r := h
 clear h
 have H' := Aside0.mk H
 clear H
 go_enter Try.func92, Try.ntmps92
 go_wp2_with (first | ((with_reducible refine gate_dst (N := 3) rfl ?_); refine box_event ?hg (N := 3) ?hd (cs := #[.int .i64 a1_0, .int .i64 a1_1, .string a1_2]) (t := 24) ?hr ?_; (case hd => rfl); (case hg => rfl); (case hr => exact hR); intro gb373 hg w3 hbox hb; have n0_ := aK (below_step bO hb); have n1_ := aK (hbox); have n2_ := aK ((by rw [hg]; exact (below_size bO) : w.heap.size ≤ gb373)); have n3_ := aK ((by rw [hg]; exact (below_size bO) : w.heap.size ≤ gb373)); clear HB; have HB := n0_; have BK373 := n1_; have GW373 := n2_; have GE373 := n3_; clear n0_ n1_ n2_ n3_ hb hbox hg))
 go_loopg [9] k (fun kq v9 w' => ∃ (x9_1 : Int), v9 = .int .i64 x9_1 ∧ Aside0 (r3_In.l0 kq l0 (l0.length : Int) x9_1 a1_0 a1_1 a1_2 = some r) ∧ Aside0 (kq ≤ k) ∧ Aside0 (w'.heap[gb373]? = some (.cells #[.int .i64 a1_0, .int .i64 a1_1, .string a1_2] 24 (0, 0))) ∧ Aside0 (Below w.heap.size w w'))
 case atStart => exact ⟨(0), (by first | rfl | (simp; done) | (simp [*]; done)), H', ⟨Nat.le_refl _⟩, ⟨by (with_reducible repeat (first | refine blk_drewN ?_ _ | refine blk_drew ?_ | refine blk_alloc ?_ _)); exact BK373.out⟩, ⟨bS GE373.out⟩⟩
 case round =>
  clear H'
  try clear p2
  obtain ⟨x9_1, rfl, HA, HK1, BK373, HB⟩ := hrel
  cases gk with
  | zero => exact absurd HA.out (by simp [r3_In.l0])
  | succ k1 =>
   have H := HA.out
   clear HA
   simp only [r3_In.l0] at H
   by_cases c4 : x9_1 < (l0.length : Int)
   rotate_left
   ·rw [if_neg c4] at H
    have c4b0 : decide (x9_1 < (l0.length : Int)) = false := decide_eq_false c4
    clear c4
    obtain rfl := Option.some.inj H
    go_wp2
    go_ret
    exact ⟨eW, bS GE373.out⟩
   rw [if_pos c4] at H
   have c4b0 : decide (x9_1 < (l0.length : Int)) = true := decide_eq_true c4
   clear c4
   by_cases c5 : 0 ≤ x9_1
   rotate_left
   ·rw [if_neg c5] at H
    exact absurd H (by simp)
   rw [if_pos c5] at H
   have c5b0 : decide (0 ≤ x9_1) = true := decide_eq_true c5
   clear c5
   by_cases c6 : x9_1 < (l0.length : Int)
   rotate_left
   ·rw [if_neg c6] at H
    exact absurd H (by simp)
   rw [if_pos c6] at H
   have c6b0 : decide (x9_1 < (l0.length : Int)) = true := decide_eq_true c6
   clear c6
   obtain ⟨t376, A7, H⟩ := oB H
   try dsimp only at H
   by_cases c8 : t376 ≤ 0
   rotate_left
   ·rw [if_neg c8] at H
    have c8b0 : decide (t376 ≤ 0) = false := decide_eq_false c8
    clear c8
    have H' := Aside0.mk H
    clear H
    have p374 : 0 ≤ (x9_1 : Int) := of_decide_eq_true (aA)
    have q374 : x9_1 < (l0.length : Int) := of_decide_eq_true (aA)
    obtain ⟨ad374, e374, hx374_0, hx374_1, hx374_2, hx374_3, hx374_4, hx374_5, hx374_6⟩ := at_T65 HR0.out x9_1 p374 q374
    cases e374
    replace hx374_0 := hW HB.out hx374_0
    replace hx374_1 := hW HB.out hx374_1
    replace hx374_2 := hW HB.out hx374_2
    replace hx374_3 := hW HB.out hx374_3
    replace hx374_4 := hW HB.out hx374_4
    replace hx374_5 := hW HB.out hx374_5
    replace hx374_6 := hW HB.out hx374_6
    replace p374 := eq_true p374
    replace q374 := eq_true q374
    go_wp2_with (first | ((with_reducible refine gate_dst (N := 6) rfl ?_); refine box_event ?hg (N := 6) ?hd (cs := #[.int .i64 0, .int .i64 0, .string (⟨#[]⟩ : ByteArray), .int .i64 0, .int .i64 0, .string (⟨#[]⟩ : ByteArray), .bool false]) (t := 65) ?hr ?_; (case hd => rfl); (case hg => rfl); (case hr => exact hR); intro gb375 hg w35 hbox hb; have n0_ := aK (blk_below (bX BK373.out) hb); have n1_ := aK (below_step (bS GE373.out) hb); have n2_ := aK (hbox); have n3_ := aK ((by rw [hg]; exact (below_size (bS GE373.out)) : w.heap.size ≤ gb375)); have n4_ := aK ((by rw [hg]; exact (below_size (bS GE373.out)) : w.heap.size ≤ gb375)); have n5_ := aK ((by rw [hg]; exact Nat.ne_of_lt (blk_lt (bX BK373.out)) : gb373 ≠ gb375)); have n6_ := aK ((by rw [hg]; exact Nat.ne_of_gt (blk_lt (bX BK373.out)) : gb375 ≠ gb373)); clear BK373 HB; have BK373 := n0_; have HB := n1_; have BK375 := n2_; have GW375 := n3_; have GE375 := n4_; have NB373_375 := n5_; have NB375_373 := n6_; clear n0_ n1_ n2_ n3_ n4_ n5_ n6_ hb hbox hg; have hnb36 := NB375_373.out; have hnc36 := NB373_375.out; obtain ⟨hcz37_0, hcz37_1, hcz37_2, hcz37_3, hcz37_4, hcz37_5, hcz37_6⟩ := z7 BK375.out (.int .i64 0) (.int .i64 0) (.string (⟨#[]⟩ : ByteArray)) (.int .i64 0) (.int .i64 0) (.string (⟨#[]⟩ : ByteArray)) (.bool false); obtain ⟨hfz37_0, hfz37_1, hfz37_2, hfz37_3, hfz37_4, hfz37_5, hfz37_6⟩ := f7 BK375.out; obtain ⟨hcz38_0, hcz38_1, hcz38_2⟩ := z3 BK373.out (.int .i64 a1_0) (.int .i64 a1_1) (.string a1_2); obtain ⟨hfz38_0, hfz38_1, hfz38_2⟩ := f3 BK373.out) | ((with_reducible refine gate_callee (f := 26) rfl ?_); refine gL (some 16) rfl Try.func26 #[.agg #[.int .i64 ((rd_T65 l0 x9_1).f0.f0), .int .i64 ((rd_T65 l0 x9_1).f0.f1), .string ((rd_T65 l0 x9_1).f0.f2)], .agg #[.int .i64 a1_0, .int .i64 a1_1, .string a1_2]] rfl ?_; (with_reducible refine (r1_Compare.calls ((rd_T65 l0 x9_1).f0.f0) ((rd_T65 l0 x9_1).f0.f1) ((rd_T65 l0 x9_1).f0.f2) a1_0 a1_1 a1_2 t376 _ A7.out).mono ?_); rintro e w39 ⟨rfl, hb⟩; refine ⟨_, rfl, ?_⟩; have n0_ := aK (blk_below (g := gb373) (o := .cells #[.int .i64 a1_0, .int .i64 a1_1, .string a1_2] 24 (0, 0)) (by (with_reducible repeat (first | refine blk_drewN ?_ _ | refine blk_drew ?_ | refine blk_alloc ?_ _)); refine blk_far ?_ NB373_375.out _; (with_reducible repeat (first | refine blk_drewN ?_ _ | refine blk_drew ?_ | refine blk_alloc ?_ _)); refine blk_far ?_ NB373_375.out _; (with_reducible repeat (first | refine blk_drewN ?_ _ | refine blk_drew ?_ | refine blk_alloc ?_ _)); refine blk_far ?_ NB373_375.out _; (with_reducible repeat (first | refine blk_drewN ?_ _ | refine blk_drew ?_ | refine blk_alloc ?_ _)); refine blk_far ?_ NB373_375.out _; (with_reducible repeat (first | refine blk_drewN ?_ _ | refine blk_drew ?_ | refine blk_alloc ?_ _)); refine blk_far ?_ NB373_375.out _; (with_reducible repeat (first | refine blk_drewN ?_ _ | refine blk_drew ?_ | refine blk_alloc ?_ _)); refine blk_far ?_ NB373_375.out _; (with_reducible repeat (first | refine blk_drewN ?_ _ | refine blk_drew ?_ | refine blk_alloc ?_ _)); refine blk_far ?_ NB373_375.out _; (with_reducible repeat (first | refine blk_drewN ?_ _ | refine blk_drew ?_ | refine blk_alloc ?_ _)); exact BK373.out) hb); have n1_ := aK (blk_below (g := gb375) (o := .cells #[.int .i64 ((rd_T65 l0 x9_1).f0.f0), .int .i64 ((rd_T65 l0 x9_1).f0.f1), .string ((rd_T65 l0 x9_1).f0.f2), .int .i64 ((rd_T65 l0 x9_1).f1.f0), .int .i64 ((rd_T65 l0 x9_1).f1.f1), .string ((rd_T65 l0 x9_1).f1.f2), .bool ((rd_T65 l0 x9_1).f2)] 65 (0, 0)) (by (with_reducible repeat (first | refine blk_drewN ?_ _ | refine blk_drew ?_ | refine blk_alloc ?_ _)); refine blk_put (cs := #[.int .i64 ((rd_T65 l0 x9_1).f0.f0), .int .i64 ((rd_T65 l0 x9_1).f0.f1), .string ((rd_T65 l0 x9_1).f0.f2), .int .i64 ((rd_T65 l0 x9_1).f1.f0), .int .i64 ((rd_T65 l0 x9_1).f1.f1), .string ((rd_T65 l0 x9_1).f1.f2), .bool false]) ?_ 6 _ rfl; (with_reducible repeat (first | refine blk_drewN ?_ _ | refine blk_drew ?_ | refine blk_alloc ?_ _)); refine blk_put (cs := #[.int .i64 ((rd_T65 l0 x9_1).f0.f0), .int .i64 ((rd_T65 l0 x9_1).f0.f1), .string ((rd_T65 l0 x9_1).f0.f2), .int .i64 ((rd_T65 l0 x9_1).f1.f0), .int .i64 ((rd_T65 l0 x9_1).f1.f1), .string (⟨#[]⟩ : ByteArray), .bool false]) ?_ 5 _ rfl; (with_reducible repeat (first | refine blk_drewN ?_ _ | refine blk_drew ?_ | refine blk_alloc ?_ _)); refine blk_put (cs := #[.int .i64 ((rd_T65 l0 x9_1).f0.f0), .int .i64 ((rd_T65 l0 x9_1).f0.f1), .string ((rd_T65 l0 x9_1).f0.f2), .int .i64 ((rd_T65 l0 x9_1).f1.f0), .int .i64 0, .string (⟨#[]⟩ : ByteArray), .bool false]) ?_ 4 _ rfl; (with_reducible repeat (first | refine blk_drewN ?_ _ | refine blk_drew ?_ | refine blk_alloc ?_ _)); refine blk_put (cs := #[.int .i64 ((rd_T65 l0 x9_1).f0.f0), .int .i64 ((rd_T65 l0 x9_1).f0.f1), .string ((rd_T65 l0 x9_1).f0.f2), .int .i64 0, .int .i64 0, .string (⟨#[]⟩ : ByteArray), .bool false]) ?_ 3 _ rfl; (with_reducible repeat (first | refine blk_drewN ?_ _ | refine blk_drew ?_ | refine blk_alloc ?_ _)); refine blk_put (cs := #[.int .i64 ((rd_T65 l0 x9_1).f0.f0), .int .i64 ((rd_T65 l0 x9_1).f0.f1), .string (⟨#[]⟩ : ByteArray), .int .i64 0, .int .i64 0, .string (⟨#[]⟩ : ByteArray), .bool false]) ?_ 2 _ rfl; (with_reducible repeat (first | refine blk_drewN ?_ _ | refine blk_drew ?_ | refine blk_alloc ?_ _)); refine blk_put (cs := #[.int .i64 ((rd_T65 l0 x9_1).f0.f0), .int .i64 0, .string (⟨#[]⟩ : ByteArray), .int .i64 0, .int .i64 0, .string (⟨#[]⟩ : ByteArray), .bool false]) ?_ 1 _ rfl; (with_reducible repeat (first | refine blk_drewN ?_ _ | refine blk_drew ?_ | refine blk_alloc ?_ _)); refine blk_put (cs := #[.int .i64 0, .int .i64 0, .string (⟨#[]⟩ : ByteArray), .int .i64 0, .int .i64 0, .string (⟨#[]⟩ : ByteArray), .bool false]) ?_ 0 _ rfl; (with_reducible repeat (first | refine blk_drewN ?_ _ | refine blk_drew ?_ | refine blk_alloc ?_ _)); exact BK375.out) hb); have n2_ := aK (below_step (bT GE373.out GE375.out) hb); clear BK373 BK375 HB; have BK373 := n0_; have BK375 := n1_; have HB := n2_; clear n0_ n1_ n2_; (try clear hb)))
    go_roundg k1
    case measure => have := HK1.out; omega
    case rel => exact ⟨(wrap64 (x9_1 + 1)), (by first | rfl | (simp; done) | (simp [*]; done)), H', ⟨by have := HK1.out; omega⟩, ⟨by (with_reducible repeat (first | refine blk_drewN ?_ _ | refine blk_drew ?_ | refine blk_alloc ?_ _)); exact BK373.out⟩, ⟨bT GE373.out GE375.out⟩⟩
   rw [if_pos c8] at H
   have c8b0 : decide (t376 ≤ 0) = true := decide_eq_true c8
   clear c8
   obtain ⟨bq9, hbq9⟩ : ∃ b_ : Bool, b_ = ((rd_T65 l0 x9_1).f2) := ⟨_, rfl⟩
   replace H : (if bq9 = true then (some true) else ((r1_Compare.f a1_0 a1_1 a1_2 ((rd_T65 l0 x9_1).f1.f0) ((rd_T65 l0 x9_1).f1.f1) ((rd_T65 l0 x9_1).f1.f2)).bind fun t377 => (if t377 < 0 then (some true) else (r3_In.l0 k1 l0 (l0.length : Int) (wrap64 (x9_1 + 1)) a1_0 a1_1 a1_2)))) = some r := by rw [← hbq9] at H; exact H
   have Nbq9 := Aside0.mk hbq9
   clear hbq9
   by_cases c10 : bq9 = true
   rotate_left
   ·replace c10 := Bool.eq_false_iff.mpr c10
    subst c10
    rw [if_neg (show ¬ (false = true) by decide)] at H
    obtain ⟨t377, A17, H⟩ := oB H
    try dsimp only at H
    by_cases c18 : t377 < 0
    rotate_left
    ·rw [if_neg c18] at H
     have c18b0 : decide (t377 < 0) = false := decide_eq_false c18
     clear c18
     have H' := Aside0.mk H
     clear H
     have p374 : 0 ≤ (x9_1 : Int) := of_decide_eq_true (aA)
     have q374 : x9_1 < (l0.length : Int) := of_decide_eq_true (aA)
     obtain ⟨ad374, e374, hx374_0, hx374_1, hx374_2, hx374_3, hx374_4, hx374_5, hx374_6⟩ := at_T65 HR0.out x9_1 p374 q374
     (try rw [← Nbq9.out] at hx374_6)
     cases e374
     replace hx374_0 := hW HB.out hx374_0
     replace hx374_1 := hW HB.out hx374_1
     replace hx374_2 := hW HB.out hx374_2
     replace hx374_3 := hW HB.out hx374_3
     replace hx374_4 := hW HB.out hx374_4
     replace hx374_5 := hW HB.out hx374_5
     replace hx374_6 := hW HB.out hx374_6
     replace p374 := eq_true p374
     replace q374 := eq_true q374
     go_wp2_with (first | ((with_reducible refine gate_dst (N := 6) rfl ?_); refine box_event ?hg (N := 6) ?hd (cs := #[.int .i64 0, .int .i64 0, .string (⟨#[]⟩ : ByteArray), .int .i64 0, .int .i64 0, .string (⟨#[]⟩ : ByteArray), .bool false]) (t := 65) ?hr ?_; (case hd => rfl); (case hg => rfl); (case hr => exact hR); intro gb375 hg w27 hbox hb; have n0_ := aK (blk_below (bX BK373.out) hb); have n1_ := aK (below_step (bS GE373.out) hb); have n2_ := aK (hbox); have n3_ := aK ((by rw [hg]; exact (below_size (bS GE373.out)) : w.heap.size ≤ gb375)); have n4_ := aK ((by rw [hg]; exact (below_size (bS GE373.out)) : w.heap.size ≤ gb375)); have n5_ := aK ((by rw [hg]; exact Nat.ne_of_lt (blk_lt (bX BK373.out)) : gb373 ≠ gb375)); have n6_ := aK ((by rw [hg]; exact Nat.ne_of_gt (blk_lt (bX BK373.out)) : gb375 ≠ gb373)); clear BK373 HB; have BK373 := n0_; have HB := n1_; have BK375 := n2_; have GW375 := n3_; have GE375 := n4_; have NB373_375 := n5_; have NB375_373 := n6_; clear n0_ n1_ n2_ n3_ n4_ n5_ n6_ hb hbox hg; have hnb28 := NB375_373.out; have hnc28 := NB373_375.out; obtain ⟨hcz29_0, hcz29_1, hcz29_2, hcz29_3, hcz29_4, hcz29_5, hcz29_6⟩ := z7 BK375.out (.int .i64 0) (.int .i64 0) (.string (⟨#[]⟩ : ByteArray)) (.int .i64 0) (.int .i64 0) (.string (⟨#[]⟩ : ByteArray)) (.bool false); obtain ⟨hfz29_0, hfz29_1, hfz29_2, hfz29_3, hfz29_4, hfz29_5, hfz29_6⟩ := f7 BK375.out; obtain ⟨hcz30_0, hcz30_1, hcz30_2⟩ := z3 BK373.out (.int .i64 a1_0) (.int .i64 a1_1) (.string a1_2); obtain ⟨hfz30_0, hfz30_1, hfz30_2⟩ := f3 BK373.out) | ((with_reducible refine gate_callee (f := 26) rfl ?_); refine gL (some 16) rfl Try.func26 #[.agg #[.int .i64 ((rd_T65 l0 x9_1).f0.f0), .int .i64 ((rd_T65 l0 x9_1).f0.f1), .string ((rd_T65 l0 x9_1).f0.f2)], .agg #[.int .i64 a1_0, .int .i64 a1_1, .string a1_2]] rfl ?_; (with_reducible refine (r1_Compare.calls ((rd_T65 l0 x9_1).f0.f0) ((rd_T65 l0 x9_1).f0.f1) ((rd_T65 l0 x9_1).f0.f2) a1_0 a1_1 a1_2 t376 _ A7.out).mono ?_); rintro e w31 ⟨rfl, hb⟩; refine ⟨_, rfl, ?_⟩; have n0_ := aK (blk_below (g := gb373) (o := .cells #[.int .i64 a1_0, .int .i64 a1_1, .string a1_2] 24 (0, 0)) (by (with_reducible repeat (first | refine blk_drewN ?_ _ | refine blk_drew ?_ | refine blk_alloc ?_ _)); refine blk_far ?_ NB373_375.out _; (with_reducible repeat (first | refine blk_drewN ?_ _ | refine blk_drew ?_ | refine blk_alloc ?_ _)); refine blk_far ?_ NB373_375.out _; (with_reducible repeat (first | refine blk_drewN ?_ _ | refine blk_drew ?_ | refine blk_alloc ?_ _)); refine blk_far ?_ NB373_375.out _; (with_reducible repeat (first | refine blk_drewN ?_ _ | refine blk_drew ?_ | refine blk_alloc ?_ _)); refine blk_far ?_ NB373_375.out _; (with_reducible repeat (first | refine blk_drewN ?_ _ | refine blk_drew ?_ | refine blk_alloc ?_ _)); refine blk_far ?_ NB373_375.out _; (with_reducible repeat (first | refine blk_drewN ?_ _ | refine blk_drew ?_ | refine blk_alloc ?_ _)); refine blk_far ?_ NB373_375.out _; (with_reducible repeat (first | refine blk_drewN ?_ _ | refine blk_drew ?_ | refine blk_alloc ?_ _)); refine blk_far ?_ NB373_375.out _; (with_reducible repeat (first | refine blk_drewN ?_ _ | refine blk_drew ?_ | refine blk_alloc ?_ _)); exact BK373.out) hb); have n1_ := aK (blk_below (g := gb375) (o := .cells #[.int .i64 ((rd_T65 l0 x9_1).f0.f0), .int .i64 ((rd_T65 l0 x9_1).f0.f1), .string ((rd_T65 l0 x9_1).f0.f2), .int .i64 ((rd_T65 l0 x9_1).f1.f0), .int .i64 ((rd_T65 l0 x9_1).f1.f1), .string ((rd_T65 l0 x9_1).f1.f2), .bool false] 65 (0, 0)) (by (with_reducible repeat (first | refine blk_drewN ?_ _ | refine blk_drew ?_ | refine blk_alloc ?_ _)); refine blk_put (cs := #[.int .i64 ((rd_T65 l0 x9_1).f0.f0), .int .i64 ((rd_T65 l0 x9_1).f0.f1), .string ((rd_T65 l0 x9_1).f0.f2), .int .i64 ((rd_T65 l0 x9_1).f1.f0), .int .i64 ((rd_T65 l0 x9_1).f1.f1), .string ((rd_T65 l0 x9_1).f1.f2), .bool false]) ?_ 6 _ rfl; (with_reducible repeat (first | refine blk_drewN ?_ _ | refine blk_drew ?_ | refine blk_alloc ?_ _)); refine blk_put (cs := #[.int .i64 ((rd_T65 l0 x9_1).f0.f0), .int .i64 ((rd_T65 l0 x9_1).f0.f1), .string ((rd_T65 l0 x9_1).f0.f2), .int .i64 ((rd_T65 l0 x9_1).f1.f0), .int .i64 ((rd_T65 l0 x9_1).f1.f1), .string (⟨#[]⟩ : ByteArray), .bool false]) ?_ 5 _ rfl; (with_reducible repeat (first | refine blk_drewN ?_ _ | refine blk_drew ?_ | refine blk_alloc ?_ _)); refine blk_put (cs := #[.int .i64 ((rd_T65 l0 x9_1).f0.f0), .int .i64 ((rd_T65 l0 x9_1).f0.f1), .string ((rd_T65 l0 x9_1).f0.f2), .int .i64 ((rd_T65 l0 x9_1).f1.f0), .int .i64 0, .string (⟨#[]⟩ : ByteArray), .bool false]) ?_ 4 _ rfl; (with_reducible repeat (first | refine blk_drewN ?_ _ | refine blk_drew ?_ | refine blk_alloc ?_ _)); refine blk_put (cs := #[.int .i64 ((rd_T65 l0 x9_1).f0.f0), .int .i64 ((rd_T65 l0 x9_1).f0.f1), .string ((rd_T65 l0 x9_1).f0.f2), .int .i64 0, .int .i64 0, .string (⟨#[]⟩ : ByteArray), .bool false]) ?_ 3 _ rfl; (with_reducible repeat (first | refine blk_drewN ?_ _ | refine blk_drew ?_ | refine blk_alloc ?_ _)); refine blk_put (cs := #[.int .i64 ((rd_T65 l0 x9_1).f0.f0), .int .i64 ((rd_T65 l0 x9_1).f0.f1), .string (⟨#[]⟩ : ByteArray), .int .i64 0, .int .i64 0, .string (⟨#[]⟩ : ByteArray), .bool false]) ?_ 2 _ rfl; (with_reducible repeat (first | refine blk_drewN ?_ _ | refine blk_drew ?_ | refine blk_alloc ?_ _)); refine blk_put (cs := #[.int .i64 ((rd_T65 l0 x9_1).f0.f0), .int .i64 0, .string (⟨#[]⟩ : ByteArray), .int .i64 0, .int .i64 0, .string (⟨#[]⟩ : ByteArray), .bool false]) ?_ 1 _ rfl; (with_reducible repeat (first | refine blk_drewN ?_ _ | refine blk_drew ?_ | refine blk_alloc ?_ _)); refine blk_put (cs := #[.int .i64 0, .int .i64 0, .string (⟨#[]⟩ : ByteArray), .int .i64 0, .int .i64 0, .string (⟨#[]⟩ : ByteArray), .bool false]) ?_ 0 _ rfl; (with_reducible repeat (first | refine blk_drewN ?_ _ | refine blk_drew ?_ | refine blk_alloc ?_ _)); exact BK375.out) hb); have n2_ := aK (below_step (bT GE373.out GE375.out) hb); clear BK373 BK375 HB; have BK373 := n0_; have BK375 := n1_; have HB := n2_; clear n0_ n1_ n2_; (try clear hb); obtain ⟨hcz32_0, hcz32_1, hcz32_2, hcz32_3, hcz32_4, hcz32_5, hcz32_6⟩ := z7 BK375.out (.int .i64 ((rd_T65 l0 x9_1).f0.f0)) (.int .i64 ((rd_T65 l0 x9_1).f0.f1)) (.string ((rd_T65 l0 x9_1).f0.f2)) (.int .i64 ((rd_T65 l0 x9_1).f1.f0)) (.int .i64 ((rd_T65 l0 x9_1).f1.f1)) (.string ((rd_T65 l0 x9_1).f1.f2)) (.bool false); obtain ⟨hfz32_0, hfz32_1, hfz32_2, hfz32_3, hfz32_4, hfz32_5, hfz32_6⟩ := f7 BK375.out; obtain ⟨hcz33_0, hcz33_1, hcz33_2⟩ := z3 BK373.out (.int .i64 a1_0) (.int .i64 a1_1) (.string a1_2); obtain ⟨hfz33_0, hfz33_1, hfz33_2⟩ := f3 BK373.out) | (go_at_call 26; (with_reducible refine (r1_Compare.calls a1_0 a1_1 a1_2 ((rd_T65 l0 x9_1).f1.f0) ((rd_T65 l0 x9_1).f1.f1) ((rd_T65 l0 x9_1).f1.f2) t377 _ A17.out).mono ?_); rintro e w34 ⟨rfl, hb⟩; have n0_ := aK (blk_below (bX BK373.out) hb); have n1_ := aK (blk_below (bX BK375.out) hb); have n2_ := aK (below_step (bT GE373.out GE375.out) hb); clear BK373 BK375 HB; have BK373 := n0_; have BK375 := n1_; have HB := n2_; clear n0_ n1_ n2_; (try clear hb)))
     go_roundg k1
     case measure => have := HK1.out; omega
     case rel => exact ⟨(wrap64 (x9_1 + 1)), (by first | rfl | (simp; done) | (simp [*]; done)), H', ⟨by have := HK1.out; omega⟩, ⟨by (with_reducible repeat (first | refine blk_drewN ?_ _ | refine blk_drew ?_ | refine blk_alloc ?_ _)); exact BK373.out⟩, ⟨bT GE373.out GE375.out⟩⟩
    rw [if_pos c18] at H
    have c18b0 : decide (t377 < 0) = true := decide_eq_true c18
    clear c18
    obtain rfl := Option.some.inj H
    have p374 : 0 ≤ (x9_1 : Int) := of_decide_eq_true (aA)
    have q374 : x9_1 < (l0.length : Int) := of_decide_eq_true (aA)
    obtain ⟨ad374, e374, hx374_0, hx374_1, hx374_2, hx374_3, hx374_4, hx374_5, hx374_6⟩ := at_T65 HR0.out x9_1 p374 q374
    (try rw [← Nbq9.out] at hx374_6)
    cases e374
    replace hx374_0 := hW HB.out hx374_0
    replace hx374_1 := hW HB.out hx374_1
    replace hx374_2 := hW HB.out hx374_2
    replace hx374_3 := hW HB.out hx374_3
    replace hx374_4 := hW HB.out hx374_4
    replace hx374_5 := hW HB.out hx374_5
    replace hx374_6 := hW HB.out hx374_6
    replace p374 := eq_true p374
    replace q374 := eq_true q374
    go_wp2_with (first | ((with_reducible refine gate_dst (N := 6) rfl ?_); refine box_event ?hg (N := 6) ?hd (cs := #[.int .i64 0, .int .i64 0, .string (⟨#[]⟩ : ByteArray), .int .i64 0, .int .i64 0, .string (⟨#[]⟩ : ByteArray), .bool false]) (t := 65) ?hr ?_; (case hd => rfl); (case hg => rfl); (case hr => exact hR); intro gb375 hg w19 hbox hb; have n0_ := aK (blk_below (bX BK373.out) hb); have n1_ := aK (below_step (bS GE373.out) hb); have n2_ := aK (hbox); have n3_ := aK ((by rw [hg]; exact (below_size (bS GE373.out)) : w.heap.size ≤ gb375)); have n4_ := aK ((by rw [hg]; exact (below_size (bS GE373.out)) : w.heap.size ≤ gb375)); have n5_ := aK ((by rw [hg]; exact Nat.ne_of_lt (blk_lt (bX BK373.out)) : gb373 ≠ gb375)); have n6_ := aK ((by rw [hg]; exact Nat.ne_of_gt (blk_lt (bX BK373.out)) : gb375 ≠ gb373)); clear BK373 HB; have BK373 := n0_; have HB := n1_; have BK375 := n2_; have GW375 := n3_; have GE375 := n4_; have NB373_375 := n5_; have NB375_373 := n6_; clear n0_ n1_ n2_ n3_ n4_ n5_ n6_ hb hbox hg; have hnb20 := NB375_373.out; have hnc20 := NB373_375.out; obtain ⟨hcz21_0, hcz21_1, hcz21_2, hcz21_3, hcz21_4, hcz21_5, hcz21_6⟩ := z7 BK375.out (.int .i64 0) (.int .i64 0) (.string (⟨#[]⟩ : ByteArray)) (.int .i64 0) (.int .i64 0) (.string (⟨#[]⟩ : ByteArray)) (.bool false); obtain ⟨hfz21_0, hfz21_1, hfz21_2, hfz21_3, hfz21_4, hfz21_5, hfz21_6⟩ := f7 BK375.out; obtain ⟨hcz22_0, hcz22_1, hcz22_2⟩ := z3 BK373.out (.int .i64 a1_0) (.int .i64 a1_1) (.string a1_2); obtain ⟨hfz22_0, hfz22_1, hfz22_2⟩ := f3 BK373.out) | ((with_reducible refine gate_callee (f := 26) rfl ?_); refine gL (some 16) rfl Try.func26 #[.agg #[.int .i64 ((rd_T65 l0 x9_1).f0.f0), .int .i64 ((rd_T65 l0 x9_1).f0.f1), .string ((rd_T65 l0 x9_1).f0.f2)], .agg #[.int .i64 a1_0, .int .i64 a1_1, .string a1_2]] rfl ?_; (with_reducible refine (r1_Compare.calls ((rd_T65 l0 x9_1).f0.f0) ((rd_T65 l0 x9_1).f0.f1) ((rd_T65 l0 x9_1).f0.f2) a1_0 a1_1 a1_2 t376 _ A7.out).mono ?_); rintro e w23 ⟨rfl, hb⟩; refine ⟨_, rfl, ?_⟩; have n0_ := aK (blk_below (g := gb373) (o := .cells #[.int .i64 a1_0, .int .i64 a1_1, .string a1_2] 24 (0, 0)) (by (with_reducible repeat (first | refine blk_drewN ?_ _ | refine blk_drew ?_ | refine blk_alloc ?_ _)); refine blk_far ?_ NB373_375.out _; (with_reducible repeat (first | refine blk_drewN ?_ _ | refine blk_drew ?_ | refine blk_alloc ?_ _)); refine blk_far ?_ NB373_375.out _; (with_reducible repeat (first | refine blk_drewN ?_ _ | refine blk_drew ?_ | refine blk_alloc ?_ _)); refine blk_far ?_ NB373_375.out _; (with_reducible repeat (first | refine blk_drewN ?_ _ | refine blk_drew ?_ | refine blk_alloc ?_ _)); refine blk_far ?_ NB373_375.out _; (with_reducible repeat (first | refine blk_drewN ?_ _ | refine blk_drew ?_ | refine blk_alloc ?_ _)); refine blk_far ?_ NB373_375.out _; (with_reducible repeat (first | refine blk_drewN ?_ _ | refine blk_drew ?_ | refine blk_alloc ?_ _)); refine blk_far ?_ NB373_375.out _; (with_reducible repeat (first | refine blk_drewN ?_ _ | refine blk_drew ?_ | refine blk_alloc ?_ _)); refine blk_far ?_ NB373_375.out _; (with_reducible repeat (first | refine blk_drewN ?_ _ | refine blk_drew ?_ | refine blk_alloc ?_ _)); exact BK373.out) hb); have n1_ := aK (blk_below (g := gb375) (o := .cells #[.int .i64 ((rd_T65 l0 x9_1).f0.f0), .int .i64 ((rd_T65 l0 x9_1).f0.f1), .string ((rd_T65 l0 x9_1).f0.f2), .int .i64 ((rd_T65 l0 x9_1).f1.f0), .int .i64 ((rd_T65 l0 x9_1).f1.f1), .string ((rd_T65 l0 x9_1).f1.f2), .bool false] 65 (0, 0)) (by (with_reducible repeat (first | refine blk_drewN ?_ _ | refine blk_drew ?_ | refine blk_alloc ?_ _)); refine blk_put (cs := #[.int .i64 ((rd_T65 l0 x9_1).f0.f0), .int .i64 ((rd_T65 l0 x9_1).f0.f1), .string ((rd_T65 l0 x9_1).f0.f2), .int .i64 ((rd_T65 l0 x9_1).f1.f0), .int .i64 ((rd_T65 l0 x9_1).f1.f1), .string ((rd_T65 l0 x9_1).f1.f2), .bool false]) ?_ 6 _ rfl; (with_reducible repeat (first | refine blk_drewN ?_ _ | refine blk_drew ?_ | refine blk_alloc ?_ _)); refine blk_put (cs := #[.int .i64 ((rd_T65 l0 x9_1).f0.f0), .int .i64 ((rd_T65 l0 x9_1).f0.f1), .string ((rd_T65 l0 x9_1).f0.f2), .int .i64 ((rd_T65 l0 x9_1).f1.f0), .int .i64 ((rd_T65 l0 x9_1).f1.f1), .string (⟨#[]⟩ : ByteArray), .bool false]) ?_ 5 _ rfl; (with_reducible repeat (first | refine blk_drewN ?_ _ | refine blk_drew ?_ | refine blk_alloc ?_ _)); refine blk_put (cs := #[.int .i64 ((rd_T65 l0 x9_1).f0.f0), .int .i64 ((rd_T65 l0 x9_1).f0.f1), .string ((rd_T65 l0 x9_1).f0.f2), .int .i64 ((rd_T65 l0 x9_1).f1.f0), .int .i64 0, .string (⟨#[]⟩ : ByteArray), .bool false]) ?_ 4 _ rfl; (with_reducible repeat (first | refine blk_drewN ?_ _ | refine blk_drew ?_ | refine blk_alloc ?_ _)); refine blk_put (cs := #[.int .i64 ((rd_T65 l0 x9_1).f0.f0), .int .i64 ((rd_T65 l0 x9_1).f0.f1), .string ((rd_T65 l0 x9_1).f0.f2), .int .i64 0, .int .i64 0, .string (⟨#[]⟩ : ByteArray), .bool false]) ?_ 3 _ rfl; (with_reducible repeat (first | refine blk_drewN ?_ _ | refine blk_drew ?_ | refine blk_alloc ?_ _)); refine blk_put (cs := #[.int .i64 ((rd_T65 l0 x9_1).f0.f0), .int .i64 ((rd_T65 l0 x9_1).f0.f1), .string (⟨#[]⟩ : ByteArray), .int .i64 0, .int .i64 0, .string (⟨#[]⟩ : ByteArray), .bool false]) ?_ 2 _ rfl; (with_reducible repeat (first | refine blk_drewN ?_ _ | refine blk_drew ?_ | refine blk_alloc ?_ _)); refine blk_put (cs := #[.int .i64 ((rd_T65 l0 x9_1).f0.f0), .int .i64 0, .string (⟨#[]⟩ : ByteArray), .int .i64 0, .int .i64 0, .string (⟨#[]⟩ : ByteArray), .bool false]) ?_ 1 _ rfl; (with_reducible repeat (first | refine blk_drewN ?_ _ | refine blk_drew ?_ | refine blk_alloc ?_ _)); refine blk_put (cs := #[.int .i64 0, .int .i64 0, .string (⟨#[]⟩ : ByteArray), .int .i64 0, .int .i64 0, .string (⟨#[]⟩ : ByteArray), .bool false]) ?_ 0 _ rfl; (with_reducible repeat (first | refine blk_drewN ?_ _ | refine blk_drew ?_ | refine blk_alloc ?_ _)); exact BK375.out) hb); have n2_ := aK (below_step (bT GE373.out GE375.out) hb); clear BK373 BK375 HB; have BK373 := n0_; have BK375 := n1_; have HB := n2_; clear n0_ n1_ n2_; (try clear hb); obtain ⟨hcz24_0, hcz24_1, hcz24_2, hcz24_3, hcz24_4, hcz24_5, hcz24_6⟩ := z7 BK375.out (.int .i64 ((rd_T65 l0 x9_1).f0.f0)) (.int .i64 ((rd_T65 l0 x9_1).f0.f1)) (.string ((rd_T65 l0 x9_1).f0.f2)) (.int .i64 ((rd_T65 l0 x9_1).f1.f0)) (.int .i64 ((rd_T65 l0 x9_1).f1.f1)) (.string ((rd_T65 l0 x9_1).f1.f2)) (.bool false); obtain ⟨hfz24_0, hfz24_1, hfz24_2, hfz24_3, hfz24_4, hfz24_5, hfz24_6⟩ := f7 BK375.out; obtain ⟨hcz25_0, hcz25_1, hcz25_2⟩ := z3 BK373.out (.int .i64 a1_0) (.int .i64 a1_1) (.string a1_2); obtain ⟨hfz25_0, hfz25_1, hfz25_2⟩ := f3 BK373.out) | (go_at_call 26; (with_reducible refine (r1_Compare.calls a1_0 a1_1 a1_2 ((rd_T65 l0 x9_1).f1.f0) ((rd_T65 l0 x9_1).f1.f1) ((rd_T65 l0 x9_1).f1.f2) t377 _ A17.out).mono ?_); rintro e w26 ⟨rfl, hb⟩; have n0_ := aK (blk_below (bX BK373.out) hb); have n1_ := aK (blk_below (bX BK375.out) hb); have n2_ := aK (below_step (bT GE373.out GE375.out) hb); clear BK373 BK375 HB; have BK373 := n0_; have BK375 := n1_; have HB := n2_; clear n0_ n1_ n2_; (try clear hb)))
    go_ret
    exact ⟨eW, bT GE373.out GE375.out⟩
   subst c10
   rw [if_pos rfl] at H
   obtain rfl := Option.some.inj H
   have p374 : 0 ≤ (x9_1 : Int) := of_decide_eq_true (aA)
   have q374 : x9_1 < (l0.length : Int) := of_decide_eq_true (aA)
   obtain ⟨ad374, e374, hx374_0, hx374_1, hx374_2, hx374_3, hx374_4, hx374_5, hx374_6⟩ := at_T65 HR0.out x9_1 p374 q374
   (try rw [← Nbq9.out] at hx374_6)
   cases e374
   replace hx374_0 := hW HB.out hx374_0
   replace hx374_1 := hW HB.out hx374_1
   replace hx374_2 := hW HB.out hx374_2
   replace hx374_3 := hW HB.out hx374_3
   replace hx374_4 := hW HB.out hx374_4
   replace hx374_5 := hW HB.out hx374_5
   replace hx374_6 := hW HB.out hx374_6
   replace p374 := eq_true p374
   replace q374 := eq_true q374
   go_wp2_with (first | ((with_reducible refine gate_dst (N := 6) rfl ?_); refine box_event ?hg (N := 6) ?hd (cs := #[.int .i64 0, .int .i64 0, .string (⟨#[]⟩ : ByteArray), .int .i64 0, .int .i64 0, .string (⟨#[]⟩ : ByteArray), .bool false]) (t := 65) ?hr ?_; (case hd => rfl); (case hg => rfl); (case hr => exact hR); intro gb375 hg w11 hbox hb; have n0_ := aK (blk_below (bX BK373.out) hb); have n1_ := aK (below_step (bS GE373.out) hb); have n2_ := aK (hbox); have n3_ := aK ((by rw [hg]; exact (below_size (bS GE373.out)) : w.heap.size ≤ gb375)); have n4_ := aK ((by rw [hg]; exact (below_size (bS GE373.out)) : w.heap.size ≤ gb375)); have n5_ := aK ((by rw [hg]; exact Nat.ne_of_lt (blk_lt (bX BK373.out)) : gb373 ≠ gb375)); have n6_ := aK ((by rw [hg]; exact Nat.ne_of_gt (blk_lt (bX BK373.out)) : gb375 ≠ gb373)); clear BK373 HB; have BK373 := n0_; have HB := n1_; have BK375 := n2_; have GW375 := n3_; have GE375 := n4_; have NB373_375 := n5_; have NB375_373 := n6_; clear n0_ n1_ n2_ n3_ n4_ n5_ n6_ hb hbox hg; have hnb12 := NB375_373.out; have hnc12 := NB373_375.out; obtain ⟨hcz13_0, hcz13_1, hcz13_2, hcz13_3, hcz13_4, hcz13_5, hcz13_6⟩ := z7 BK375.out (.int .i64 0) (.int .i64 0) (.string (⟨#[]⟩ : ByteArray)) (.int .i64 0) (.int .i64 0) (.string (⟨#[]⟩ : ByteArray)) (.bool false); obtain ⟨hfz13_0, hfz13_1, hfz13_2, hfz13_3, hfz13_4, hfz13_5, hfz13_6⟩ := f7 BK375.out; obtain ⟨hcz14_0, hcz14_1, hcz14_2⟩ := z3 BK373.out (.int .i64 a1_0) (.int .i64 a1_1) (.string a1_2); obtain ⟨hfz14_0, hfz14_1, hfz14_2⟩ := f3 BK373.out) | ((with_reducible refine gate_callee (f := 26) rfl ?_); refine gL (some 16) rfl Try.func26 #[.agg #[.int .i64 ((rd_T65 l0 x9_1).f0.f0), .int .i64 ((rd_T65 l0 x9_1).f0.f1), .string ((rd_T65 l0 x9_1).f0.f2)], .agg #[.int .i64 a1_0, .int .i64 a1_1, .string a1_2]] rfl ?_; (with_reducible refine (r1_Compare.calls ((rd_T65 l0 x9_1).f0.f0) ((rd_T65 l0 x9_1).f0.f1) ((rd_T65 l0 x9_1).f0.f2) a1_0 a1_1 a1_2 t376 _ A7.out).mono ?_); rintro e w15 ⟨rfl, hb⟩; refine ⟨_, rfl, ?_⟩; have n0_ := aK (blk_below (g := gb373) (o := .cells #[.int .i64 a1_0, .int .i64 a1_1, .string a1_2] 24 (0, 0)) (by (with_reducible repeat (first | refine blk_drewN ?_ _ | refine blk_drew ?_ | refine blk_alloc ?_ _)); refine blk_far ?_ NB373_375.out _; (with_reducible repeat (first | refine blk_drewN ?_ _ | refine blk_drew ?_ | refine blk_alloc ?_ _)); refine blk_far ?_ NB373_375.out _; (with_reducible repeat (first | refine blk_drewN ?_ _ | refine blk_drew ?_ | refine blk_alloc ?_ _)); refine blk_far ?_ NB373_375.out _; (with_reducible repeat (first | refine blk_drewN ?_ _ | refine blk_drew ?_ | refine blk_alloc ?_ _)); refine blk_far ?_ NB373_375.out _; (with_reducible repeat (first | refine blk_drewN ?_ _ | refine blk_drew ?_ | refine blk_alloc ?_ _)); refine blk_far ?_ NB373_375.out _; (with_reducible repeat (first | refine blk_drewN ?_ _ | refine blk_drew ?_ | refine blk_alloc ?_ _)); refine blk_far ?_ NB373_375.out _; (with_reducible repeat (first | refine blk_drewN ?_ _ | refine blk_drew ?_ | refine blk_alloc ?_ _)); refine blk_far ?_ NB373_375.out _; (with_reducible repeat (first | refine blk_drewN ?_ _ | refine blk_drew ?_ | refine blk_alloc ?_ _)); exact BK373.out) hb); have n1_ := aK (blk_below (g := gb375) (o := .cells #[.int .i64 ((rd_T65 l0 x9_1).f0.f0), .int .i64 ((rd_T65 l0 x9_1).f0.f1), .string ((rd_T65 l0 x9_1).f0.f2), .int .i64 ((rd_T65 l0 x9_1).f1.f0), .int .i64 ((rd_T65 l0 x9_1).f1.f1), .string ((rd_T65 l0 x9_1).f1.f2), .bool true] 65 (0, 0)) (by (with_reducible repeat (first | refine blk_drewN ?_ _ | refine blk_drew ?_ | refine blk_alloc ?_ _)); refine blk_put (cs := #[.int .i64 ((rd_T65 l0 x9_1).f0.f0), .int .i64 ((rd_T65 l0 x9_1).f0.f1), .string ((rd_T65 l0 x9_1).f0.f2), .int .i64 ((rd_T65 l0 x9_1).f1.f0), .int .i64 ((rd_T65 l0 x9_1).f1.f1), .string ((rd_T65 l0 x9_1).f1.f2), .bool false]) ?_ 6 _ rfl; (with_reducible repeat (first | refine blk_drewN ?_ _ | refine blk_drew ?_ | refine blk_alloc ?_ _)); refine blk_put (cs := #[.int .i64 ((rd_T65 l0 x9_1).f0.f0), .int .i64 ((rd_T65 l0 x9_1).f0.f1), .string ((rd_T65 l0 x9_1).f0.f2), .int .i64 ((rd_T65 l0 x9_1).f1.f0), .int .i64 ((rd_T65 l0 x9_1).f1.f1), .string (⟨#[]⟩ : ByteArray), .bool false]) ?_ 5 _ rfl; (with_reducible repeat (first | refine blk_drewN ?_ _ | refine blk_drew ?_ | refine blk_alloc ?_ _)); refine blk_put (cs := #[.int .i64 ((rd_T65 l0 x9_1).f0.f0), .int .i64 ((rd_T65 l0 x9_1).f0.f1), .string ((rd_T65 l0 x9_1).f0.f2), .int .i64 ((rd_T65 l0 x9_1).f1.f0), .int .i64 0, .string (⟨#[]⟩ : ByteArray), .bool false]) ?_ 4 _ rfl; (with_reducible repeat (first | refine blk_drewN ?_ _ | refine blk_drew ?_ | refine blk_alloc ?_ _)); refine blk_put (cs := #[.int .i64 ((rd_T65 l0 x9_1).f0.f0), .int .i64 ((rd_T65 l0 x9_1).f0.f1), .string ((rd_T65 l0 x9_1).f0.f2), .int .i64 0, .int .i64 0, .string (⟨#[]⟩ : ByteArray), .bool false]) ?_ 3 _ rfl; (with_reducible repeat (first | refine blk_drewN ?_ _ | refine blk_drew ?_ | refine blk_alloc ?_ _)); refine blk_put (cs := #[.int .i64 ((rd_T65 l0 x9_1).f0.f0), .int .i64 ((rd_T65 l0 x9_1).f0.f1), .string (⟨#[]⟩ : ByteArray), .int .i64 0, .int .i64 0, .string (⟨#[]⟩ : ByteArray), .bool false]) ?_ 2 _ rfl; (with_reducible repeat (first | refine blk_drewN ?_ _ | refine blk_drew ?_ | refine blk_alloc ?_ _)); refine blk_put (cs := #[.int .i64 ((rd_T65 l0 x9_1).f0.f0), .int .i64 0, .string (⟨#[]⟩ : ByteArray), .int .i64 0, .int .i64 0, .string (⟨#[]⟩ : ByteArray), .bool false]) ?_ 1 _ rfl; (with_reducible repeat (first | refine blk_drewN ?_ _ | refine blk_drew ?_ | refine blk_alloc ?_ _)); refine blk_put (cs := #[.int .i64 0, .int .i64 0, .string (⟨#[]⟩ : ByteArray), .int .i64 0, .int .i64 0, .string (⟨#[]⟩ : ByteArray), .bool false]) ?_ 0 _ rfl; (with_reducible repeat (first | refine blk_drewN ?_ _ | refine blk_drew ?_ | refine blk_alloc ?_ _)); exact BK375.out) hb); have n2_ := aK (below_step (bT GE373.out GE375.out) hb); clear BK373 BK375 HB; have BK373 := n0_; have BK375 := n1_; have HB := n2_; clear n0_ n1_ n2_; (try clear hb); obtain ⟨hcz16_0, hcz16_1, hcz16_2, hcz16_3, hcz16_4, hcz16_5, hcz16_6⟩ := z7 BK375.out (.int .i64 ((rd_T65 l0 x9_1).f0.f0)) (.int .i64 ((rd_T65 l0 x9_1).f0.f1)) (.string ((rd_T65 l0 x9_1).f0.f2)) (.int .i64 ((rd_T65 l0 x9_1).f1.f0)) (.int .i64 ((rd_T65 l0 x9_1).f1.f1)) (.string ((rd_T65 l0 x9_1).f1.f2)) (.bool true); obtain ⟨hfz16_0, hfz16_1, hfz16_2, hfz16_3, hfz16_4, hfz16_5, hfz16_6⟩ := f7 BK375.out))
   go_ret
   exact ⟨eW, bT GE373.out GE375.out⟩
mutual
def r1_CompareRows.l0 : Nat → List (S24) → List (S24) → Int → Option (Int)
 | 0, _, _, _ => none
 | k + 1, x0, x1, x5 => if x5 < (x0.length : Int) then (r1_CompareRows.j1 k x0 x1 x5 (decide (x5 < (x1.length : Int)))) else (r1_CompareRows.j1 k x0 x1 x5 false)
def r1_CompareRows.j1 : Nat → List (S24) → List (S24) → Int → Bool → Option (Int)
 | 0, _, _, _, _ => none
 | k + 1, x0, x1, x5, x16 => if x16 = true then (if 0 ≤ x5 then (if x5 < (x0.length : Int) then (if x5 < (x1.length : Int) then ((r1_Compare.f ((rd_T24 x0 x5).f0) ((rd_T24 x0 x5).f1) ((rd_T24 x0 x5).f2) ((rd_T24 x1 x5).f0) ((rd_T24 x1 x5).f1) ((rd_T24 x1 x5).f2)).bind fun t160 => (if t160 = 0 then (r1_CompareRows.l0 k x0 x1 (wrap64 (x5 + 1))) else (some t160))) else (none)) else (none)) else (none)) else (if (x0.length : Int) < (x1.length : Int) then (some (-1)) else (if (x0.length : Int) > (x1.length : Int) then (some 1) else (some 0)))
end
def r1_CompareRows.f (k : Nat) (l0 : List (S24)) (l1 : List (S24)) : Option (Int) := r1_CompareRows.l0 k l0 l1 0
def r1_CompareRows.T4 : Bool × List (List Nat × List Nat) := (true, [([], []), ([], []), ([0, 1], [0, 1]), ([2], [2]), ([], []), ([], []), ([4, 5], [4, 5]), ([6], [6]), ([3, 7], [3, 7]), ([8, 8, 0, 1, 2, 3, 4, 5, 6, 7, 8], [8])])
def r1_CompareRows.B4 : List Nat := [0, 0, 3, 7, 0, 0, 48, 112, 255, 511]
theorem r1_CompareRows.tab4 : rtab .any (opsOf Try.f53 4) = r1_CompareRows.T4 := by kernel_rfl
theorem r1_CompareRows.bits4 : waitsOk r1_CompareRows.T4.2 r1_CompareRows.B4 = true := by kernel_rfl
set_option maxHeartbeats 8000000 in
set_option maxRecDepth 100000 in
theorem r1_CompareRows.calls (k : Nat) (A0 : Option Addr) (c0 : Nat) (l0 : List (S24)) (A1 : Option Addr) (c1 : Nat) (l1 : List (S24)) (r : Int) (w : World) (hr0 : Kd.C k24 w A0 l0.length l0) (hc0 : l0.length ≤ c0) (hr1 : Kd.C k24 w A1 l1.length l1) (hc1 : l1.length ≤ c1) (h : r1_CompareRows.f k l0 l1 = some r) :
  Calls Try.prog 53 #[.slice A0 l0.length c0, .slice A1 l1.length c1] w fun e w' => e = .returned (.int .i64 r) ∧ Below w.heap.size w w' := by
 have hu24 := Try.underlying24
 have HR0 := Aside0.mk hr0
 have HC0 := Aside0.mk hc0
 clear hr0 hc0
 have HR1 := Aside0.mk hr1
 have HC1 := Aside0.mk hc1
 clear hr1 hc1
 have HB := aK (Below.refl w.heap.size w)
 have H : (r1_CompareRows.l0 k l0 l1 0) = some r := h
 clear h
 have H' := Aside0.mk H
 clear H
 go_enter Try.func53, Try.ntmps53
 go_wp2
 go_loopg [5] k (fun kq v5 w' => ∃ (x5_1 : Int), v5 = .int .i64 x5_1 ∧ Aside0 (r1_CompareRows.l0 kq l0 l1 x5_1 = some r) ∧ Aside0 (kq ≤ k) ∧ Aside0 (Below w.heap.size w w'))
 case atStart => exact ⟨(0), (by first | rfl | (simp; done) | (simp [*]; done)), H', ⟨Nat.le_refl _⟩, ⟨bO⟩⟩
 case round =>
  clear H'
  try clear c1
  try clear p2
  obtain ⟨x5_1, rfl, HA, HK1, HB⟩ := hrel
  cases gk with
  | zero => exact absurd HA.out (by simp [r1_CompareRows.l0])
  | succ k1 =>
   have H := HA.out
   clear HA
   simp only [r1_CompareRows.l0] at H
   have HC3 := Aside0.mk H
   clear H
   go_upto_region 2 with (fail)
   go_cut [16] (fun v16 wc => ∃ (kq : Nat) (x16_2 : Bool), v16 = .bool x16_2 ∧ Aside0 (r1_CompareRows.j1 kq l0 l1 x5_1 x16_2 = some r) ∧ Aside0 (kq ≤ k1) ∧ Aside0 (Below w.heap.size w wc))
   case first =>
    have H := HC3.out
    clear HC3
    by_cases c4 : x5_1 < (l0.length : Int)
    rotate_left
    ·rw [if_neg c4] at H
     have c4b0 : decide (x5_1 < (l0.length : Int)) = false := decide_eq_false c4
     clear c4
     (first | rw [c4b0] | (simp only [i64_w, i32_w]; rw [c4b0]) | skip)
     have H' := Aside0.mk H
     clear H
     go_wp2
     go_meet
     case rel => exact ⟨_, (false), (by first | rfl | (simp; done) | (simp [*]; done)), H', ⟨by have := HK1.out; first | omega | exact Nat.le_refl _⟩, ⟨bO⟩⟩
    rw [if_pos c4] at H
    have c4b0 : decide (x5_1 < (l0.length : Int)) = true := decide_eq_true c4
    clear c4
    (first | rw [c4b0] | (simp only [i64_w, i32_w]; rw [c4b0]) | skip)
    have H' := Aside0.mk H
    clear H
    go_wp2
    go_meet
    case rel => exact ⟨_, (decide (x5_1 < (l1.length : Int))), (by first | rfl | (simp; done) | (simp [*]; done)), H', ⟨by have := HK1.out; first | omega | exact Nat.le_refl _⟩, ⟨bO⟩⟩
   case rest =>
    clear HC3
    try clear c1
    try clear p2
    try clear c4
    try clear c4b0
    try clear p2
    obtain ⟨kq, x16_2, rfl, HA, HJ2, HB⟩ := hcut
    cases kq with
    | zero => exact absurd HA.out (by simp [r1_CompareRows.j1])
    | succ kj2 =>
     have H := HA.out
     clear HA
     simp only [r1_CompareRows.j1] at H
     by_cases c5 : x16_2 = true
     rotate_left
     ·replace c5 := Bool.eq_false_iff.mpr c5
      subst c5
      rw [if_neg (show ¬ (false = true) by decide)] at H
      by_cases c15 : (l0.length : Int) < (l1.length : Int)
      rotate_left
      ·rw [if_neg c15] at H
       have c15b0 : decide ((l0.length : Int) < (l1.length : Int)) = false := decide_eq_false c15
       have c15b1 : decide (l0.length < l1.length) = false := decide_eq_false (fun h => c15 (Int.ofNat_lt.mpr h))
       clear c15
       by_cases c16 : (l0.length : Int) > (l1.length : Int)
       rotate_left
       ·rw [if_neg c16] at H
        have c16b0 : decide ((l1.length : Int) < (l0.length : Int)) = false := decide_eq_false c16
        have c16b1 : decide (l1.length < l0.length) = false := decide_eq_false (fun h => c16 (Int.ofNat_lt.mpr h))
        clear c16
        obtain rfl := Option.some.inj H
        go_wp2
        go_ret
        exact ⟨eW, bO⟩
       rw [if_pos c16] at H
       have c16b0 : decide ((l1.length : Int) < (l0.length : Int)) = true := decide_eq_true c16
       have c16b1 : decide (l1.length < l0.length) = true := decide_eq_true (Int.ofNat_lt.mp c16)
       clear c16
       obtain rfl := Option.some.inj H
       go_wp2
       go_ret
       exact ⟨eW, bO⟩
      rw [if_pos c15] at H
      have c15b0 : decide ((l0.length : Int) < (l1.length : Int)) = true := decide_eq_true c15
      have c15b1 : decide (l0.length < l1.length) = true := decide_eq_true (Int.ofNat_lt.mp c15)
      clear c15
      obtain rfl := Option.some.inj H
      go_wp2
      go_ret
      exact ⟨eW, bO⟩
     subst c5
     rw [if_pos rfl] at H
     by_cases c6 : 0 ≤ x5_1
     rotate_left
     ·rw [if_neg c6] at H
      exact absurd H (by simp)
     rw [if_pos c6] at H
     have c6b0 : decide (0 ≤ x5_1) = true := decide_eq_true c6
     clear c6
     by_cases c7 : x5_1 < (l0.length : Int)
     rotate_left
     ·rw [if_neg c7] at H
      exact absurd H (by simp)
     rw [if_pos c7] at H
     have c7b0 : decide (x5_1 < (l0.length : Int)) = true := decide_eq_true c7
     clear c7
     by_cases c8 : x5_1 < (l1.length : Int)
     rotate_left
     ·rw [if_neg c8] at H
      exact absurd H (by simp)
     rw [if_pos c8] at H
     have c8b0 : decide (x5_1 < (l1.length : Int)) = true := decide_eq_true c8
     clear c8
     obtain ⟨t160, A9, H⟩ := oB H
     try dsimp only at H
     by_cases c10 : t160 = 0
     rotate_left
     ·rw [if_neg c10] at H
      have c10b0 : (t160 == 0) = false := beq_eq_false_iff_ne.mpr c10
      have c10b1 : (t160 != 0) = true := bne_iff_ne.mpr c10
      obtain rfl := Option.some.inj H
      try go_wp2
      have n0_ := aK (below_drew1 HB.out)
      clear HB
      have HB := n0_
      clear n0_
      have p158 : 0 ≤ (x5_1 : Int) := of_decide_eq_true (aA)
      have q158 : x5_1 < (l0.length : Int) := of_decide_eq_true (aA)
      obtain ⟨ad158, e158, hx158_0, hx158_1, hx158_2⟩ := at_T24 HR0.out x5_1 p158 q158
      have hw158_2 := hx158_2
      have hw158_1 := hx158_1
      have hw158_0 := hx158_0
      cases e158
      replace hx158_0 := hW HB.out hx158_0
      replace hx158_1 := hW HB.out hx158_1
      replace hx158_2 := hW HB.out hx158_2
      replace p158 := eq_true p158
      replace q158 := eq_true q158
      have p159 : 0 ≤ (x5_1 : Int) := of_decide_eq_true (aA)
      have q159 : x5_1 < (l1.length : Int) := of_decide_eq_true (aA)
      obtain ⟨ad159, e159, hx159_0, hx159_1, hx159_2⟩ := at_T24 HR1.out x5_1 p159 q159
      have hw159_2 := hx159_2
      have hw159_1 := hx159_1
      have hw159_0 := hx159_0
      cases e159
      replace hx159_0 := hW HB.out hx159_0
      replace hx159_1 := hW HB.out hx159_1
      replace hx159_2 := hW HB.out hx159_2
      replace p159 := eq_true p159
      replace q159 := eq_true q159
      refine start_ (n := 10) (S := fun w' => w'.cell? (ad158.add ((x5_1).toNat * 3)) = some (.int .i64 ((rd_T24 l0 x5_1).f0)) ∧ w'.cell? ⟨(ad158.add ((x5_1).toNat * 3)).block, (ad158.add ((x5_1).toNat * 3)).off + 1, none⟩ = some (.int .i64 ((rd_T24 l0 x5_1).f1)) ∧ w'.cell? ⟨(ad158.add ((x5_1).toNat * 3)).block, (ad158.add ((x5_1).toNat * 3)).off + 2, none⟩ = some (.string ((rd_T24 l0 x5_1).f2)) ∧ w'.cell? (ad159.add ((x5_1).toNat * 3)) = some (.int .i64 ((rd_T24 l1 x5_1).f0)) ∧ w'.cell? ⟨(ad159.add ((x5_1).toNat * 3)).block, (ad159.add ((x5_1).toNat * 3)).off + 1, none⟩ = some (.int .i64 ((rd_T24 l1 x5_1).f1)) ∧ w'.cell? ⟨(ad159.add ((x5_1).toNat * 3)).block, (ad159.add ((x5_1).toNat * 3)).off + 2, none⟩ = some (.string ((rd_T24 l1 x5_1).f2))) (ds := []) #[false, false, false, false, false, false, false, false, false, false] (by kernel_rfl) rfl rfl ⟨((HB.out.cell (World.block_lt_of_cell? w _ hw158_0)).trans hw158_0), ((HB.out.cell (World.block_lt_of_cell? w _ hw158_1)).trans hw158_1), ((HB.out.cell (World.block_lt_of_cell? w _ hw158_2)).trans hw158_2), ((HB.out.cell (World.block_lt_of_cell? w _ hw159_0)).trans hw159_0), ((HB.out.cell (World.block_lt_of_cell? w _ hw159_1)).trans hw159_1), ((HB.out.cell (World.block_lt_of_cell? w _ hw159_2)).trans hw159_2)⟩ (fun hHeld => ?_); refine with_tabW r1_CompareRows.tab4 r1_CompareRows.bits4 (fun HT_ HW_ => ?_)
      generalize wc.drew = w13 at HB hx158_0 hx158_1 hx158_2 hx159_0 hx159_1 hx159_2 hHeld ⊢
      refine pY (i := 0) (N := some 19) (tf 1 9) rfl rfl HT_.out ?_
      refine pY (i := 1) (N := some 20) (tf 2 8) rfl rfl HT_.out ?_
      refine pY (i := 2) (N := some 21) (tf 3 7) rfl rfl HT_.out ?_
      refine pY (i := 4) (N := some 23) #[true, true, true, false, true, false, false, false, false, false] rfl rfl HT_.out ?_
      refine pY (i := 5) (N := some 24) #[true, true, true, false, true, true, false, false, false, false] rfl rfl HT_.out ?_
      refine pY (i := 6) (N := some 25) #[true, true, true, false, true, true, true, false, false, false] rfl rfl HT_.out ?_
      refine take_ (i := 3) (N := some 22) (v := ?_) (a' := ?_) #[true, true, true, true, true, true, true, false, false, false] rfl rfl (take_ofW HT_.out HW_.out (by kernel_rfl)) (fun _ _ _ h => h) (Or.inl ⟨by rfl, ?_⟩) hHeld ?_ ?_
      rotate_left
      ·rintro w' ⟨s0, s1, s2, s3, s4, s5⟩
       go_simp
       with_reducible rfl
      rotate_left
      ·exact aP
      refine take_ (i := 7) (N := some 26) (v := ?_) (a' := ?_) #[true, true, true, true, true, true, true, true, false, false] rfl rfl (take_ofW HT_.out HW_.out (by kernel_rfl)) (fun _ _ _ h => h) (Or.inl ⟨by rfl, ?_⟩) hHeld ?_ ?_
      rotate_left
      ·rintro w' ⟨s0, s1, s2, s3, s4, s5⟩
       go_simp
       with_reducible rfl
      rotate_left
      ·exact aP
      refine one_ (i := 8) (N := some 27) #[true, true, true, true, true, true, true, true, true, false] rfl rfl (one_of HT_.out (by kernel_rfl)) (by decide) (fun K hK => ?_)
      refine goes_ Try.func26 (by kernel_rfl) rfl #[.agg #[.int .i64 ((rd_T24 l0 x5_1).f0), .int .i64 ((rd_T24 l0 x5_1).f1), .string ((rd_T24 l0 x5_1).f2)], .agg #[.int .i64 ((rd_T24 l1 x5_1).f0), .int .i64 ((rd_T24 l1 x5_1).f1), .string ((rd_T24 l1 x5_1).f2)]] (by rfl) rfl rfl (by (try simp only [List.map_toArray, List.map_cons, List.map_nil]); first | done | rfl | (simp only [List.length_drop, List.length_take]; rfl)) ?_
      with_reducible refine (r1_Compare.calls ((rd_T24 l0 x5_1).f0) ((rd_T24 l0 x5_1).f1) ((rd_T24 l0 x5_1).f2) ((rd_T24 l1 x5_1).f0) ((rd_T24 l1 x5_1).f1) ((rd_T24 l1 x5_1).f2) t160 _ A9.out).mono ?_
      rintro e w14 ⟨rfl, hb⟩
      refine ⟨_, rfl, ?_⟩
      have n0_ := aK (below_step bO hb)
      clear HB
      have HB := n0_
      clear n0_
      (try clear hb)
      (try clear hb2)
      (try clear hk)
      (try clear hi)
      refine hK.out _ _ ⟨((HB.out.cell (World.block_lt_of_cell? w _ hw158_0)).trans hw158_0), ((HB.out.cell (World.block_lt_of_cell? w _ hw158_1)).trans hw158_1), ((HB.out.cell (World.block_lt_of_cell? w _ hw158_2)).trans hw158_2), ((HB.out.cell (World.block_lt_of_cell? w _ hw159_0)).trans hw159_0), ((HB.out.cell (World.block_lt_of_cell? w _ hw159_1)).trans hw159_1), ((HB.out.cell (World.block_lt_of_cell? w _ hw159_2)).trans hw159_2)⟩ (fun hHeld => ?_)
      clear hK K
      refine norm_ (a' := ?_) ?_ ?_
      rotate_left
      ·show Act.put _ (some 27) _ = _
       simp only [Act.put, List.setIfInBounds_toArray, List.set_cons_zero, List.set_cons_succ, i64_w, i32_w]
       rfl
      refine pY (i := 9) (N := some 6) (tf 10 0) rfl rfl HT_.out ?_
      refine done_ (done_of HT_.out (by kernel_rfl)) ?_
      try go_wp2
      go_ret
      exact ⟨eW, bO⟩
     rw [if_pos c10] at H
     have c10b0 : (t160 == 0) = true := beq_iff_eq.mpr c10
     have c10b1 : (t160 != 0) = false := bne_eq_false_iff_eq.mpr c10
     clear c10
     have H' := Aside0.mk H
     clear H
     try go_wp2
     have n0_ := aK (below_drew1 HB.out)
     clear HB
     have HB := n0_
     clear n0_
     have p158 : 0 ≤ (x5_1 : Int) := of_decide_eq_true (aA)
     have q158 : x5_1 < (l0.length : Int) := of_decide_eq_true (aA)
     obtain ⟨ad158, e158, hx158_0, hx158_1, hx158_2⟩ := at_T24 HR0.out x5_1 p158 q158
     have hw158_2 := hx158_2
     have hw158_1 := hx158_1
     have hw158_0 := hx158_0
     cases e158
     replace hx158_0 := hW HB.out hx158_0
     replace hx158_1 := hW HB.out hx158_1
     replace hx158_2 := hW HB.out hx158_2
     replace p158 := eq_true p158
     replace q158 := eq_true q158
     have p159 : 0 ≤ (x5_1 : Int) := of_decide_eq_true (aA)
     have q159 : x5_1 < (l1.length : Int) := of_decide_eq_true (aA)
     obtain ⟨ad159, e159, hx159_0, hx159_1, hx159_2⟩ := at_T24 HR1.out x5_1 p159 q159
     have hw159_2 := hx159_2
     have hw159_1 := hx159_1
     have hw159_0 := hx159_0
     cases e159
     replace hx159_0 := hW HB.out hx159_0
     replace hx159_1 := hW HB.out hx159_1
     replace hx159_2 := hW HB.out hx159_2
     replace p159 := eq_true p159
     replace q159 := eq_true q159
     refine start_ (n := 10) (S := fun w' => w'.cell? (ad158.add ((x5_1).toNat * 3)) = some (.int .i64 ((rd_T24 l0 x5_1).f0)) ∧ w'.cell? ⟨(ad158.add ((x5_1).toNat * 3)).block, (ad158.add ((x5_1).toNat * 3)).off + 1, none⟩ = some (.int .i64 ((rd_T24 l0 x5_1).f1)) ∧ w'.cell? ⟨(ad158.add ((x5_1).toNat * 3)).block, (ad158.add ((x5_1).toNat * 3)).off + 2, none⟩ = some (.string ((rd_T24 l0 x5_1).f2)) ∧ w'.cell? (ad159.add ((x5_1).toNat * 3)) = some (.int .i64 ((rd_T24 l1 x5_1).f0)) ∧ w'.cell? ⟨(ad159.add ((x5_1).toNat * 3)).block, (ad159.add ((x5_1).toNat * 3)).off + 1, none⟩ = some (.int .i64 ((rd_T24 l1 x5_1).f1)) ∧ w'.cell? ⟨(ad159.add ((x5_1).toNat * 3)).block, (ad159.add ((x5_1).toNat * 3)).off + 2, none⟩ = some (.string ((rd_T24 l1 x5_1).f2))) (ds := []) #[false, false, false, false, false, false, false, false, false, false] (by kernel_rfl) rfl rfl ⟨((HB.out.cell (World.block_lt_of_cell? w _ hw158_0)).trans hw158_0), ((HB.out.cell (World.block_lt_of_cell? w _ hw158_1)).trans hw158_1), ((HB.out.cell (World.block_lt_of_cell? w _ hw158_2)).trans hw158_2), ((HB.out.cell (World.block_lt_of_cell? w _ hw159_0)).trans hw159_0), ((HB.out.cell (World.block_lt_of_cell? w _ hw159_1)).trans hw159_1), ((HB.out.cell (World.block_lt_of_cell? w _ hw159_2)).trans hw159_2)⟩ (fun hHeld => ?_); refine with_tabW r1_CompareRows.tab4 r1_CompareRows.bits4 (fun HT_ HW_ => ?_)
     generalize wc.drew = w11 at HB hx158_0 hx158_1 hx158_2 hx159_0 hx159_1 hx159_2 hHeld ⊢
     refine pY (i := 0) (N := some 19) (tf 1 9) rfl rfl HT_.out ?_
     refine pY (i := 1) (N := some 20) (tf 2 8) rfl rfl HT_.out ?_
     refine pY (i := 2) (N := some 21) (tf 3 7) rfl rfl HT_.out ?_
     refine pY (i := 4) (N := some 23) #[true, true, true, false, true, false, false, false, false, false] rfl rfl HT_.out ?_
     refine pY (i := 5) (N := some 24) #[true, true, true, false, true, true, false, false, false, false] rfl rfl HT_.out ?_
     refine pY (i := 6) (N := some 25) #[true, true, true, false, true, true, true, false, false, false] rfl rfl HT_.out ?_
     refine take_ (i := 3) (N := some 22) (v := ?_) (a' := ?_) #[true, true, true, true, true, true, true, false, false, false] rfl rfl (take_ofW HT_.out HW_.out (by kernel_rfl)) (fun _ _ _ h => h) (Or.inl ⟨by rfl, ?_⟩) hHeld ?_ ?_
     rotate_left
     ·rintro w' ⟨s0, s1, s2, s3, s4, s5⟩
      go_simp
      with_reducible rfl
     rotate_left
     ·exact aP
     refine take_ (i := 7) (N := some 26) (v := ?_) (a' := ?_) #[true, true, true, true, true, true, true, true, false, false] rfl rfl (take_ofW HT_.out HW_.out (by kernel_rfl)) (fun _ _ _ h => h) (Or.inl ⟨by rfl, ?_⟩) hHeld ?_ ?_
     rotate_left
     ·rintro w' ⟨s0, s1, s2, s3, s4, s5⟩
      go_simp
      with_reducible rfl
     rotate_left
     ·exact aP
     refine one_ (i := 8) (N := some 27) #[true, true, true, true, true, true, true, true, true, false] rfl rfl (one_of HT_.out (by kernel_rfl)) (by decide) (fun K hK => ?_)
     refine goes_ Try.func26 (by kernel_rfl) rfl #[.agg #[.int .i64 ((rd_T24 l0 x5_1).f0), .int .i64 ((rd_T24 l0 x5_1).f1), .string ((rd_T24 l0 x5_1).f2)], .agg #[.int .i64 ((rd_T24 l1 x5_1).f0), .int .i64 ((rd_T24 l1 x5_1).f1), .string ((rd_T24 l1 x5_1).f2)]] (by rfl) rfl rfl (by (try simp only [List.map_toArray, List.map_cons, List.map_nil]); first | done | rfl | (simp only [List.length_drop, List.length_take]; rfl)) ?_
     with_reducible refine (r1_Compare.calls ((rd_T24 l0 x5_1).f0) ((rd_T24 l0 x5_1).f1) ((rd_T24 l0 x5_1).f2) ((rd_T24 l1 x5_1).f0) ((rd_T24 l1 x5_1).f1) ((rd_T24 l1 x5_1).f2) t160 _ A9.out).mono ?_
     rintro e w12 ⟨rfl, hb⟩
     refine ⟨_, rfl, ?_⟩
     have n0_ := aK (below_step bO hb)
     clear HB
     have HB := n0_
     clear n0_
     (try clear hb)
     (try clear hb2)
     (try clear hk)
     (try clear hi)
     refine hK.out _ _ ⟨((HB.out.cell (World.block_lt_of_cell? w _ hw158_0)).trans hw158_0), ((HB.out.cell (World.block_lt_of_cell? w _ hw158_1)).trans hw158_1), ((HB.out.cell (World.block_lt_of_cell? w _ hw158_2)).trans hw158_2), ((HB.out.cell (World.block_lt_of_cell? w _ hw159_0)).trans hw159_0), ((HB.out.cell (World.block_lt_of_cell? w _ hw159_1)).trans hw159_1), ((HB.out.cell (World.block_lt_of_cell? w _ hw159_2)).trans hw159_2)⟩ (fun hHeld => ?_)
     clear hK K
     refine norm_ (a' := ?_) ?_ ?_
     rotate_left
     ·show Act.put _ (some 27) _ = _
      simp only [Act.put, List.setIfInBounds_toArray, List.set_cons_zero, List.set_cons_succ, i64_w, i32_w]
      rfl
     refine pY (i := 9) (N := some 6) (tf 10 0) rfl rfl HT_.out ?_
     refine done_ (done_of HT_.out (by kernel_rfl)) ?_
     try go_wp2
     go_roundg kj2
     case measure => have := HK1.out; have := HJ2.out; omega
     case rel => exact ⟨(wrap64 (x5_1 + 1)), (by first | rfl | (simp; done) | (simp [*]; done)), H', ⟨by have := HK1.out; have := HJ2.out; omega⟩, ⟨bO⟩⟩
end Go.Proofs.Ytpjcdacnhalclaa.Q
namespace Go.Proofs.Ytpjcdacnhalclaa.Q
open Go.RowKit Go.Proofs.YtpjcdacnhalclaaW.PrintWords Go.Proofs.YtpjcdacnhalclaaW.PrintLast Go.Proofs.YtpjcdacnhalclaaW.PrintMore
attribute [local go_sem] max2_int min2_int max_two min_two max_three min_three max_four min_four
theorem run_make_rowN {P : Program} (t e : TypeId) (i : TypeInfo) (z : Value) (ht : P.underlying t = some (.slice e)) (hi : P.info? e = some i) (hz : i.zero = some z)
  (kl kc : IntKind) (n c : Nat) (hnc : n ≤ c) (hbytes : i.bytes * c ≤ 281474976710656) (h63 : c ≤ 9223372036854775807) (w : World) :
  (Instr.makeSlice t (.int kl (n : Int)) (.int kc (c : Int))).run P w = .ok (.slice (some ⟨w.heap.size, 0, none⟩) n c) (w.alloc (.cells (madeCells z.cells (c * i.size)) e)) := by
 have hb : (i.bytes : Int) * (c : Int) ≤ 281474976710656 := by
  have h : ((i.bytes * c : Nat) : Int) ≤ 281474976710656 := by omega
  rwa [Int.natCast_mul] at h
 have hr := run_make (P := P) w t e i z ht hi hz kl kc n c (by omega) (by omega) hb (by omega)
 simp only [Int.toNat_natCast] at hr
 exact hr
def okRows (l0 : List (List S24)) : Bool := decide (l0.length < 65536) && l0.all (fun r => decide (r.length < 4398046511104))
theorem madeCells_one (z : Value) (n : Nat) : madeCells #[z] (n * 1) = (List.replicate n z).toArray := by
 apply Array.toList_inj.1
 rw [Nat.mul_one, toList_madeCells_one]
theorem cell_of_heap {w W : World} {g : Nat} (h : W.heap[g]? = w.heap[g]?) (j : Nat) : W.cell? ⟨g, j, none⟩ = w.cell? ⟨g, j, none⟩ := by simp only [World.cell?, h]
theorem lastOf_take (l : List (List S24)) (k : Nat) (h : k < l.length) : lastOf none (l.take (k + 1)) = some l[k] := by
 rw [List.take_succ_eq_append_getElem h]
 exact lastOf_snoc _ _ _
theorem ded_take0 (l : List (List S24)) (h : 0 < l.length) : ded none (l.take (0 + 1)) = ded none (l.take 0) ++ [l[0]] := by
 rw [List.take_succ_eq_append_getElem h]
 rfl
theorem ded_take (l : List (List S24)) (k : Nat) (h : k + 1 < l.length) : ded none (l.take (k + 1 + 1)) = ded none (l.take (k + 1)) ++ (if cmpL l[k] l[k + 1] = 0 then [] else [l[k + 1]]) := by
 rw [List.take_succ_eq_append_getElem h, ded_snoc, lastOf_take l k (by omega)]
theorem ded_len (l : List (List S24)) : ∀ o, (ded o l).length ≤ l.length := by
 induction l with
 | nil => intro o; cases o <;> simp [ded]
 | cons x xs ih =>
  intro o
  cases o with
  | none => simp only [ded, List.length_cons]; have := ih (some x); omega
  | some p =>
   simp only [ded]
   split
   ·have := ih (some x); simp only [List.length_cons]; omega
   ·have := ih (some x); simp only [List.length_cons]; omega
def r1_Copy.f (l0 : List (S24)) : Option ((List (S24))) := if ([] : List (S24)).length + l0.length < 4398046511104 then (some (([] : List (S24)) ++ l0)) else (none)
set_option maxHeartbeats 8000000 in
set_option maxRecDepth 100000 in
theorem r1_Copy.calls (A0 : Option Addr) (c0 : Nat) (l0 : List (S24)) (r : List (S24)) (w : World) (hr0 : Kd.C k24 w A0 l0.length l0) (hc0 : l0.length ≤ c0) (h : r1_Copy.f l0 = some r) :
  Calls Try.prog 89 #[.slice A0 l0.length c0] w fun e w' => ∃ v0_ : Value, e = .returned (v0_) ∧ Kd.R k24 24 w' w.heap.size (fun _ => True) v0_ r ∧ Below w.heap.size w w' := by
 have HR0 := Aside0.mk hr0
 have HC0 := Aside0.mk hc0
 clear hr0 hc0
 have HB := aK (Below.refl w.heap.size w)
 have H : (if ([] : List (S24)).length + l0.length < 4398046511104 then (some (([] : List (S24)) ++ l0)) else (none)) = some r := h
 clear h
 by_cases c2 : ([] : List (S24)).length + l0.length < 4398046511104
 rotate_left
 ·rw [if_neg c2] at H
  exact absurd H (by simp)
 rw [if_pos c2] at H
 have LMc2 := Aside0.mk c2
 clear c2
 obtain ⟨y161, hy161⟩ : ∃ y_ : List (S24), y_ = (([] : List (S24)) ++ l0) := ⟨_, rfl⟩
 replace H : (some y161) = some r := by first | (rw [hy161]; with_reducible exact H) | (have H2_ := (Option.bind_some _ _).symm.trans H; rw [hy161]; with_reducible exact H2_) | (have H2_ := (Option.bind_some _ _).symm.trans H; with_reducible exact H2_) | with_reducible exact H | (rw [hy161]; exact H) | exact H
 have Ny161 := Aside0.mk hy161
 clear hy161
 obtain rfl := Option.some.inj H
 go_enter Try.func89, Try.ntmps89
 go_wp2_with (first | ((with_reducible refine gate_builtin (b := .append) (xs := #[(.const (.slice none 0 0)), .tmp 3]) rfl ?_); at_builtin; refine Kd.R_append_rows k24 (w0 := w) w.heap.size rfl (.const (.slice none 0 0)) (.tmp 3) 54 24 (.agg #[(.int .i64 0), (.int .i64 0), (.string ⟨#[]⟩)]) 32 rfl Try.underlying54 info24 rfl (by decide) (by omega) (.slice none 0 0) ([] : List (S24)) l0 _ _ _ (fun _ => True) (fun _ => False) rfl rfl ?aO ?aR (fun _ _ h => h) (fun _ h => h.elim) ?aF ?aB ?aS ?aL ?_; (case aR => exact cX HR0.out); (case aB => exact bO); (case aF => exact (fun _ _ => trivial)); (case aO => exact ((Kd.R_nil _ _ _ _ (fun _ => True)))); (case aS => exact (below_size bO)); (case aL => have := LMc2.out; omega); intro v162 w3 ho hb hg hat; rw [← Ny161.out] at ho; have n0_ := aK (hb); have n1_ := aK (ho); clear HB; have HB := n0_; have HO163 := n1_; clear n0_ n1_ ho hb hg hat))
 go_ret
 exact ⟨_, eW, by (with_reducible repeat (first | apply Kd.R_alloc | apply Kd.R_drewN | apply Kd.R_drew)); exact HO163.out, bO⟩
def rdH {w0 : World} (xs : List (Hdr w0)) (i : Int) : Hdr w0 := xs.getD i.toNat default
theorem kH_at {w0 w : World} {A : Option Addr} {n : Nat} {xs : List (Hdr w0)} (h : Kd.C (kH w0) w A n xs) (i : Int) (h0 : 0 ≤ i) (h1 : i < n) : ∃ ad, A = some ad ∧ w.cell? (ad.add i.toNat) = some (.slice (rdH xs i).A (rdH xs i).xs.length (rdH xs i).c) :=
 ReadsOf.at_ (enc := Hdr.enc) (d := default) (Kd.reads_of_C (enc := Hdr.enc) (d := (default : Hdr w0)) (h1 := fun _ => rfl) h) i h0 h1
theorem R_room {w0 W : World} (n : Nat) (ok : Nat → Prop) (Z : Array Value) (hZ : Z.size = n) (hn : n ≤ maxLen) (hok : ok W.heap.size) : Kd.R (kH w0) 54 (W.alloc (.cells Z 54)) W.heap.size ok (.slice (some ⟨W.heap.size, 0, none⟩) 0 n) [] := by
 refine ⟨fun k hk => by simp only [Value.ownBlock, Option.some.injEq] at hk; subst hk; exact hok, [], ⟨rfl, .inr ⟨_, _, _, rfl, Nat.le_refl _, heap_alloc_new W _, Nat.zero_le _, hn, ?_, ?_⟩⟩, rfl, fun j p hj => by simp at hj⟩
 ·rw [hZ]; exact (Nat.mul_one n).symm
 ·simp
end Go.Proofs.Ytpjcdacnhalclaa.Q
