/- A part of a proof: facts of functions that the law calls; conditions stand in each. -/
import Derived.Test.YtpjcdacnhalclaaM14x3
import Derived.Test.YtpjcdacnhalclaaM14x26
import Derived.Test.YtpjcdacnhalclaaM14x6
import Derived.Test.YtpjcdacnhalclaaM14x13
import Derived.Test.YtpjcdacnhalclaaM14x15
import Derived.Test.YtpjcdacnhalclaaM14x4
set_option linter.unusedVariables false
set_option linter.unusedSimpArgs false
namespace Go.Proofs.Ytpjcdacnhalclaa.Q
open Go.RowKit Go.Proofs.YtpjcdacnhalclaaW.PrintWords Go.Proofs.YtpjcdacnhalclaaW.PrintLast Go.Proofs.YtpjcdacnhalclaaW.PrintMore
attribute [local go_sem] max2_int min2_int max_two min_two max_three min_three max_four min_four
def r3_Valid.f (k : Nat) (l0 : List (S65)) : Option (Bool) := if (l0.length : Int) ≤ 64 then ((r3_Ordered.f k l0).bind fun t973 => (some t973)) else (some false)
set_option maxHeartbeats 8000000 in
set_option maxRecDepth 100000 in
theorem r3_Valid.calls (k : Nat) (A0 : Option Addr) (c0 : Nat) (l0 : List (S65)) (r : Bool) (w : World) (hr0 : Kd.C k65 w A0 l0.length l0) (hc0 : l0.length ≤ c0) (h : r3_Valid.f k l0 = some r) :
  Calls Try.prog 61 #[.slice A0 l0.length c0] w fun e w' => e = .returned (.bool r) ∧ Below w.heap.size w w' := by
 have HR0 := Aside0.mk hr0
 have HC0 := Aside0.mk hc0
 clear hr0 hc0
 have HB := aK (Below.refl w.heap.size w)
 have H : (if (l0.length : Int) ≤ 64 then ((r3_Ordered.f k l0).bind fun t973 => (some t973)) else (some false)) = some r := h
 clear h
 by_cases c2 : (l0.length : Int) ≤ 64
 rotate_left
 ·rw [if_neg c2] at H
  have c2b0 : decide ((l0.length : Int) ≤ 64) = false := decide_eq_false c2
  have c2b1 : decide (l0.length ≤ 64) = false := decide_eq_false (by omega)
  clear c2
  obtain rfl := Option.some.inj H
  go_enter Try.func61, Try.ntmps61
  go_wp2
  go_ret
  exact ⟨eW, bO⟩
 rw [if_pos c2] at H
 have c2b0 : decide ((l0.length : Int) ≤ 64) = true := decide_eq_true c2
 have c2b1 : decide (l0.length ≤ 64) = true := decide_eq_true (by omega)
 clear c2
 obtain ⟨t973, A3, H⟩ := oB H
 try dsimp only at H
 obtain rfl := Option.some.inj H
 go_enter Try.func61, Try.ntmps61
 go_wp2_with (first | (go_at_call 91; (with_reducible refine (r3_Ordered.calls k _ _ l0 t973 _ ?side1 ?side2 A3.out).mono ?_); (case side1 => exact cX HR0.out); (case side2 => exact HC0.out); rintro e w4 ⟨rfl, hb⟩; have n0_ := aK (below_step bO hb); clear HB; have HB := n0_; clear n0_; (try clear hb)))
 go_ret
 exact ⟨eW, bO⟩
def i_Least.f (k : Nat) (l0 : List (S65)) : Option (Int × Int × ByteArray × Bool) := if (l0.length : Int) = 0 then (some (0, 0, (⟨#[]⟩ : ByteArray), false)) else ((i_Valid.f k l0).bind fun t975 => (if t975 = true then (if 0 < (l0.length : Int) then (some ((rd_T65 l0 0).f0.f0, (rd_T65 l0 0).f0.f1, (rd_T65 l0 0).f0.f2, true)) else (none)) else (some (0, 0, (⟨#[]⟩ : ByteArray), false))))
set_option maxHeartbeats 8000000 in
set_option maxRecDepth 100000 in
theorem i_Least.calls (k : Nat) (A0 : Option Addr) (c0 : Nat) (l0 : List (S65)) (r1 : Int) (r2 : Int) (r3 : ByteArray) (r4 : Bool) (w : World) (hr0 : Kd.C k65 w A0 l0.length l0) (hc0 : l0.length ≤ c0) (h : i_Least.f k l0 = some (r1, r2, r3, r4)) :
  Calls Try.prog 62 #[.slice A0 l0.length c0] w fun e w' => e = .returned (.tuple #[.agg #[.int .i64 r1, .int .i64 r2, .string r3], .bool r4]) ∧ Below w.heap.size w w' := by
 have hu24 := Try.underlying24
 have HR0 := Aside0.mk hr0
 have HC0 := Aside0.mk hc0
 clear hr0 hc0
 have HB := aK (Below.refl w.heap.size w)
 have H : (if (l0.length : Int) = 0 then (some (0, 0, (⟨#[]⟩ : ByteArray), false)) else ((i_Valid.f k l0).bind fun t975 => (if t975 = true then (if 0 < (l0.length : Int) then (some ((rd_T65 l0 0).f0.f0, (rd_T65 l0 0).f0.f1, (rd_T65 l0 0).f0.f2, true)) else (none)) else (some (0, 0, (⟨#[]⟩ : ByteArray), false))))) = some (r1, r2, r3, r4) := h
 clear h
 by_cases c2 : (l0.length : Int) = 0
 rotate_left
 ·rw [if_neg c2] at H
  have c2b0 : ((l0.length : Int) == 0) = false := beq_eq_false_iff_ne.mpr c2
  have c2b1 : ((l0.length : Int) != 0) = true := bne_iff_ne.mpr c2
  have c2b2 : ¬ (l0 = []) := fun h_ => c2 (by rw [h_]; rfl)
  obtain ⟨t975, A5, H⟩ := oB H
  try dsimp only at H
  by_cases c6 : t975 = true
  rotate_left
  ·replace c6 := Bool.eq_false_iff.mpr c6
   subst c6
   rw [if_neg (show ¬ (false = true) by decide)] at H
   simp only [Option.some.injEq, Prod.mk.injEq] at H
   obtain ⟨rfl, rfl, rfl, rfl⟩ := H
   go_enter Try.func62, Try.ntmps62
   go_wp2_with (first | ((with_reducible refine gate_dst (N := 2) rfl ?_); refine box_event ?hg (N := 2) ?hd (cs := #[.int .i64 0, .int .i64 0, .string (⟨#[]⟩ : ByteArray)]) (t := 24) ?hr ?_; (case hd => rfl); (case hg => rfl); (case hr => exact hR); intro gb974 hg w11 hbox hb; have n0_ := aK (below_step bO hb); have n1_ := aK (hbox); have n2_ := aK ((by rw [hg]; exact (below_size bO) : w.heap.size ≤ gb974)); have n3_ := aK ((by rw [hg]; exact (below_size bO) : w.heap.size ≤ gb974)); clear HB; have HB := n0_; have BK974 := n1_; have GW974 := n2_; have GE974 := n3_; clear n0_ n1_ n2_ n3_ hb hbox hg) | (go_at_call 37; (with_reducible refine (i_Valid.calls k _ _ l0 false _ ?side1 ?side2 A5.out).mono ?_); (case side1 => repeat (first | exact (Kd.C_below HR0.out HB.out) | (with_reducible refine Kd.C_alloc ?_ _) | (with_reducible refine Kd.C_drewN ?_ _) | (with_reducible refine Kd.C_drew ?_))); (case side2 => exact HC0.out); rintro e w12 ⟨rfl, hb⟩; have n0_ := aK (blk_below (bX BK974.out) hb); have n1_ := aK (below_step (bS GE974.out) hb); clear BK974 HB; have BK974 := n0_; have HB := n1_; clear n0_ n1_; (try clear hb); obtain ⟨hcz13_0, hcz13_1, hcz13_2⟩ := z3 BK974.out (.int .i64 0) (.int .i64 0) (.string (⟨#[]⟩ : ByteArray)); obtain ⟨hfz13_0, hfz13_1, hfz13_2⟩ := f3 BK974.out))
   refine bodyPost_ret (results_ct rfl _ _ gb974 24 #[.int .i64 0, .int .i64 0, .string (⟨#[]⟩ : ByteArray)] (0, 0) _ rfl (put3 BK974.out) Try.underlying24 rfl (by kernel_rfl)) rfl ?_
   exact ⟨eW, bS GE974.out⟩
  subst c6
  rw [if_pos rfl] at H
  by_cases c7 : 0 < (l0.length : Int)
  rotate_left
  ·rw [if_neg c7] at H
   exact absurd H (by simp)
  rw [if_pos c7] at H
  have c7b0 : decide (0 < (l0.length : Int)) = true := decide_eq_true c7
  have c7b1 : decide (0 < l0.length) = true := decide_eq_true (by omega)
  clear c7
  simp only [Option.some.injEq, Prod.mk.injEq] at H
  obtain ⟨rfl, rfl, rfl, rfl⟩ := H
  go_enter Try.func62, Try.ntmps62
  go_wp2_with (first | ((with_reducible refine gate_dst (N := 2) rfl ?_); refine box_event ?hg (N := 2) ?hd (cs := #[.int .i64 0, .int .i64 0, .string (⟨#[]⟩ : ByteArray)]) (t := 24) ?hr ?_; (case hd => rfl); (case hg => rfl); (case hr => exact hR); intro gb974 hg w8 hbox hb; have n0_ := aK (below_step bO hb); have n1_ := aK (hbox); have n2_ := aK ((by rw [hg]; exact (below_size bO) : w.heap.size ≤ gb974)); have n3_ := aK ((by rw [hg]; exact (below_size bO) : w.heap.size ≤ gb974)); clear HB; have HB := n0_; have BK974 := n1_; have GW974 := n2_; have GE974 := n3_; clear n0_ n1_ n2_ n3_ hb hbox hg) | (go_at_call 37; (with_reducible refine (i_Valid.calls k _ _ l0 true _ ?side1 ?side2 A5.out).mono ?_); (case side1 => repeat (first | exact (Kd.C_below HR0.out HB.out) | (with_reducible refine Kd.C_alloc ?_ _) | (with_reducible refine Kd.C_drewN ?_ _) | (with_reducible refine Kd.C_drew ?_))); (case side2 => exact HC0.out); rintro e w9 ⟨rfl, hb⟩; have n0_ := aK (blk_below (bX BK974.out) hb); have n1_ := aK (below_step (bS GE974.out) hb); clear BK974 HB; have BK974 := n0_; have HB := n1_; clear n0_ n1_; (try clear hb); have p976 : 0 ≤ (0 : Int) := (by omega); have q976 : 0 < (l0.length : Int) := of_decide_eq_true (aA); obtain ⟨ad976, e976, hx976_0, hx976_1, hx976_2, hx976_3, hx976_4, hx976_5, hx976_6⟩ := at_T65 HR0.out 0 p976 q976; cases e976; have qi976 : (0 < l0.length) = True := eq_true (by omega); (try rw [show ((0 : Int)).toNat = 0 from rfl] at hx976_0); (try rw [show 0 * 7 = 0 from rfl] at hx976_0); (try rw [Addr.add_zero'] at hx976_0); (try rw [show ((0 : Int)).toNat = 0 from rfl] at hx976_1); (try rw [show 0 * 7 = 0 from rfl] at hx976_1); (try rw [Addr.add_zero'] at hx976_1); (try rw [show ((0 : Int)).toNat = 0 from rfl] at hx976_2); (try rw [show 0 * 7 = 0 from rfl] at hx976_2); (try rw [Addr.add_zero'] at hx976_2); (try rw [show ((0 : Int)).toNat = 0 from rfl] at hx976_3); (try rw [show 0 * 7 = 0 from rfl] at hx976_3); (try rw [Addr.add_zero'] at hx976_3); (try rw [show ((0 : Int)).toNat = 0 from rfl] at hx976_4); (try rw [show 0 * 7 = 0 from rfl] at hx976_4); (try rw [Addr.add_zero'] at hx976_4); (try rw [show ((0 : Int)).toNat = 0 from rfl] at hx976_5); (try rw [show 0 * 7 = 0 from rfl] at hx976_5); (try rw [Addr.add_zero'] at hx976_5); (try rw [show ((0 : Int)).toNat = 0 from rfl] at hx976_6); (try rw [show 0 * 7 = 0 from rfl] at hx976_6); (try rw [Addr.add_zero'] at hx976_6); replace hx976_0 := hW HB.out hx976_0; replace hx976_1 := hW HB.out hx976_1; replace hx976_2 := hW HB.out hx976_2; replace hx976_3 := hW HB.out hx976_3; replace hx976_4 := hW HB.out hx976_4; replace hx976_5 := hW HB.out hx976_5; replace hx976_6 := hW HB.out hx976_6; replace p976 := eq_true p976; replace q976 := eq_true q976; obtain ⟨hcz10_0, hcz10_1, hcz10_2⟩ := z3 BK974.out (.int .i64 0) (.int .i64 0) (.string (⟨#[]⟩ : ByteArray)); obtain ⟨hfz10_0, hfz10_1, hfz10_2⟩ := f3 BK974.out))
  refine bodyPost_ret (results_ct rfl _ _ gb974 24 #[.int .i64 ((rd_T65 l0 0).f0.f0), .int .i64 ((rd_T65 l0 0).f0.f1), .string ((rd_T65 l0 0).f0.f2)] (0, 0) _ rfl (put3 BK974.out) Try.underlying24 rfl (by kernel_rfl)) rfl ?_
  exact ⟨eW, bS GE974.out⟩
 rw [if_pos c2] at H
 have c2b0 : ((l0.length : Int) == 0) = true := beq_iff_eq.mpr c2
 have c2b1 : ((l0.length : Int) != 0) = false := bne_eq_false_iff_eq.mpr c2
 clear c2
 simp only [Option.some.injEq, Prod.mk.injEq] at H
 obtain ⟨rfl, rfl, rfl, rfl⟩ := H
 go_enter Try.func62, Try.ntmps62
 go_wp2_with (first | ((with_reducible refine gate_dst (N := 2) rfl ?_); refine box_event ?hg (N := 2) ?hd (cs := #[.int .i64 0, .int .i64 0, .string (⟨#[]⟩ : ByteArray)]) (t := 24) ?hr ?_; (case hd => rfl); (case hg => rfl); (case hr => exact hR); intro gb974 hg w3 hbox hb; have n0_ := aK (below_step bO hb); have n1_ := aK (hbox); have n2_ := aK ((by rw [hg]; exact (below_size bO) : w.heap.size ≤ gb974)); have n3_ := aK ((by rw [hg]; exact (below_size bO) : w.heap.size ≤ gb974)); clear HB; have HB := n0_; have BK974 := n1_; have GW974 := n2_; have GE974 := n3_; clear n0_ n1_ n2_ n3_ hb hbox hg; obtain ⟨hcz4_0, hcz4_1, hcz4_2⟩ := z3 BK974.out (.int .i64 0) (.int .i64 0) (.string (⟨#[]⟩ : ByteArray)); obtain ⟨hfz4_0, hfz4_1, hfz4_2⟩ := f3 BK974.out))
 refine bodyPost_ret (results_ct rfl _ _ gb974 24 #[.int .i64 0, .int .i64 0, .string (⟨#[]⟩ : ByteArray)] (0, 0) _ rfl (put3 BK974.out) Try.underlying24 rfl (by kernel_rfl)) rfl ?_
 exact ⟨eW, bS GE974.out⟩
def r3_Least.f (k : Nat) (l0 : List (S65)) : Option (Int × Int × ByteArray × Bool) := if (l0.length : Int) = 0 then (some (0, 0, (⟨#[]⟩ : ByteArray), false)) else ((r3_Valid.f k l0).bind fun t978 => (if t978 = true then (if 0 < (l0.length : Int) then (some ((rd_T65 l0 0).f0.f0, (rd_T65 l0 0).f0.f1, (rd_T65 l0 0).f0.f2, true)) else (none)) else (some (0, 0, (⟨#[]⟩ : ByteArray), false))))
set_option maxHeartbeats 8000000 in
set_option maxRecDepth 100000 in
theorem r3_Least.calls (k : Nat) (A0 : Option Addr) (c0 : Nat) (l0 : List (S65)) (r1 : Int) (r2 : Int) (r3 : ByteArray) (r4 : Bool) (w : World) (hr0 : Kd.C k65 w A0 l0.length l0) (hc0 : l0.length ≤ c0) (h : r3_Least.f k l0 = some (r1, r2, r3, r4)) :
  Calls Try.prog 63 #[.slice A0 l0.length c0] w fun e w' => e = .returned (.tuple #[.agg #[.int .i64 r1, .int .i64 r2, .string r3], .bool r4]) ∧ Below w.heap.size w w' := by
 have hu24 := Try.underlying24
 have HR0 := Aside0.mk hr0
 have HC0 := Aside0.mk hc0
 clear hr0 hc0
 have HB := aK (Below.refl w.heap.size w)
 have H : (if (l0.length : Int) = 0 then (some (0, 0, (⟨#[]⟩ : ByteArray), false)) else ((r3_Valid.f k l0).bind fun t978 => (if t978 = true then (if 0 < (l0.length : Int) then (some ((rd_T65 l0 0).f0.f0, (rd_T65 l0 0).f0.f1, (rd_T65 l0 0).f0.f2, true)) else (none)) else (some (0, 0, (⟨#[]⟩ : ByteArray), false))))) = some (r1, r2, r3, r4) := h
 clear h
 by_cases c2 : (l0.length : Int) = 0
 rotate_left
 ·rw [if_neg c2] at H
  have c2b0 : ((l0.length : Int) == 0) = false := beq_eq_false_iff_ne.mpr c2
  have c2b1 : ((l0.length : Int) != 0) = true := bne_iff_ne.mpr c2
  have c2b2 : ¬ (l0 = []) := fun h_ => c2 (by rw [h_]; rfl)
  obtain ⟨t978, A5, H⟩ := oB H
  try dsimp only at H
  by_cases c6 : t978 = true
  rotate_left
  ·replace c6 := Bool.eq_false_iff.mpr c6
   subst c6
   rw [if_neg (show ¬ (false = true) by decide)] at H
   simp only [Option.some.injEq, Prod.mk.injEq] at H
   obtain ⟨rfl, rfl, rfl, rfl⟩ := H
   go_enter Try.func63, Try.ntmps63
   go_wp2_with (first | ((with_reducible refine gate_dst (N := 2) rfl ?_); refine box_event ?hg (N := 2) ?hd (cs := #[.int .i64 0, .int .i64 0, .string (⟨#[]⟩ : ByteArray)]) (t := 24) ?hr ?_; (case hd => rfl); (case hg => rfl); (case hr => exact hR); intro gb977 hg w11 hbox hb; have n0_ := aK (below_step bO hb); have n1_ := aK (hbox); have n2_ := aK ((by rw [hg]; exact (below_size bO) : w.heap.size ≤ gb977)); have n3_ := aK ((by rw [hg]; exact (below_size bO) : w.heap.size ≤ gb977)); clear HB; have HB := n0_; have BK977 := n1_; have GW977 := n2_; have GE977 := n3_; clear n0_ n1_ n2_ n3_ hb hbox hg) | (go_at_call 61; (with_reducible refine (r3_Valid.calls k _ _ l0 false _ ?side1 ?side2 A5.out).mono ?_); (case side1 => repeat (first | exact (Kd.C_below HR0.out HB.out) | (with_reducible refine Kd.C_alloc ?_ _) | (with_reducible refine Kd.C_drewN ?_ _) | (with_reducible refine Kd.C_drew ?_))); (case side2 => exact HC0.out); rintro e w12 ⟨rfl, hb⟩; have n0_ := aK (blk_below (bX BK977.out) hb); have n1_ := aK (below_step (bS GE977.out) hb); clear BK977 HB; have BK977 := n0_; have HB := n1_; clear n0_ n1_; (try clear hb); obtain ⟨hcz13_0, hcz13_1, hcz13_2⟩ := z3 BK977.out (.int .i64 0) (.int .i64 0) (.string (⟨#[]⟩ : ByteArray)); obtain ⟨hfz13_0, hfz13_1, hfz13_2⟩ := f3 BK977.out))
   refine bodyPost_ret (results_ct rfl _ _ gb977 24 #[.int .i64 0, .int .i64 0, .string (⟨#[]⟩ : ByteArray)] (0, 0) _ rfl (put3 BK977.out) Try.underlying24 rfl (by kernel_rfl)) rfl ?_
   exact ⟨eW, bS GE977.out⟩
  subst c6
  rw [if_pos rfl] at H
  by_cases c7 : 0 < (l0.length : Int)
  rotate_left
  ·rw [if_neg c7] at H
   exact absurd H (by simp)
  rw [if_pos c7] at H
  have c7b0 : decide (0 < (l0.length : Int)) = true := decide_eq_true c7
  have c7b1 : decide (0 < l0.length) = true := decide_eq_true (by omega)
  clear c7
  simp only [Option.some.injEq, Prod.mk.injEq] at H
  obtain ⟨rfl, rfl, rfl, rfl⟩ := H
  go_enter Try.func63, Try.ntmps63
  go_wp2_with (first | ((with_reducible refine gate_dst (N := 2) rfl ?_); refine box_event ?hg (N := 2) ?hd (cs := #[.int .i64 0, .int .i64 0, .string (⟨#[]⟩ : ByteArray)]) (t := 24) ?hr ?_; (case hd => rfl); (case hg => rfl); (case hr => exact hR); intro gb977 hg w8 hbox hb; have n0_ := aK (below_step bO hb); have n1_ := aK (hbox); have n2_ := aK ((by rw [hg]; exact (below_size bO) : w.heap.size ≤ gb977)); have n3_ := aK ((by rw [hg]; exact (below_size bO) : w.heap.size ≤ gb977)); clear HB; have HB := n0_; have BK977 := n1_; have GW977 := n2_; have GE977 := n3_; clear n0_ n1_ n2_ n3_ hb hbox hg) | (go_at_call 61; (with_reducible refine (r3_Valid.calls k _ _ l0 true _ ?side1 ?side2 A5.out).mono ?_); (case side1 => repeat (first | exact (Kd.C_below HR0.out HB.out) | (with_reducible refine Kd.C_alloc ?_ _) | (with_reducible refine Kd.C_drewN ?_ _) | (with_reducible refine Kd.C_drew ?_))); (case side2 => exact HC0.out); rintro e w9 ⟨rfl, hb⟩; have n0_ := aK (blk_below (bX BK977.out) hb); have n1_ := aK (below_step (bS GE977.out) hb); clear BK977 HB; have BK977 := n0_; have HB := n1_; clear n0_ n1_; (try clear hb); have p979 : 0 ≤ (0 : Int) := (by omega); have q979 : 0 < (l0.length : Int) := of_decide_eq_true (aA); obtain ⟨ad979, e979, hx979_0, hx979_1, hx979_2, hx979_3, hx979_4, hx979_5, hx979_6⟩ := at_T65 HR0.out 0 p979 q979; cases e979; have qi979 : (0 < l0.length) = True := eq_true (by omega); (try rw [show ((0 : Int)).toNat = 0 from rfl] at hx979_0); (try rw [show 0 * 7 = 0 from rfl] at hx979_0); (try rw [Addr.add_zero'] at hx979_0); (try rw [show ((0 : Int)).toNat = 0 from rfl] at hx979_1); (try rw [show 0 * 7 = 0 from rfl] at hx979_1); (try rw [Addr.add_zero'] at hx979_1); (try rw [show ((0 : Int)).toNat = 0 from rfl] at hx979_2); (try rw [show 0 * 7 = 0 from rfl] at hx979_2); (try rw [Addr.add_zero'] at hx979_2); (try rw [show ((0 : Int)).toNat = 0 from rfl] at hx979_3); (try rw [show 0 * 7 = 0 from rfl] at hx979_3); (try rw [Addr.add_zero'] at hx979_3); (try rw [show ((0 : Int)).toNat = 0 from rfl] at hx979_4); (try rw [show 0 * 7 = 0 from rfl] at hx979_4); (try rw [Addr.add_zero'] at hx979_4); (try rw [show ((0 : Int)).toNat = 0 from rfl] at hx979_5); (try rw [show 0 * 7 = 0 from rfl] at hx979_5); (try rw [Addr.add_zero'] at hx979_5); (try rw [show ((0 : Int)).toNat = 0 from rfl] at hx979_6); (try rw [show 0 * 7 = 0 from rfl] at hx979_6); (try rw [Addr.add_zero'] at hx979_6); replace hx979_0 := hW HB.out hx979_0; replace hx979_1 := hW HB.out hx979_1; replace hx979_2 := hW HB.out hx979_2; replace hx979_3 := hW HB.out hx979_3; replace hx979_4 := hW HB.out hx979_4; replace hx979_5 := hW HB.out hx979_5; replace hx979_6 := hW HB.out hx979_6; replace p979 := eq_true p979; replace q979 := eq_true q979; obtain ⟨hcz10_0, hcz10_1, hcz10_2⟩ := z3 BK977.out (.int .i64 0) (.int .i64 0) (.string (⟨#[]⟩ : ByteArray)); obtain ⟨hfz10_0, hfz10_1, hfz10_2⟩ := f3 BK977.out))
  refine bodyPost_ret (results_ct rfl _ _ gb977 24 #[.int .i64 ((rd_T65 l0 0).f0.f0), .int .i64 ((rd_T65 l0 0).f0.f1), .string ((rd_T65 l0 0).f0.f2)] (0, 0) _ rfl (put3 BK977.out) Try.underlying24 rfl (by kernel_rfl)) rfl ?_
  exact ⟨eW, bS GE977.out⟩
 rw [if_pos c2] at H
 have c2b0 : ((l0.length : Int) == 0) = true := beq_iff_eq.mpr c2
 have c2b1 : ((l0.length : Int) != 0) = false := bne_eq_false_iff_eq.mpr c2
 clear c2
 simp only [Option.some.injEq, Prod.mk.injEq] at H
 obtain ⟨rfl, rfl, rfl, rfl⟩ := H
 go_enter Try.func63, Try.ntmps63
 go_wp2_with (first | ((with_reducible refine gate_dst (N := 2) rfl ?_); refine box_event ?hg (N := 2) ?hd (cs := #[.int .i64 0, .int .i64 0, .string (⟨#[]⟩ : ByteArray)]) (t := 24) ?hr ?_; (case hd => rfl); (case hg => rfl); (case hr => exact hR); intro gb977 hg w3 hbox hb; have n0_ := aK (below_step bO hb); have n1_ := aK (hbox); have n2_ := aK ((by rw [hg]; exact (below_size bO) : w.heap.size ≤ gb977)); have n3_ := aK ((by rw [hg]; exact (below_size bO) : w.heap.size ≤ gb977)); clear HB; have HB := n0_; have BK977 := n1_; have GW977 := n2_; have GE977 := n3_; clear n0_ n1_ n2_ n3_ hb hbox hg; obtain ⟨hcz4_0, hcz4_1, hcz4_2⟩ := z3 BK977.out (.int .i64 0) (.int .i64 0) (.string (⟨#[]⟩ : ByteArray)); obtain ⟨hfz4_0, hfz4_1, hfz4_2⟩ := f3 BK977.out))
 refine bodyPost_ret (results_ct rfl _ _ gb977 24 #[.int .i64 0, .int .i64 0, .string (⟨#[]⟩ : ByteArray)] (0, 0) _ rfl (put3 BK977.out) Try.underlying24 rfl (by kernel_rfl)) rfl ?_
 exact ⟨eW, bS GE977.out⟩
def r3_Has.f (k : Nat) (l0 : List (S65)) (a1_0 : Int) (a1_1 : Int) (a1_2 : ByteArray) : Option (Bool) := (r1_Valid.f k a1_0 a1_1 a1_2).bind fun t981 => (if t981 = true then ((r3_Valid.f k l0).bind fun t982 => (if t982 = true then ((r3_In.f k l0 a1_0 a1_1 a1_2).bind fun t983 => (some t983)) else (some false))) else (some false))
set_option maxHeartbeats 8000000 in
set_option maxRecDepth 100000 in
theorem r3_Has.calls (k : Nat) (A0 : Option Addr) (c0 : Nat) (l0 : List (S65)) (a1_0 : Int) (a1_1 : Int) (a1_2 : ByteArray) (r : Bool) (w : World) (hr0 : Kd.C k65 w A0 l0.length l0) (hc0 : l0.length ≤ c0) (h : r3_Has.f k l0 a1_0 a1_1 a1_2 = some r) :
  Calls Try.prog 64 #[.slice A0 l0.length c0, .agg #[.int .i64 a1_0, .int .i64 a1_1, .string a1_2]] w fun e w' => e = .returned (.bool r) ∧ Below w.heap.size w w' := by
 have hu24 := Try.underlying24
 have HR0 := Aside0.mk hr0
 have HC0 := Aside0.mk hc0
 clear hr0 hc0
 have HB := aK (Below.refl w.heap.size w)
 have H : ((r1_Valid.f k a1_0 a1_1 a1_2).bind fun t981 => (if t981 = true then ((r3_Valid.f k l0).bind fun t982 => (if t982 = true then ((r3_In.f k l0 a1_0 a1_1 a1_2).bind fun t983 => (some t983)) else (some false))) else (some false))) = some r := h
 clear h
 obtain ⟨t981, A3, H⟩ := oB H
 try dsimp only at H
 by_cases c4 : t981 = true
 rotate_left
 ·replace c4 := Bool.eq_false_iff.mpr c4
  subst c4
  rw [if_neg (show ¬ (false = true) by decide)] at H
  obtain rfl := Option.some.inj H
  go_enter Try.func64, Try.ntmps64
  go_wp2_with (first | ((with_reducible refine gate_dst (N := 3) rfl ?_); refine box_event ?hg (N := 3) ?hd (cs := #[.int .i64 a1_0, .int .i64 a1_1, .string a1_2]) (t := 24) ?hr ?_; (case hd => rfl); (case hg => rfl); (case hr => exact hR); intro gb980 hg w18 hbox hb; have n0_ := aK (below_step bO hb); have n1_ := aK (hbox); have n2_ := aK ((by rw [hg]; exact (below_size bO) : w.heap.size ≤ gb980)); have n3_ := aK ((by rw [hg]; exact (below_size bO) : w.heap.size ≤ gb980)); clear HB; have HB := n0_; have BK980 := n1_; have GW980 := n2_; have GE980 := n3_; clear n0_ n1_ n2_ n3_ hb hbox hg; obtain ⟨hcz19_0, hcz19_1, hcz19_2⟩ := z3 BK980.out (.int .i64 a1_0) (.int .i64 a1_1) (.string a1_2); obtain ⟨hfz19_0, hfz19_1, hfz19_2⟩ := f3 BK980.out) | ((with_reducible refine gate_callee (f := 23) rfl ?_); refine gL (some 6) rfl Try.func23 #[.agg #[.int .i64 a1_0, .int .i64 a1_1, .string a1_2]] rfl ?_; (with_reducible refine (r1_Valid.calls k a1_0 a1_1 a1_2 false _ A3.out).mono ?_); rintro e w20 ⟨rfl, hb⟩; refine ⟨_, rfl, ?_⟩; have n0_ := aK (blk_below (bX BK980.out) hb); have n1_ := aK (below_step (bS GE980.out) hb); clear BK980 HB; have BK980 := n0_; have HB := n1_; clear n0_ n1_; (try clear hb)))
  go_ret
  exact ⟨eW, bS GE980.out⟩
 subst c4
 rw [if_pos rfl] at H
 obtain ⟨t982, A5, H⟩ := oB H
 try dsimp only at H
 by_cases c6 : t982 = true
 rotate_left
 ·replace c6 := Bool.eq_false_iff.mpr c6
  subst c6
  rw [if_neg (show ¬ (false = true) by decide)] at H
  obtain rfl := Option.some.inj H
  go_enter Try.func64, Try.ntmps64
  go_wp2_with (first | ((with_reducible refine gate_dst (N := 3) rfl ?_); refine box_event ?hg (N := 3) ?hd (cs := #[.int .i64 a1_0, .int .i64 a1_1, .string a1_2]) (t := 24) ?hr ?_; (case hd => rfl); (case hg => rfl); (case hr => exact hR); intro gb980 hg w14 hbox hb; have n0_ := aK (below_step bO hb); have n1_ := aK (hbox); have n2_ := aK ((by rw [hg]; exact (below_size bO) : w.heap.size ≤ gb980)); have n3_ := aK ((by rw [hg]; exact (below_size bO) : w.heap.size ≤ gb980)); clear HB; have HB := n0_; have BK980 := n1_; have GW980 := n2_; have GE980 := n3_; clear n0_ n1_ n2_ n3_ hb hbox hg; obtain ⟨hcz15_0, hcz15_1, hcz15_2⟩ := z3 BK980.out (.int .i64 a1_0) (.int .i64 a1_1) (.string a1_2); obtain ⟨hfz15_0, hfz15_1, hfz15_2⟩ := f3 BK980.out) | ((with_reducible refine gate_callee (f := 23) rfl ?_); refine gL (some 6) rfl Try.func23 #[.agg #[.int .i64 a1_0, .int .i64 a1_1, .string a1_2]] rfl ?_; (with_reducible refine (r1_Valid.calls k a1_0 a1_1 a1_2 true _ A3.out).mono ?_); rintro e w16 ⟨rfl, hb⟩; refine ⟨_, rfl, ?_⟩; have n0_ := aK (blk_below (bX BK980.out) hb); have n1_ := aK (below_step (bS GE980.out) hb); clear BK980 HB; have BK980 := n0_; have HB := n1_; clear n0_ n1_; (try clear hb)) | (go_at_call 61; (with_reducible refine (r3_Valid.calls k _ _ l0 false _ ?side1 ?side2 A5.out).mono ?_); (case side1 => repeat (first | exact (Kd.C_below HR0.out HB.out) | (with_reducible refine Kd.C_alloc ?_ _) | (with_reducible refine Kd.C_drewN ?_ _) | (with_reducible refine Kd.C_drew ?_))); (case side2 => exact HC0.out); rintro e w17 ⟨rfl, hb⟩; have n0_ := aK (blk_below (bX BK980.out) hb); have n1_ := aK (below_step (bS GE980.out) hb); clear BK980 HB; have BK980 := n0_; have HB := n1_; clear n0_ n1_; (try clear hb)))
  go_ret
  exact ⟨eW, bS GE980.out⟩
 subst c6
 rw [if_pos rfl] at H
 obtain ⟨t983, A7, H⟩ := oB H
 try dsimp only at H
 obtain rfl := Option.some.inj H
 go_enter Try.func64, Try.ntmps64
 go_wp2_with (first | ((with_reducible refine gate_dst (N := 3) rfl ?_); refine box_event ?hg (N := 3) ?hd (cs := #[.int .i64 a1_0, .int .i64 a1_1, .string a1_2]) (t := 24) ?hr ?_; (case hd => rfl); (case hg => rfl); (case hr => exact hR); intro gb980 hg w8 hbox hb; have n0_ := aK (below_step bO hb); have n1_ := aK (hbox); have n2_ := aK ((by rw [hg]; exact (below_size bO) : w.heap.size ≤ gb980)); have n3_ := aK ((by rw [hg]; exact (below_size bO) : w.heap.size ≤ gb980)); clear HB; have HB := n0_; have BK980 := n1_; have GW980 := n2_; have GE980 := n3_; clear n0_ n1_ n2_ n3_ hb hbox hg; obtain ⟨hcz9_0, hcz9_1, hcz9_2⟩ := z3 BK980.out (.int .i64 a1_0) (.int .i64 a1_1) (.string a1_2); obtain ⟨hfz9_0, hfz9_1, hfz9_2⟩ := f3 BK980.out) | ((with_reducible refine gate_callee (f := 23) rfl ?_); refine gL (some 6) rfl Try.func23 #[.agg #[.int .i64 a1_0, .int .i64 a1_1, .string a1_2]] rfl ?_; (with_reducible refine (r1_Valid.calls k a1_0 a1_1 a1_2 true _ A3.out).mono ?_); rintro e w10 ⟨rfl, hb⟩; refine ⟨_, rfl, ?_⟩; have n0_ := aK (blk_below (bX BK980.out) hb); have n1_ := aK (below_step (bS GE980.out) hb); clear BK980 HB; have BK980 := n0_; have HB := n1_; clear n0_ n1_; (try clear hb)) | (go_at_call 61; (with_reducible refine (r3_Valid.calls k _ _ l0 true _ ?side1 ?side2 A5.out).mono ?_); (case side1 => repeat (first | exact (Kd.C_below HR0.out HB.out) | (with_reducible refine Kd.C_alloc ?_ _) | (with_reducible refine Kd.C_drewN ?_ _) | (with_reducible refine Kd.C_drew ?_))); (case side2 => exact HC0.out); rintro e w11 ⟨rfl, hb⟩; have n0_ := aK (blk_below (bX BK980.out) hb); have n1_ := aK (below_step (bS GE980.out) hb); clear BK980 HB; have BK980 := n0_; have HB := n1_; clear n0_ n1_; (try clear hb); obtain ⟨hcz12_0, hcz12_1, hcz12_2⟩ := z3 BK980.out (.int .i64 a1_0) (.int .i64 a1_1) (.string a1_2); obtain ⟨hfz12_0, hfz12_1, hfz12_2⟩ := f3 BK980.out) | (go_at_call 92; (with_reducible refine (r3_In.calls k _ _ l0 a1_0 a1_1 a1_2 t983 _ ?side1 ?side2 A7.out).mono ?_); (case side1 => repeat (first | exact (Kd.C_below HR0.out HB.out) | (with_reducible refine Kd.C_alloc ?_ _) | (with_reducible refine Kd.C_drewN ?_ _) | (with_reducible refine Kd.C_drew ?_))); (case side2 => exact HC0.out); rintro e w13 ⟨rfl, hb⟩; have n0_ := aK (blk_below (bX BK980.out) hb); have n1_ := aK (below_step (bS GE980.out) hb); clear BK980 HB; have BK980 := n0_; have HB := n1_; clear n0_ n1_; (try clear hb)))
 go_ret
 exact ⟨eW, bS GE980.out⟩
theorem foot_ne {g : Nat} {W : World} {a : Addr} (h : ∀ W', KeepBut W W' g none → ∃ v, W'.cell? a = some v) : a.block ≠ g := by
 intro e
 obtain ⟨v, hv⟩ := h { W with heap := W.heap.setIfInBounds g (.cells #[] 0 (0, 0)) } ⟨by simp, fun i hi hg _ => by simp [Array.getElem?_setIfInBounds, Ne.symm hg]⟩
 unfold World.cell? at hv
 rw [e] at hv
 simp only [Array.getElem?_setIfInBounds, if_true] at hv
 by_cases hs : g < W.heap.size
 ·rw [if_pos hs] at hv
  revert hv
  split <;> simp_all
 ·rw [if_neg hs] at hv
  simp at hv
theorem foot_elem {g : Nat} {w W : World} {n : Nat} {ls : List (List S65)} {j : Int} {ad : Addr} {A' : Option Addr} {c' : Nat} (H : ∀ W', KeepBut w W' g none → Kd.C (Kd.slice 65 k65) W' (some ad) n ls) (hk : KeepBut w W g none) (h0 : 0 ≤ j) (h1 : j < (n : Int))
  (hi : k65.C W A' (rd_L7 ls j).length (rd_L7 ls j)) (hx : W.cell? (ad.add j.toNat) = some (.slice A' (rd_L7 ls j).length c')) : ∀ W', KeepBut w W' g none → k65.C W' A' (rd_L7 ls j).length (rd_L7 ls j) := by
 have hne : (ad.add j.toNat).block ≠ g := foot_ne (W := w) (fun W' hk' => by
  obtain ⟨ad', A2, c2, e', hx', _, _⟩ := at_L7 (H W' hk') j h0 h1
  injection e' with e'
  subst e'
  exact ⟨_, hx'⟩)
 intro W' hk'
 obtain ⟨ad', A2, c2, e', hx', _, hi'⟩ := at_L7 (H W' hk') j h0 h1
 injection e' with e'
 subst e'
 obtain ⟨ad0, A0, c0, e0, hx0, _, _⟩ := at_L7 (H w (KeepBut.refl w g none)) j h0 h1
 injection e0 with e0
 subst e0
 have q1 := (keep_cell hk hx0 hne).symm.trans hx
 have q2 := (keep_cell hk' hx0 hne).symm.trans hx'
 injection q1 with q1
 injection q2 with q2
 injection q1 with q1
 injection q2 with q2
 rw [← q1, q2]
 exact hi'
end Go.Proofs.Ytpjcdacnhalclaa.Q
