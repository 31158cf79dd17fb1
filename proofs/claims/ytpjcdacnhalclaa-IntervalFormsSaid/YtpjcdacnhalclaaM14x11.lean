/- A part of a proof: facts of functions that the law calls; conditions stand in each. -/
import Derived.Test.YtpjcdacnhalclaaM14x3
import Derived.Test.YtpjcdacnhalclaaM14x5
import Derived.Test.YtpjcdacnhalclaaM14x10
import Derived.Test.YtpjcdacnhalclaaM14x6
set_option linter.unusedVariables false
set_option linter.unusedSimpArgs false
namespace Go.Proofs.Ytpjcdacnhalclaa.Q
open Go.RowKit Go.Proofs.YtpjcdacnhalclaaW.PrintWords Go.Proofs.YtpjcdacnhalclaaW.PrintLast Go.Proofs.YtpjcdacnhalclaaW.PrintMore
attribute [local go_sem] max2_int min2_int max_two min_two max_three min_three max_four min_four
attribute [local go_sem high] eqA24
def l3_begun.f (k : Nat)  : Option (Bool) := (l3_num.f 1).bind fun bt586 => ((l3_num.f 3).bind fun bt589 => ((i_Between.f k bt586.1 bt586.2.1 bt586.2.2 bt589.1 bt589.2.1 bt589.2.2).bind fun bt592 => ((l3_num.f 3).bind fun bt596 => ((l3_num.f 5).bind fun bt599 => ((i_Between.f k bt596.1 bt596.2.1 bt596.2.2 bt599.1 bt599.2.1 bt599.2.2).bind fun bt602 => ((i_Union.f k bt592.1 bt602.1).bind fun bt606 => (if bt592.2 = 0 then (if bt602.2 = 0 then (if bt606.2 = 0 then (if (bt606.1.length : Int) = 1 then (if 0 < (bt606.1.length : Int) then ((l3_num.f 1).bind fun bt611 => (if (((rd_T65 bt606.1 0).f0.f0) == bt611.1 && (((rd_T65 bt606.1 0).f0.f1) == bt611.2.1 && ((((rd_T65 bt606.1 0).f0.f2).toList) == bt611.2.2.toList))) = true then ((l3_num.f 5).bind fun bt615 => (if (((rd_T65 bt606.1 0).f1.f0) == bt615.1 && (((rd_T65 bt606.1 0).f1.f1) == bt615.2.1 && ((((rd_T65 bt606.1 0).f1.f2).toList) == bt615.2.2.toList))) = true then ((i_Valid.f k bt606.1).bind fun t618 => (if t618 = true then ((l3_num.f 3).bind fun bt619 => ((i_Has.f k bt606.1 bt619.1 bt619.2.1 bt619.2.2).bind fun t622 => (if t622 = true then ((i_All.f).bind fun t623 => (some ((t623.length : Int) == 1))) else (some false)))) else (some false))) else (some false))) else (some false))) else (none)) else (some false)) else (some false)) else (some false)) else (some false))))))))
theorem l3_begun.mono : ∀ k, LeO (l3_begun.f k ) (l3_begun.f (k + 1) ) := by
 intro  k
 unfold l3_begun.f
 repeat' first
   | (with_reducible exact i_Between.mono _ _ _ _ _ _ _)
   | (with_reducible exact i_Has.mono _ _ _ _ _)
   | (with_reducible exact i_Union.mono _ _ _)
   | (with_reducible exact i_Valid.mono _ _)
   | (with_reducible exact LeO.refl _)
   | (with_reducible exact LeO.none _)
   | (with_reducible refine LeO.ite ?_ ?_)
   | (with_reducible refine LeO.bind ?_ (fun _ => ?_))
   | exact i_Between.mono _ _ _ _ _ _ _
   | exact i_Has.mono _ _ _ _ _
   | exact i_Union.mono _ _ _
   | exact i_Valid.mono _ _
   | exact LeO.none _
   | refine LeO.ite ?_ ?_
   | refine LeO.bind ?_ (fun _ => ?_)
def l3_begun.T4 : Bool × List (List Nat × List Nat) := (true, [([], []), ([0], [0]), ([1], [1]), ([2], [2]), ([3, 2], [2, 3]), ([2, 4], [2, 4]), ([5, 2], [5]), ([6], [6]), ([7, 6], [6, 7]), ([6, 8], [6, 8]), ([9, 6], [9]), ([10], [10]), ([11, 10], [10, 11]), ([12, 10], [10, 12]), ([10, 13], [10, 13]), ([14, 10], [14]), ([15], [15]), ([16, 15], [15, 16]), ([17, 15], [15, 17]), ([18, 15], [15, 18]), ([15, 15], [15]), ([19, 20, 15], [15, 19, 20]), ([15, 21], [15, 21]), ([22, 20], [22]), ([23], [23]), ([24, 23], [23, 24]), ([25, 23], [23, 25]), ([26, 23], [23, 26]), ([23, 23], [23]), ([27, 28, 23], [23, 27, 28]), ([23, 29], [23, 29]), ([30, 28], [30]), ([31], [31]), ([32, 31, 31], [31, 32]), ([31, 33], [31, 33]), ([34, 33], [34]), ([35], [35]), ([35, 35], [35]), ([36, 37, 37, 35], [35, 36, 37]), ([35, 38], [35, 38]), ([39, 38], [39]), ([40, 40], [40]), ([41, 40], [40, 41]), ([42, 40], [40, 42]), ([40, 43], [40, 43]), ([44, 41, 0, 1, 2, 3, 4, 5, 6, 7, 8, 9, 10, 11, 12, 13, 14, 15, 16, 17, 18, 19, 20, 21, 22, 23, 24, 25, 26, 27, 28, 29, 30, 31, 32, 33, 34, 35, 36, 37, 38, 39, 40, 41, 42, 43, 44], [44])])
def l3_begun.B4 : List Nat := [0, 1, 3, 7, 15, 31, 63, 127, 255, 511, 1023, 2047, 4095, 8191, 16383, 32767, 65535, 131071, 262143, 524287, 65535, 2097151, 4194303, 8388607, 16777215, 33554431, 67108863, 134217727, 16777215, 536870911, 1073741823, 2147483647, 4294967295, 8589934591, 17179869183, 34359738367, 68719476735, 68719476735, 274877906943, 549755813887, 1099511627775, 2199023255551, 4398046511103, 8796093022207, 17592186044415, 35184372088831]
theorem l3_begun.tab4 : rtab .any (opsOf Try.f36 4) = l3_begun.T4 := by kernel_rfl
theorem l3_begun.bits4 : waitsOk l3_begun.T4.2 l3_begun.B4 = true := by kernel_rfl
set_option maxHeartbeats 8000000 in
set_option maxRecDepth 100000 in
theorem l3_begun.callsT (k : Nat)  (r : Bool) (w : World) (h : l3_begun.f k  = some r) (HRT : Aside0 (r = true)) :
  Calls Try.prog 36 #[] w fun e w' => e = .returned (.bool r) ∧ Below w.heap.size w w' := by
 have hu24 := Try.underlying24
 have HB := aK (Below.refl w.heap.size w)
 have H : ((l3_num.f 1).bind fun bt586 => ((l3_num.f 3).bind fun bt589 => ((i_Between.f k bt586.1 bt586.2.1 bt586.2.2 bt589.1 bt589.2.1 bt589.2.2).bind fun bt592 => ((l3_num.f 3).bind fun bt596 => ((l3_num.f 5).bind fun bt599 => ((i_Between.f k bt596.1 bt596.2.1 bt596.2.2 bt599.1 bt599.2.1 bt599.2.2).bind fun bt602 => ((i_Union.f k bt592.1 bt602.1).bind fun bt606 => (if bt592.2 = 0 then (if bt602.2 = 0 then (if bt606.2 = 0 then (if (bt606.1.length : Int) = 1 then (if 0 < (bt606.1.length : Int) then ((l3_num.f 1).bind fun bt611 => (if (((rd_T65 bt606.1 0).f0.f0) == bt611.1 && (((rd_T65 bt606.1 0).f0.f1) == bt611.2.1 && ((((rd_T65 bt606.1 0).f0.f2).toList) == bt611.2.2.toList))) = true then ((l3_num.f 5).bind fun bt615 => (if (((rd_T65 bt606.1 0).f1.f0) == bt615.1 && (((rd_T65 bt606.1 0).f1.f1) == bt615.2.1 && ((((rd_T65 bt606.1 0).f1.f2).toList) == bt615.2.2.toList))) = true then ((i_Valid.f k bt606.1).bind fun t618 => (if t618 = true then ((l3_num.f 3).bind fun bt619 => ((i_Has.f k bt606.1 bt619.1 bt619.2.1 bt619.2.2).bind fun t622 => (if t622 = true then ((i_All.f).bind fun t623 => (some ((t623.length : Int) == 1))) else (some false)))) else (some false))) else (some false))) else (some false))) else (none)) else (some false)) else (some false)) else (some false)) else (some false))))))))) = some r := h
 clear h
 obtain ⟨⟨t586, t587, t588⟩, A1, H⟩ := oB H
 try dsimp only at H
 obtain ⟨⟨t589, t590, t591⟩, A2, H⟩ := oB H
 try dsimp only at H
 obtain ⟨⟨t592, t595⟩, A3, H⟩ := oB H
 try dsimp only at H
 obtain ⟨⟨t596, t597, t598⟩, A4, H⟩ := oB H
 try dsimp only at H
 obtain ⟨⟨t599, t600, t601⟩, A5, H⟩ := oB H
 try dsimp only at H
 obtain ⟨⟨t602, t605⟩, A6, H⟩ := oB H
 try dsimp only at H
 obtain ⟨⟨t606, t607⟩, A7, H⟩ := oB H
 try dsimp only at H
 by_cases c8 : t595 = 0
 rotate_left
 ·rw [if_neg c8] at H
  have c8b0 : (t595 == 0) = false := beq_eq_false_iff_ne.mpr c8
  have c8b1 : (t595 != 0) = true := bne_iff_ne.mpr c8
  exact absurd (H.trans (congrArg some HRT.out)) (by simp)
 rw [if_pos c8] at H
 have c8b0 : (t595 == 0) = true := beq_iff_eq.mpr c8
 have c8b1 : (t595 != 0) = false := bne_eq_false_iff_eq.mpr c8
 clear c8
 by_cases c9 : t605 = 0
 rotate_left
 ·rw [if_neg c9] at H
  have c9b0 : (t605 == 0) = false := beq_eq_false_iff_ne.mpr c9
  have c9b1 : (t605 != 0) = true := bne_iff_ne.mpr c9
  exact absurd (H.trans (congrArg some HRT.out)) (by simp)
 rw [if_pos c9] at H
 have c9b0 : (t605 == 0) = true := beq_iff_eq.mpr c9
 have c9b1 : (t605 != 0) = false := bne_eq_false_iff_eq.mpr c9
 clear c9
 by_cases c10 : t607 = 0
 rotate_left
 ·rw [if_neg c10] at H
  have c10b0 : (t607 == 0) = false := beq_eq_false_iff_ne.mpr c10
  have c10b1 : (t607 != 0) = true := bne_iff_ne.mpr c10
  exact absurd (H.trans (congrArg some HRT.out)) (by simp)
 rw [if_pos c10] at H
 have c10b0 : (t607 == 0) = true := beq_iff_eq.mpr c10
 have c10b1 : (t607 != 0) = false := bne_eq_false_iff_eq.mpr c10
 clear c10
 by_cases c11 : (t606.length : Int) = 1
 rotate_left
 ·rw [if_neg c11] at H
  have c11b0 : ((t606.length : Int) == 1) = false := beq_eq_false_iff_ne.mpr c11
  have c11b1 : ((t606.length : Int) != 1) = true := bne_iff_ne.mpr c11
  exact absurd (H.trans (congrArg some HRT.out)) (by simp)
 rw [if_pos c11] at H
 have c11b0 : ((t606.length : Int) == 1) = true := beq_iff_eq.mpr c11
 have c11b1 : ((t606.length : Int) != 1) = false := bne_eq_false_iff_eq.mpr c11
 clear c11
 by_cases c12 : 0 < (t606.length : Int)
 rotate_left
 ·rw [if_neg c12] at H
  exact absurd H (by simp)
 rw [if_pos c12] at H
 have c12b0 : decide (0 < (t606.length : Int)) = true := decide_eq_true c12
 have c12b1 : decide (0 < t606.length) = true := decide_eq_true (by omega)
 clear c12
 obtain ⟨⟨t611, t612, t613⟩, A13, H⟩ := oB H
 try dsimp only at H
 by_cases c14 : (((rd_T65 t606 0).f0.f0) == t611 && (((rd_T65 t606 0).f0.f1) == t612 && ((((rd_T65 t606 0).f0.f2).toList) == t613.toList))) = true
 rotate_left
 ·rw [if_neg c14] at H
  have c14b0 : (((rd_T65 t606 0).f0.f0) == t611 && (((rd_T65 t606 0).f0.f1) == t612 && ((((rd_T65 t606 0).f0.f2).toList) == t613.toList))) = false := by simpa using c14
  (try (have c14b1 : decide (((rd_T65 t606 0).f0.f0) = t611 && (((rd_T65 t606 0).f0.f1) == t612 && ((((rd_T65 t606 0).f0.f2).toList) == t613.toList))) = false := by simpa using c14))
  (try (have c14b2 : (((rd_T65 t606 0).f0.f0) == t611 && (((rd_T65 t606 0).f0.f1) == t612 && ((((rd_T65 t606 0).f0.f2).toList) == t613.toList))) = false := by simpa using c14))
  (try (have c14b3 : ¬ (((rd_T65 t606 0).f0.f0) = t611 && (((rd_T65 t606 0).f0.f1) == t612 && ((((rd_T65 t606 0).f0.f2).toList) == t613.toList))) := by simpa using c14))
  clear c14
  exact absurd (H.trans (congrArg some HRT.out)) (by simp)
 rw [if_pos c14] at H
 have c14b0 : (((rd_T65 t606 0).f0.f0) == t611 && (((rd_T65 t606 0).f0.f1) == t612 && ((((rd_T65 t606 0).f0.f2).toList) == t613.toList))) = true := c14
 (try (have c14b1 : decide (((rd_T65 t606 0).f0.f0) = t611 && (((rd_T65 t606 0).f0.f1) == t612 && ((((rd_T65 t606 0).f0.f2).toList) == t613.toList))) = true := by simpa using c14))
 (try (have c14b2 : (((rd_T65 t606 0).f0.f0) == t611 && (((rd_T65 t606 0).f0.f1) == t612 && ((((rd_T65 t606 0).f0.f2).toList) == t613.toList))) = true := by simpa using c14))
 clear c14
 obtain ⟨⟨t615, t616, t617⟩, A15, H⟩ := oB H
 try dsimp only at H
 by_cases c16 : (((rd_T65 t606 0).f1.f0) == t615 && (((rd_T65 t606 0).f1.f1) == t616 && ((((rd_T65 t606 0).f1.f2).toList) == t617.toList))) = true
 rotate_left
 ·rw [if_neg c16] at H
  have c16b0 : (((rd_T65 t606 0).f1.f0) == t615 && (((rd_T65 t606 0).f1.f1) == t616 && ((((rd_T65 t606 0).f1.f2).toList) == t617.toList))) = false := by simpa using c16
  (try (have c16b1 : decide (((rd_T65 t606 0).f1.f0) = t615 && (((rd_T65 t606 0).f1.f1) == t616 && ((((rd_T65 t606 0).f1.f2).toList) == t617.toList))) = false := by simpa using c16))
  (try (have c16b2 : (((rd_T65 t606 0).f1.f0) == t615 && (((rd_T65 t606 0).f1.f1) == t616 && ((((rd_T65 t606 0).f1.f2).toList) == t617.toList))) = false := by simpa using c16))
  (try (have c16b3 : ¬ (((rd_T65 t606 0).f1.f0) = t615 && (((rd_T65 t606 0).f1.f1) == t616 && ((((rd_T65 t606 0).f1.f2).toList) == t617.toList))) := by simpa using c16))
  clear c16
  exact absurd (H.trans (congrArg some HRT.out)) (by simp)
 rw [if_pos c16] at H
 have c16b0 : (((rd_T65 t606 0).f1.f0) == t615 && (((rd_T65 t606 0).f1.f1) == t616 && ((((rd_T65 t606 0).f1.f2).toList) == t617.toList))) = true := c16
 (try (have c16b1 : decide (((rd_T65 t606 0).f1.f0) = t615 && (((rd_T65 t606 0).f1.f1) == t616 && ((((rd_T65 t606 0).f1.f2).toList) == t617.toList))) = true := by simpa using c16))
 (try (have c16b2 : (((rd_T65 t606 0).f1.f0) == t615 && (((rd_T65 t606 0).f1.f1) == t616 && ((((rd_T65 t606 0).f1.f2).toList) == t617.toList))) = true := by simpa using c16))
 clear c16
 obtain ⟨t618, A17, H⟩ := oB H
 try dsimp only at H
 by_cases c18 : t618 = true
 rotate_left
 ·replace c18 := Bool.eq_false_iff.mpr c18
  subst c18
  rw [if_neg (show ¬ (false = true) by decide)] at H
  exact absurd (H.trans (congrArg some HRT.out)) (by simp)
 subst c18
 rw [if_pos rfl] at H
 obtain ⟨⟨t619, t620, t621⟩, A19, H⟩ := oB H
 try dsimp only at H
 obtain ⟨t622, A20, H⟩ := oB H
 try dsimp only at H
 by_cases c21 : t622 = true
 rotate_left
 ·replace c21 := Bool.eq_false_iff.mpr c21
  subst c21
  rw [if_neg (show ¬ (false = true) by decide)] at H
  exact absurd (H.trans (congrArg some HRT.out)) (by simp)
 subst c21
 rw [if_pos rfl] at H
 obtain ⟨t623, A22, H⟩ := oB H
 try dsimp only at H
 obtain rfl := Option.some.inj H
 go_enter Try.func36, Try.ntmps36
 try go_wp2_with (first | ((with_reducible refine gate_callee (f := 85) rfl ?_); refine gL (some 8) rfl Try.func85 #[.int .i64 1] rfl ?_; (with_reducible refine (l3_num.calls 1 t586 t587 t588 _ A1.out).mono ?_); rintro e w23 ⟨rfl, hb⟩; refine ⟨_, rfl, ?_⟩; have n0_ := aK (below_step bO hb); clear HB; have HB := n0_; clear n0_; (try clear hb)) | ((with_reducible refine gate_callee (f := 85) rfl ?_); refine gL (some 9) rfl Try.func85 #[.int .i64 3] rfl ?_; (with_reducible refine (l3_num.calls 3 t589 t590 t591 _ A2.out).mono ?_); rintro e w24 ⟨rfl, hb⟩; refine ⟨_, rfl, ?_⟩; have n0_ := aK (below_step bO hb); clear HB; have HB := n0_; clear n0_; (try clear hb)) | ((with_reducible refine gate_callee (f := 38) rfl ?_); refine gL (some 10) rfl Try.func38 #[.agg #[.int .i64 t586, .int .i64 t587, .string t588], .agg #[.int .i64 t589, .int .i64 t590, .string t591]] rfl ?_; (with_reducible refine (i_Between.calls k t586 t587 t588 t589 t590 t591 t592 t595 _ A3.out).mono ?_); rintro e w25 ⟨v593, rfl, ho0, hb⟩; refine ⟨_, rfl, ?_⟩; have n0_ := aK (Kd.R_lower ho0 (below_size bO)); have n1_ := aK (below_step bO hb); clear HB; have HO594 := n0_; have HB := n1_; clear n0_ n1_; (try clear hb ho0)) | ((with_reducible refine gate_callee (f := 85) rfl ?_); refine gL (some 14) rfl Try.func85 #[.int .i64 3] rfl ?_; (with_reducible refine (l3_num.calls 3 t596 t597 t598 _ A4.out).mono ?_); rintro e w26 ⟨rfl, hb⟩; refine ⟨_, rfl, ?_⟩; have n0_ := aK (Kd.R_below (rX HO594.out) hb); have n1_ := aK (below_step bO hb); clear HO594 HB; have HO594 := n0_; have HB := n1_; clear n0_ n1_; (try clear hb)) | ((with_reducible refine gate_callee (f := 85) rfl ?_); refine gL (some 15) rfl Try.func85 #[.int .i64 5] rfl ?_; (with_reducible refine (l3_num.calls 5 t599 t600 t601 _ A5.out).mono ?_); rintro e w27 ⟨rfl, hb⟩; refine ⟨_, rfl, ?_⟩; have n0_ := aK (Kd.R_below (rX HO594.out) hb); have n1_ := aK (below_step bO hb); clear HO594 HB; have HO594 := n0_; have HB := n1_; clear n0_ n1_; (try clear hb)) | ((with_reducible refine gate_callee (f := 38) rfl ?_); refine gL (some 16) rfl Try.func38 #[.agg #[.int .i64 t596, .int .i64 t597, .string t598], .agg #[.int .i64 t599, .int .i64 t600, .string t601]] rfl ?_; (with_reducible refine (i_Between.calls k t596 t597 t598 t599 t600 t601 t602 t605 _ A6.out).mono ?_); rintro e w28 ⟨v603, rfl, ho0, hb⟩; refine ⟨_, rfl, ?_⟩; have n0_ := aK (Kd.R_elder' (rX HO594.out) (Kd.R_base ho0) hb); have n1_ := aK (Kd.R_lower (Kd.R_new' ho0 (Kd.R_lt (rX HO594.out))) (below_size bO)); have n2_ := aK (below_step bO hb); clear HO594 HB; have HO594 := n0_; have HO604 := n1_; have HB := n2_; clear n0_ n1_ n2_; (try clear hb ho0); obtain ⟨Ao29, co29, eo29⟩ := Kd.R_slice HO594.out; subst eo29; obtain ⟨Ao30, co30, eo30⟩ := Kd.R_slice HO604.out; subst eo30) | ((with_reducible refine gate_callee (f := 30) rfl ?_); refine gL (some 22) rfl Try.func30 #[.slice Ao29 t592.length co29, .slice Ao30 t602.length co30] rfl ?_; (with_reducible refine (i_Union.calls k _ _ t592 _ _ t602 t606 t607 _ ?side1 ?side2 ?side3 ?side4 A7.out).mono ?_); (case side1 => exact cX (Kd.R_reads' HO594.out).2.2); (case side2 => exact (Kd.R_reads' HO594.out).2.1); (case side3 => exact cX (Kd.R_reads' HO604.out).2.2); (case side4 => exact (Kd.R_reads' HO604.out).2.1); rintro e w31 ⟨v608, rfl, ho0, hb⟩; refine ⟨_, rfl, ?_⟩; have n0_ := aK (Kd.R_elder' (rX HO594.out) (Kd.R_base ho0) hb); have n1_ := aK (Kd.R_elder' (rX HO604.out) (Kd.R_base ho0) hb); have n2_ := aK (Kd.R_lower (Kd.R_new' (Kd.R_new' ho0 (Kd.R_lt (rX HO594.out))) (Kd.R_lt (rX HO604.out))) (below_size bO)); have n3_ := aK (below_step bO hb); clear HO594 HO604 HB; have HO594 := n0_; have HO604 := n1_; have HO609 := n2_; have HB := n3_; clear n0_ n1_ n2_ n3_; (try clear hb ho0)))
 have n0_ := aK (Kd.R_drew HO594.out)
 have n1_ := aK (Kd.R_drew HO604.out)
 have n2_ := aK (Kd.R_drew HO609.out)
 have n3_ := aK (below_drew1 HB.out)
 clear HO594
 clear HO604
 clear HO609
 clear HB
 have HO594 := n0_
 have HO604 := n1_
 have HO609 := n2_
 have HB := n3_
 clear n0_ n1_ n2_ n3_
 obtain ⟨Ao33, co33, eo33⟩ := Kd.R_slice HO609.out
 (first | subst eo33 | (injection eo33 with f1_ f2_ f3_; have f4_ := f1_.symm; have f5_ := f3_.symm; clear f1_ f2_ f3_; subst f4_; subst f5_))
 have p610 : 0 ≤ (0 : Int) := (by omega)
 have q610 : 0 < (t606.length : Int) := of_decide_eq_true (aA)
 obtain ⟨ad610, e610, hx610_0, hx610_1, hx610_2, hx610_3, hx610_4, hx610_5, hx610_6⟩ := at_T65 (Kd.R_reads' HO609.out).2.2 0 p610 q610
 cases e610
 have qi610 : (0 < t606.length) = True := eq_true (by omega)
 (try rw [show ((0 : Int)).toNat = 0 from rfl] at hx610_0)
 (try rw [show 0 * 7 = 0 from rfl] at hx610_0)
 (try rw [Addr.add_zero'] at hx610_0)
 (try rw [show ((0 : Int)).toNat = 0 from rfl] at hx610_1)
 (try rw [show 0 * 7 = 0 from rfl] at hx610_1)
 (try rw [Addr.add_zero'] at hx610_1)
 (try rw [show ((0 : Int)).toNat = 0 from rfl] at hx610_2)
 (try rw [show 0 * 7 = 0 from rfl] at hx610_2)
 (try rw [Addr.add_zero'] at hx610_2)
 (try rw [show ((0 : Int)).toNat = 0 from rfl] at hx610_3)
 (try rw [show 0 * 7 = 0 from rfl] at hx610_3)
 (try rw [Addr.add_zero'] at hx610_3)
 (try rw [show ((0 : Int)).toNat = 0 from rfl] at hx610_4)
 (try rw [show 0 * 7 = 0 from rfl] at hx610_4)
 (try rw [Addr.add_zero'] at hx610_4)
 (try rw [show ((0 : Int)).toNat = 0 from rfl] at hx610_5)
 (try rw [show 0 * 7 = 0 from rfl] at hx610_5)
 (try rw [Addr.add_zero'] at hx610_5)
 (try rw [show ((0 : Int)).toNat = 0 from rfl] at hx610_6)
 (try rw [show 0 * 7 = 0 from rfl] at hx610_6)
 (try rw [Addr.add_zero'] at hx610_6)
 replace p610 := eq_true p610
 replace q610 := eq_true q610
 have p614 : 0 ≤ (0 : Int) := (by omega)
 have q614 : 0 < (t606.length : Int) := of_decide_eq_true (aA)
 obtain ⟨ad614, e614, hx614_0, hx614_1, hx614_2, hx614_3, hx614_4, hx614_5, hx614_6⟩ := at_T65 (Kd.R_reads' HO609.out).2.2 0 p614 q614
 obtain rfl : ad610 = ad614 := (by injection e614)
 have qi614 : (0 < t606.length) = True := eq_true (by omega)
 (try rw [show ((0 : Int)).toNat = 0 from rfl] at hx614_0)
 (try rw [show 0 * 7 = 0 from rfl] at hx614_0)
 (try rw [Addr.add_zero'] at hx614_0)
 (try rw [show ((0 : Int)).toNat = 0 from rfl] at hx614_1)
 (try rw [show 0 * 7 = 0 from rfl] at hx614_1)
 (try rw [Addr.add_zero'] at hx614_1)
 (try rw [show ((0 : Int)).toNat = 0 from rfl] at hx614_2)
 (try rw [show 0 * 7 = 0 from rfl] at hx614_2)
 (try rw [Addr.add_zero'] at hx614_2)
 (try rw [show ((0 : Int)).toNat = 0 from rfl] at hx614_3)
 (try rw [show 0 * 7 = 0 from rfl] at hx614_3)
 (try rw [Addr.add_zero'] at hx614_3)
 (try rw [show ((0 : Int)).toNat = 0 from rfl] at hx614_4)
 (try rw [show 0 * 7 = 0 from rfl] at hx614_4)
 (try rw [Addr.add_zero'] at hx614_4)
 (try rw [show ((0 : Int)).toNat = 0 from rfl] at hx614_5)
 (try rw [show 0 * 7 = 0 from rfl] at hx614_5)
 (try rw [Addr.add_zero'] at hx614_5)
 (try rw [show ((0 : Int)).toNat = 0 from rfl] at hx614_6)
 (try rw [show 0 * 7 = 0 from rfl] at hx614_6)
 (try rw [Addr.add_zero'] at hx614_6)
 replace p614 := eq_true p614
 replace q614 := eq_true q614
 refine start_ (n := 46) (S := fun w' => w'.cell? ad610 = some (.int .i64 ((rd_T65 t606 0).f0.f0)) ∧ w'.cell? ⟨ad610.block, ad610.off + 1, none⟩ = some (.int .i64 ((rd_T65 t606 0).f0.f1)) ∧ w'.cell? ⟨ad610.block, ad610.off + 2, none⟩ = some (.string ((rd_T65 t606 0).f0.f2)) ∧ w'.cell? ⟨ad610.block, ad610.off + 3, none⟩ = some (.int .i64 ((rd_T65 t606 0).f1.f0)) ∧ w'.cell? ⟨ad610.block, ad610.off + 4, none⟩ = some (.int .i64 ((rd_T65 t606 0).f1.f1)) ∧ w'.cell? ⟨ad610.block, ad610.off + 5, none⟩ = some (.string ((rd_T65 t606 0).f1.f2)) ∧ w'.cell? ⟨ad610.block, ad610.off + 6, none⟩ = some (.bool ((rd_T65 t606 0).f2)) ∧ w'.cell? ad610 = some (.int .i64 ((rd_T65 t606 0).f0.f0)) ∧ w'.cell? ⟨ad610.block, ad610.off + 1, none⟩ = some (.int .i64 ((rd_T65 t606 0).f0.f1)) ∧ w'.cell? ⟨ad610.block, ad610.off + 2, none⟩ = some (.string ((rd_T65 t606 0).f0.f2)) ∧ w'.cell? ⟨ad610.block, ad610.off + 3, none⟩ = some (.int .i64 ((rd_T65 t606 0).f1.f0)) ∧ w'.cell? ⟨ad610.block, ad610.off + 4, none⟩ = some (.int .i64 ((rd_T65 t606 0).f1.f1)) ∧ w'.cell? ⟨ad610.block, ad610.off + 5, none⟩ = some (.string ((rd_T65 t606 0).f1.f2)) ∧ w'.cell? ⟨ad610.block, ad610.off + 6, none⟩ = some (.bool ((rd_T65 t606 0).f2))) (ds := []) #[false, false, false, false, false, false, false, false, false, false, false, false, false, false, false, false, false, false, false, false, false, false, false, false, false, false, false, false, false, false, false, false, false, false, false, false, false, false, false, false, false, false, false, false, false, false] (by kernel_rfl) rfl rfl ⟨hx610_0, hx610_1, hx610_2, hx610_3, hx610_4, hx610_5, hx610_6, hx614_0, hx614_1, hx614_2, hx614_3, hx614_4, hx614_5, hx614_6⟩ (fun hHeld => ?_); refine with_tabW l3_begun.tab4 l3_begun.bits4 (fun HT_ HW_ => ?_)
 generalize w31.drew = w32 at HO594 HO604 HO609 HB hx610_0 hx610_1 hx610_2 hx610_3 hx610_4 hx610_5 hx610_6 hx614_0 hx614_1 hx614_2 hx614_3 hx614_4 hx614_5 hx614_6 hHeld ⊢
 refine pY (i := 0) (N := some 25) (tf 1 45) rfl rfl HT_.out ?_
 refine pY (i := 1) (N := some 26) (tf 2 44) rfl rfl HT_.out ?_
 refine pY (i := 2) (N := some 27) (tf 3 43) rfl rfl HT_.out ?_
 refine pY (i := 3) (N := some 28) (tf 4 42) rfl rfl HT_.out ?_
 refine pY (i := 4) (N := some 29) (tf 5 41) rfl rfl HT_.out ?_
 refine pY (i := 5) (N := some 30) (tf 6 40) rfl rfl HT_.out ?_
 refine pY (i := 6) (N := some 31) (tf 7 39) rfl rfl HT_.out ?_
 refine pY (i := 7) (N := some 32) (tf 8 38) rfl rfl HT_.out ?_
 refine pY (i := 8) (N := some 33) (tf 9 37) rfl rfl HT_.out ?_
 refine pY (i := 9) (N := some 34) (tf 10 36) rfl rfl HT_.out ?_
 refine pY (i := 10) (N := some 35) (tf 11 35) rfl rfl HT_.out ?_
 refine pY (i := 11) (N := some 36) (tf 12 34) rfl rfl HT_.out ?_
 refine pY (i := 12) (N := some 37) (tf 13 33) rfl rfl HT_.out ?_
 refine pY (i := 13) (N := some 38) (tf 14 32) rfl rfl HT_.out ?_
 refine pY (i := 14) (N := some 39) (tf 15 31) rfl rfl HT_.out ?_
 refine pY (i := 15) (N := some 40) (tf 16 30) rfl rfl HT_.out ?_
 refine pY (i := 16) (N := some 41) (tf 17 29) rfl rfl HT_.out ?_
 refine pY (i := 17) (N := some 42) (tf 18 28) rfl rfl HT_.out ?_
 refine pY (i := 18) (N := some 43) (tf 19 27) rfl rfl HT_.out ?_
 refine take_ (i := 19) (N := some 44) (v := ?_) (a' := ?_) (tf 20 26) rfl rfl (take_ofW HT_.out HW_.out (by kernel_rfl)) (fun _ _ _ h => h) (Or.inl ⟨by rfl, ?_⟩) hHeld ?_ ?_
 rotate_left
 ·rintro w' ⟨s0, s1, s2, s3, s4, s5, s6, s7, s8, s9, s10, s11, s12, s13⟩
  go_simp
  with_reducible rfl
 rotate_left
 ·exact aP
 refine one_ (i := 20) (N := some 45) (tf 21 25) rfl rfl (one_of HT_.out (by kernel_rfl)) (by decide) (fun K hK => ?_)
 refine goes_ Try.func85 (by kernel_rfl) rfl #[.int .i64 1] (by rfl) rfl rfl (by (try simp only [List.map_toArray, List.map_cons, List.map_nil]); first | done | rfl | (simp only [List.length_drop, List.length_take]; rfl)) ?_
 with_reducible refine (l3_num.calls 1 t611 t612 t613 _ A13.out).mono ?_
 rintro e w34 ⟨rfl, hb⟩
 have HS0_ := (hb.cell (World.block_lt_of_cell? _ _ (hHeld.1))).trans (hHeld.1)
 have HS1_ := (hb.cell (World.block_lt_of_cell? _ _ (hHeld.2.1))).trans (hHeld.2.1)
 have HS2_ := (hb.cell (World.block_lt_of_cell? _ _ (hHeld.2.2.1))).trans (hHeld.2.2.1)
 have HS3_ := (hb.cell (World.block_lt_of_cell? _ _ (hHeld.2.2.2.1))).trans (hHeld.2.2.2.1)
 have HS4_ := (hb.cell (World.block_lt_of_cell? _ _ (hHeld.2.2.2.2.1))).trans (hHeld.2.2.2.2.1)
 have HS5_ := (hb.cell (World.block_lt_of_cell? _ _ (hHeld.2.2.2.2.2.1))).trans (hHeld.2.2.2.2.2.1)
 have HS6_ := (hb.cell (World.block_lt_of_cell? _ _ (hHeld.2.2.2.2.2.2.1))).trans (hHeld.2.2.2.2.2.2.1)
 have HS7_ := (hb.cell (World.block_lt_of_cell? _ _ (hHeld.2.2.2.2.2.2.2.1))).trans (hHeld.2.2.2.2.2.2.2.1)
 have HS8_ := (hb.cell (World.block_lt_of_cell? _ _ (hHeld.2.2.2.2.2.2.2.2.1))).trans (hHeld.2.2.2.2.2.2.2.2.1)
 have HS9_ := (hb.cell (World.block_lt_of_cell? _ _ (hHeld.2.2.2.2.2.2.2.2.2.1))).trans (hHeld.2.2.2.2.2.2.2.2.2.1)
 have HS10_ := (hb.cell (World.block_lt_of_cell? _ _ (hHeld.2.2.2.2.2.2.2.2.2.2.1))).trans (hHeld.2.2.2.2.2.2.2.2.2.2.1)
 have HS11_ := (hb.cell (World.block_lt_of_cell? _ _ (hHeld.2.2.2.2.2.2.2.2.2.2.2.1))).trans (hHeld.2.2.2.2.2.2.2.2.2.2.2.1)
 have HS12_ := (hb.cell (World.block_lt_of_cell? _ _ (hHeld.2.2.2.2.2.2.2.2.2.2.2.2.1))).trans (hHeld.2.2.2.2.2.2.2.2.2.2.2.2.1)
 have HS13_ := (hb.cell (World.block_lt_of_cell? _ _ (hHeld.2.2.2.2.2.2.2.2.2.2.2.2.2))).trans (hHeld.2.2.2.2.2.2.2.2.2.2.2.2.2)
 refine ⟨_, rfl, ?_⟩
 have n0_ := aK (Kd.R_below (rX HO594.out) hb)
 have n1_ := aK (Kd.R_below (rX HO604.out) hb)
 have n2_ := aK (Kd.R_below (rX HO609.out) hb)
 have n3_ := aK (below_step bO hb)
 clear HO594
 clear HO604
 clear HO609
 clear HB
 have HO594 := n0_
 have HO604 := n1_
 have HO609 := n2_
 have HB := n3_
 clear n0_ n1_ n2_ n3_
 (try clear hb)
 (try clear hb2)
 (try clear hk)
 (try clear hi)
 refine hK.out _ _ ⟨HS0_, HS1_, HS2_, HS3_, HS4_, HS5_, HS6_, HS7_, HS8_, HS9_, HS10_, HS11_, HS12_, HS13_⟩ (fun hHeld => ?_)
 clear hK K
 refine norm_ (a' := ?_) ?_ ?_
 rotate_left
 ·show Act.put _ (some 45) _ = _
  simp only [Act.put, List.setIfInBounds_toArray, List.set_cons_zero, List.set_cons_succ, i64_w, i32_w]
  rfl
 refine pY (i := 21) (N := some 46) (tf 22 24) rfl rfl HT_.out ?_
 refine pY (i := 22) (N := some 47) (tf 23 23) rfl rfl HT_.out ?_
 refine pY (i := 23) (N := some 48) (tf 24 22) rfl rfl HT_.out ?_
 refine pY (i := 24) (N := some 49) (tf 25 21) rfl rfl HT_.out ?_
 refine pY (i := 25) (N := some 50) (tf 26 20) rfl rfl HT_.out ?_
 refine pY (i := 26) (N := some 51) (tf 27 19) rfl rfl HT_.out ?_
 refine take_ (i := 27) (N := some 52) (v := ?_) (a' := ?_) (tf 28 18) rfl rfl (take_ofW HT_.out HW_.out (by kernel_rfl)) (fun _ _ _ h => h) (Or.inl ⟨by rfl, ?_⟩) hHeld ?_ ?_
 rotate_left
 ·rintro w' ⟨s0, s1, s2, s3, s4, s5, s6, s7, s8, s9, s10, s11, s12, s13⟩
  go_simp
  with_reducible rfl
 rotate_left
 ·exact aP
 refine one_ (i := 28) (N := some 53) (tf 29 17) rfl rfl (one_of HT_.out (by kernel_rfl)) (by decide) (fun K hK => ?_)
 refine goes_ Try.func85 (by kernel_rfl) rfl #[.int .i64 5] (by rfl) rfl rfl (by (try simp only [List.map_toArray, List.map_cons, List.map_nil]); first | done | rfl | (simp only [List.length_drop, List.length_take]; rfl)) ?_
 with_reducible refine (l3_num.calls 5 t615 t616 t617 _ A15.out).mono ?_
 rintro e w35 ⟨rfl, hb⟩
 have HS0_ := (hb.cell (World.block_lt_of_cell? _ _ (hHeld.1))).trans (hHeld.1)
 have HS1_ := (hb.cell (World.block_lt_of_cell? _ _ (hHeld.2.1))).trans (hHeld.2.1)
 have HS2_ := (hb.cell (World.block_lt_of_cell? _ _ (hHeld.2.2.1))).trans (hHeld.2.2.1)
 have HS3_ := (hb.cell (World.block_lt_of_cell? _ _ (hHeld.2.2.2.1))).trans (hHeld.2.2.2.1)
 have HS4_ := (hb.cell (World.block_lt_of_cell? _ _ (hHeld.2.2.2.2.1))).trans (hHeld.2.2.2.2.1)
 have HS5_ := (hb.cell (World.block_lt_of_cell? _ _ (hHeld.2.2.2.2.2.1))).trans (hHeld.2.2.2.2.2.1)
 have HS6_ := (hb.cell (World.block_lt_of_cell? _ _ (hHeld.2.2.2.2.2.2.1))).trans (hHeld.2.2.2.2.2.2.1)
 have HS7_ := (hb.cell (World.block_lt_of_cell? _ _ (hHeld.2.2.2.2.2.2.2.1))).trans (hHeld.2.2.2.2.2.2.2.1)
 have HS8_ := (hb.cell (World.block_lt_of_cell? _ _ (hHeld.2.2.2.2.2.2.2.2.1))).trans (hHeld.2.2.2.2.2.2.2.2.1)
 have HS9_ := (hb.cell (World.block_lt_of_cell? _ _ (hHeld.2.2.2.2.2.2.2.2.2.1))).trans (hHeld.2.2.2.2.2.2.2.2.2.1)
 have HS10_ := (hb.cell (World.block_lt_of_cell? _ _ (hHeld.2.2.2.2.2.2.2.2.2.2.1))).trans (hHeld.2.2.2.2.2.2.2.2.2.2.1)
 have HS11_ := (hb.cell (World.block_lt_of_cell? _ _ (hHeld.2.2.2.2.2.2.2.2.2.2.2.1))).trans (hHeld.2.2.2.2.2.2.2.2.2.2.2.1)
 have HS12_ := (hb.cell (World.block_lt_of_cell? _ _ (hHeld.2.2.2.2.2.2.2.2.2.2.2.2.1))).trans (hHeld.2.2.2.2.2.2.2.2.2.2.2.2.1)
 have HS13_ := (hb.cell (World.block_lt_of_cell? _ _ (hHeld.2.2.2.2.2.2.2.2.2.2.2.2.2))).trans (hHeld.2.2.2.2.2.2.2.2.2.2.2.2.2)
 refine ⟨_, rfl, ?_⟩
 have n0_ := aK (Kd.R_below (rX HO594.out) hb)
 have n1_ := aK (Kd.R_below (rX HO604.out) hb)
 have n2_ := aK (Kd.R_below (rX HO609.out) hb)
 have n3_ := aK (below_step bO hb)
 clear HO594
 clear HO604
 clear HO609
 clear HB
 have HO594 := n0_
 have HO604 := n1_
 have HO609 := n2_
 have HB := n3_
 clear n0_ n1_ n2_ n3_
 (try clear hb)
 (try clear hb2)
 (try clear hk)
 (try clear hi)
 refine hK.out _ _ ⟨HS0_, HS1_, HS2_, HS3_, HS4_, HS5_, HS6_, HS7_, HS8_, HS9_, HS10_, HS11_, HS12_, HS13_⟩ (fun hHeld => ?_)
 clear hK K
 refine norm_ (a' := ?_) ?_ ?_
 rotate_left
 ·show Act.put _ (some 53) _ = _
  simp only [Act.put, List.setIfInBounds_toArray, List.set_cons_zero, List.set_cons_succ, i64_w, i32_w]
  rfl
 refine pY (i := 29) (N := some 54) (tf 30 16) rfl rfl HT_.out ?_
 refine pY (i := 30) (N := some 55) (tf 31 15) rfl rfl HT_.out ?_
 refine pY (i := 31) (N := some 56) (tf 32 14) rfl rfl HT_.out ?_
 refine pY (i := 32) (N := some 57) (tf 33 13) rfl rfl HT_.out ?_
 refine one_ (i := 33) (N := some 58) (tf 34 12) rfl rfl (one_of HT_.out (by kernel_rfl)) (by decide) (fun K hK => ?_)
 refine goes_ Try.func37 (by kernel_rfl) rfl #[.slice (some ad610) t606.length co33] (by rfl) rfl rfl (by (try simp only [List.map_toArray, List.map_cons, List.map_nil]); first | done | rfl | (simp only [List.length_drop, List.length_take]; rfl)) ?_
 with_reducible refine (i_Valid.calls k _ _ t606 true _ ?side1 ?side2 A17.out).mono ?_
 (case side1 => exact cX (Kd.R_reads' HO609.out).2.2)
 (case side2 => exact (Kd.R_reads' HO609.out).2.1)
 rintro e w36 ⟨rfl, hb⟩
 have HS0_ := (hb.cell (World.block_lt_of_cell? _ _ (hHeld.1))).trans (hHeld.1)
 have HS1_ := (hb.cell (World.block_lt_of_cell? _ _ (hHeld.2.1))).trans (hHeld.2.1)
 have HS2_ := (hb.cell (World.block_lt_of_cell? _ _ (hHeld.2.2.1))).trans (hHeld.2.2.1)
 have HS3_ := (hb.cell (World.block_lt_of_cell? _ _ (hHeld.2.2.2.1))).trans (hHeld.2.2.2.1)
 have HS4_ := (hb.cell (World.block_lt_of_cell? _ _ (hHeld.2.2.2.2.1))).trans (hHeld.2.2.2.2.1)
 have HS5_ := (hb.cell (World.block_lt_of_cell? _ _ (hHeld.2.2.2.2.2.1))).trans (hHeld.2.2.2.2.2.1)
 have HS6_ := (hb.cell (World.block_lt_of_cell? _ _ (hHeld.2.2.2.2.2.2.1))).trans (hHeld.2.2.2.2.2.2.1)
 have HS7_ := (hb.cell (World.block_lt_of_cell? _ _ (hHeld.2.2.2.2.2.2.2.1))).trans (hHeld.2.2.2.2.2.2.2.1)
 have HS8_ := (hb.cell (World.block_lt_of_cell? _ _ (hHeld.2.2.2.2.2.2.2.2.1))).trans (hHeld.2.2.2.2.2.2.2.2.1)
 have HS9_ := (hb.cell (World.block_lt_of_cell? _ _ (hHeld.2.2.2.2.2.2.2.2.2.1))).trans (hHeld.2.2.2.2.2.2.2.2.2.1)
 have HS10_ := (hb.cell (World.block_lt_of_cell? _ _ (hHeld.2.2.2.2.2.2.2.2.2.2.1))).trans (hHeld.2.2.2.2.2.2.2.2.2.2.1)
 have HS11_ := (hb.cell (World.block_lt_of_cell? _ _ (hHeld.2.2.2.2.2.2.2.2.2.2.2.1))).trans (hHeld.2.2.2.2.2.2.2.2.2.2.2.1)
 have HS12_ := (hb.cell (World.block_lt_of_cell? _ _ (hHeld.2.2.2.2.2.2.2.2.2.2.2.2.1))).trans (hHeld.2.2.2.2.2.2.2.2.2.2.2.2.1)
 have HS13_ := (hb.cell (World.block_lt_of_cell? _ _ (hHeld.2.2.2.2.2.2.2.2.2.2.2.2.2))).trans (hHeld.2.2.2.2.2.2.2.2.2.2.2.2.2)
 refine ⟨_, rfl, ?_⟩
 have n0_ := aK (Kd.R_below (rX HO594.out) hb)
 have n1_ := aK (Kd.R_below (rX HO604.out) hb)
 have n2_ := aK (Kd.R_below (rX HO609.out) hb)
 have n3_ := aK (below_step bO hb)
 clear HO594
 clear HO604
 clear HO609
 clear HB
 have HO594 := n0_
 have HO604 := n1_
 have HO609 := n2_
 have HB := n3_
 clear n0_ n1_ n2_ n3_
 (try clear hb)
 (try clear hb2)
 (try clear hk)
 (try clear hi)
 refine hK.out _ _ ⟨HS0_, HS1_, HS2_, HS3_, HS4_, HS5_, HS6_, HS7_, HS8_, HS9_, HS10_, HS11_, HS12_, HS13_⟩ (fun hHeld => ?_)
 clear hK K
 refine norm_ (a' := ?_) ?_ ?_
 rotate_left
 ·show Act.put _ (some 58) _ = _
  simp only [Act.put, List.setIfInBounds_toArray, List.set_cons_zero, List.set_cons_succ, i64_w, i32_w]
  rfl
 refine pY (i := 34) (N := some 59) (tf 35 11) rfl rfl HT_.out ?_
 refine pY (i := 35) (N := some 60) (tf 36 10) rfl rfl HT_.out ?_
 refine pY (i := 36) (N := some 61) (tf 37 9) rfl rfl HT_.out ?_
 refine one_ (i := 37) (N := some 62) (tf 38 8) rfl rfl (one_of HT_.out (by kernel_rfl)) (by decide) (fun K hK => ?_)
 refine goes_ Try.func85 (by kernel_rfl) rfl #[.int .i64 3] (by rfl) rfl rfl (by (try simp only [List.map_toArray, List.map_cons, List.map_nil]); first | done | rfl | (simp only [List.length_drop, List.length_take]; rfl)) ?_
 with_reducible refine (l3_num.calls 3 t619 t620 t621 _ A19.out).mono ?_
 rintro e w37 ⟨rfl, hb⟩
 have HS0_ := (hb.cell (World.block_lt_of_cell? _ _ (hHeld.1))).trans (hHeld.1)
 have HS1_ := (hb.cell (World.block_lt_of_cell? _ _ (hHeld.2.1))).trans (hHeld.2.1)
 have HS2_ := (hb.cell (World.block_lt_of_cell? _ _ (hHeld.2.2.1))).trans (hHeld.2.2.1)
 have HS3_ := (hb.cell (World.block_lt_of_cell? _ _ (hHeld.2.2.2.1))).trans (hHeld.2.2.2.1)
 have HS4_ := (hb.cell (World.block_lt_of_cell? _ _ (hHeld.2.2.2.2.1))).trans (hHeld.2.2.2.2.1)
 have HS5_ := (hb.cell (World.block_lt_of_cell? _ _ (hHeld.2.2.2.2.2.1))).trans (hHeld.2.2.2.2.2.1)
 have HS6_ := (hb.cell (World.block_lt_of_cell? _ _ (hHeld.2.2.2.2.2.2.1))).trans (hHeld.2.2.2.2.2.2.1)
 have HS7_ := (hb.cell (World.block_lt_of_cell? _ _ (hHeld.2.2.2.2.2.2.2.1))).trans (hHeld.2.2.2.2.2.2.2.1)
 have HS8_ := (hb.cell (World.block_lt_of_cell? _ _ (hHeld.2.2.2.2.2.2.2.2.1))).trans (hHeld.2.2.2.2.2.2.2.2.1)
 have HS9_ := (hb.cell (World.block_lt_of_cell? _ _ (hHeld.2.2.2.2.2.2.2.2.2.1))).trans (hHeld.2.2.2.2.2.2.2.2.2.1)
 have HS10_ := (hb.cell (World.block_lt_of_cell? _ _ (hHeld.2.2.2.2.2.2.2.2.2.2.1))).trans (hHeld.2.2.2.2.2.2.2.2.2.2.1)
 have HS11_ := (hb.cell (World.block_lt_of_cell? _ _ (hHeld.2.2.2.2.2.2.2.2.2.2.2.1))).trans (hHeld.2.2.2.2.2.2.2.2.2.2.2.1)
 have HS12_ := (hb.cell (World.block_lt_of_cell? _ _ (hHeld.2.2.2.2.2.2.2.2.2.2.2.2.1))).trans (hHeld.2.2.2.2.2.2.2.2.2.2.2.2.1)
 have HS13_ := (hb.cell (World.block_lt_of_cell? _ _ (hHeld.2.2.2.2.2.2.2.2.2.2.2.2.2))).trans (hHeld.2.2.2.2.2.2.2.2.2.2.2.2.2)
 refine ⟨_, rfl, ?_⟩
 have n0_ := aK (Kd.R_below (rX HO594.out) hb)
 have n1_ := aK (Kd.R_below (rX HO604.out) hb)
 have n2_ := aK (Kd.R_below (rX HO609.out) hb)
 have n3_ := aK (below_step bO hb)
 clear HO594
 clear HO604
 clear HO609
 clear HB
 have HO594 := n0_
 have HO604 := n1_
 have HO609 := n2_
 have HB := n3_
 clear n0_ n1_ n2_ n3_
 (try clear hb)
 (try clear hb2)
 (try clear hk)
 (try clear hi)
 refine hK.out _ _ ⟨HS0_, HS1_, HS2_, HS3_, HS4_, HS5_, HS6_, HS7_, HS8_, HS9_, HS10_, HS11_, HS12_, HS13_⟩ (fun hHeld => ?_)
 clear hK K
 refine norm_ (a' := ?_) ?_ ?_
 rotate_left
 ·show Act.put _ (some 62) _ = _
  simp only [Act.put, List.setIfInBounds_toArray, List.set_cons_zero, List.set_cons_succ, i64_w, i32_w]
  rfl
 refine one_ (i := 38) (N := some 63) (tf 39 7) rfl rfl (one_of HT_.out (by kernel_rfl)) (by decide) (fun K hK => ?_)
 refine goes_ Try.func35 (by kernel_rfl) rfl #[.slice (some ad610) t606.length co33, .agg #[.int .i64 t619, .int .i64 t620, .string t621]] (by rfl) rfl rfl (by (try simp only [List.map_toArray, List.map_cons, List.map_nil]); first | done | rfl | (simp only [List.length_drop, List.length_take]; rfl)) ?_
 with_reducible refine (i_Has.calls k _ _ t606 t619 t620 t621 true _ ?side1 ?side2 A20.out).mono ?_
 (case side1 => exact cX (Kd.R_reads' HO609.out).2.2)
 (case side2 => exact (Kd.R_reads' HO609.out).2.1)
 rintro e w38 ⟨rfl, hb⟩
 have HS0_ := (hb.cell (World.block_lt_of_cell? _ _ (hHeld.1))).trans (hHeld.1)
 have HS1_ := (hb.cell (World.block_lt_of_cell? _ _ (hHeld.2.1))).trans (hHeld.2.1)
 have HS2_ := (hb.cell (World.block_lt_of_cell? _ _ (hHeld.2.2.1))).trans (hHeld.2.2.1)
 have HS3_ := (hb.cell (World.block_lt_of_cell? _ _ (hHeld.2.2.2.1))).trans (hHeld.2.2.2.1)
 have HS4_ := (hb.cell (World.block_lt_of_cell? _ _ (hHeld.2.2.2.2.1))).trans (hHeld.2.2.2.2.1)
 have HS5_ := (hb.cell (World.block_lt_of_cell? _ _ (hHeld.2.2.2.2.2.1))).trans (hHeld.2.2.2.2.2.1)
 have HS6_ := (hb.cell (World.block_lt_of_cell? _ _ (hHeld.2.2.2.2.2.2.1))).trans (hHeld.2.2.2.2.2.2.1)
 have HS7_ := (hb.cell (World.block_lt_of_cell? _ _ (hHeld.2.2.2.2.2.2.2.1))).trans (hHeld.2.2.2.2.2.2.2.1)
 have HS8_ := (hb.cell (World.block_lt_of_cell? _ _ (hHeld.2.2.2.2.2.2.2.2.1))).trans (hHeld.2.2.2.2.2.2.2.2.1)
 have HS9_ := (hb.cell (World.block_lt_of_cell? _ _ (hHeld.2.2.2.2.2.2.2.2.2.1))).trans (hHeld.2.2.2.2.2.2.2.2.2.1)
 have HS10_ := (hb.cell (World.block_lt_of_cell? _ _ (hHeld.2.2.2.2.2.2.2.2.2.2.1))).trans (hHeld.2.2.2.2.2.2.2.2.2.2.1)
 have HS11_ := (hb.cell (World.block_lt_of_cell? _ _ (hHeld.2.2.2.2.2.2.2.2.2.2.2.1))).trans (hHeld.2.2.2.2.2.2.2.2.2.2.2.1)
 have HS12_ := (hb.cell (World.block_lt_of_cell? _ _ (hHeld.2.2.2.2.2.2.2.2.2.2.2.2.1))).trans (hHeld.2.2.2.2.2.2.2.2.2.2.2.2.1)
 have HS13_ := (hb.cell (World.block_lt_of_cell? _ _ (hHeld.2.2.2.2.2.2.2.2.2.2.2.2.2))).trans (hHeld.2.2.2.2.2.2.2.2.2.2.2.2.2)
 refine ⟨_, rfl, ?_⟩
 have n0_ := aK (Kd.R_below (rX HO594.out) hb)
 have n1_ := aK (Kd.R_below (rX HO604.out) hb)
 have n2_ := aK (Kd.R_below (rX HO609.out) hb)
 have n3_ := aK (below_step bO hb)
 clear HO594
 clear HO604
 clear HO609
 clear HB
 have HO594 := n0_
 have HO604 := n1_
 have HO609 := n2_
 have HB := n3_
 clear n0_ n1_ n2_ n3_
 (try clear hb)
 (try clear hb2)
 (try clear hk)
 (try clear hi)
 refine hK.out _ _ ⟨HS0_, HS1_, HS2_, HS3_, HS4_, HS5_, HS6_, HS7_, HS8_, HS9_, HS10_, HS11_, HS12_, HS13_⟩ (fun hHeld => ?_)
 clear hK K
 refine norm_ (a' := ?_) ?_ ?_
 rotate_left
 ·show Act.put _ (some 63) _ = _
  simp only [Act.put, List.setIfInBounds_toArray, List.set_cons_zero, List.set_cons_succ, i64_w, i32_w]
  rfl
 refine pY (i := 39) (N := some 64) (tf 40 6) rfl rfl HT_.out ?_
 refine pY (i := 40) (N := some 65) (tf 41 5) rfl rfl HT_.out ?_
 refine one_ (i := 41) (N := some 66) (tf 42 4) rfl rfl (one_of HT_.out (by kernel_rfl)) (by decide) (fun K hK => ?_)
 refine goes_ Try.func47 (by kernel_rfl) rfl #[] (by rfl) rfl rfl (by (try simp only [List.map_toArray, List.map_cons, List.map_nil]); first | done | rfl | (simp only [List.length_drop, List.length_take]; rfl)) ?_
 with_reducible refine (i_All.calls  t623 _ A22.out).mono ?_
 rintro e w39 ⟨v624, rfl, ho0, hb⟩
 have HS0_ := (hb.cell (World.block_lt_of_cell? _ _ (hHeld.1))).trans (hHeld.1)
 have HS1_ := (hb.cell (World.block_lt_of_cell? _ _ (hHeld.2.1))).trans (hHeld.2.1)
 have HS2_ := (hb.cell (World.block_lt_of_cell? _ _ (hHeld.2.2.1))).trans (hHeld.2.2.1)
 have HS3_ := (hb.cell (World.block_lt_of_cell? _ _ (hHeld.2.2.2.1))).trans (hHeld.2.2.2.1)
 have HS4_ := (hb.cell (World.block_lt_of_cell? _ _ (hHeld.2.2.2.2.1))).trans (hHeld.2.2.2.2.1)
 have HS5_ := (hb.cell (World.block_lt_of_cell? _ _ (hHeld.2.2.2.2.2.1))).trans (hHeld.2.2.2.2.2.1)
 have HS6_ := (hb.cell (World.block_lt_of_cell? _ _ (hHeld.2.2.2.2.2.2.1))).trans (hHeld.2.2.2.2.2.2.1)
 have HS7_ := (hb.cell (World.block_lt_of_cell? _ _ (hHeld.2.2.2.2.2.2.2.1))).trans (hHeld.2.2.2.2.2.2.2.1)
 have HS8_ := (hb.cell (World.block_lt_of_cell? _ _ (hHeld.2.2.2.2.2.2.2.2.1))).trans (hHeld.2.2.2.2.2.2.2.2.1)
 have HS9_ := (hb.cell (World.block_lt_of_cell? _ _ (hHeld.2.2.2.2.2.2.2.2.2.1))).trans (hHeld.2.2.2.2.2.2.2.2.2.1)
 have HS10_ := (hb.cell (World.block_lt_of_cell? _ _ (hHeld.2.2.2.2.2.2.2.2.2.2.1))).trans (hHeld.2.2.2.2.2.2.2.2.2.2.1)
 have HS11_ := (hb.cell (World.block_lt_of_cell? _ _ (hHeld.2.2.2.2.2.2.2.2.2.2.2.1))).trans (hHeld.2.2.2.2.2.2.2.2.2.2.2.1)
 have HS12_ := (hb.cell (World.block_lt_of_cell? _ _ (hHeld.2.2.2.2.2.2.2.2.2.2.2.2.1))).trans (hHeld.2.2.2.2.2.2.2.2.2.2.2.2.1)
 have HS13_ := (hb.cell (World.block_lt_of_cell? _ _ (hHeld.2.2.2.2.2.2.2.2.2.2.2.2.2))).trans (hHeld.2.2.2.2.2.2.2.2.2.2.2.2.2)
 refine ⟨_, rfl, ?_⟩
 have n0_ := aK (Kd.R_elder' (rX HO594.out) (Kd.R_base ho0) hb)
 have n1_ := aK (Kd.R_elder' (rX HO604.out) (Kd.R_base ho0) hb)
 have n2_ := aK (Kd.R_elder' (rX HO609.out) (Kd.R_base ho0) hb)
 have n3_ := aK (Kd.R_lower (Kd.R_new' (Kd.R_new' (Kd.R_new' ho0 (Kd.R_lt (rX HO594.out))) (Kd.R_lt (rX HO604.out))) (Kd.R_lt (rX HO609.out))) (below_size bO))
 have n4_ := aK (below_step bO hb)
 clear HO594
 clear HO604
 clear HO609
 clear HB
 have HO594 := n0_
 have HO604 := n1_
 have HO609 := n2_
 have HO625 := n3_
 have HB := n4_
 clear n0_ n1_ n2_ n3_ n4_
 (try clear hb)
 (try clear hb2)
 (try clear hk)
 (try clear hi)
 (try clear ho0)
 obtain ⟨Ao40, co40, eo40⟩ := Kd.R_slice HO625.out
 (first | subst eo40 | (injection eo40 with f1_ f2_ f3_; have f4_ := f1_.symm; have f5_ := f3_.symm; clear f1_ f2_ f3_; subst f4_; subst f5_))
 refine hK.out _ _ ⟨HS0_, HS1_, HS2_, HS3_, HS4_, HS5_, HS6_, HS7_, HS8_, HS9_, HS10_, HS11_, HS12_, HS13_⟩ (fun hHeld => ?_)
 clear hK K
 refine norm_ (a' := ?_) ?_ ?_
 rotate_left
 ·show Act.put _ (some 66) _ = _
  simp only [Act.put, List.setIfInBounds_toArray, List.set_cons_zero, List.set_cons_succ, i64_w, i32_w]
  rfl
 refine pY (i := 42) (N := some 67) (tf 43 3) rfl rfl HT_.out ?_
 refine pY (i := 43) (N := some 68) (tf 44 2) rfl rfl HT_.out ?_
 refine pY (i := 44) (N := some 69) (tf 45 1) rfl rfl HT_.out ?_
 refine pY (i := 45) (N := some 0) (tf 46 0) rfl rfl HT_.out ?_
 refine done_ (done_of HT_.out (by kernel_rfl)) ?_
 try go_wp2
 go_ret
 exact ⟨eW, bO⟩
end Go.Proofs.Ytpjcdacnhalclaa.Q
namespace Go.Proofs.Ytpjcdacnhalclaa.Q
open Go.RowKit Go.Proofs.YtpjcdacnhalclaaW.PrintWords Go.Proofs.YtpjcdacnhalclaaW.PrintLast Go.Proofs.YtpjcdacnhalclaaW.PrintMore
attribute [local go_sem] max2_int min2_int max_two min_two max_three min_three max_four min_four
def IsS75 (w0 W : World) (g : Nat) (f0 : List Int) (f1 : Int) : Prop := ∃ A0 c0, W.heap[g]? = some (.cells #[.slice A0 f0.length c0, .int .i64 f1] 75 (0, 0)) ∧ w0.heap.size ≤ g ∧ Kd.C (Kd.int .u8) w0 A0 f0.length f0
theorem IsS75.grown {w0 W : World} {g : Nat} {f0 : List Int} {f1 : Int} {W1 : World} {row : Option Nat} (h : IsS75 w0 W g f0 f1) (hw : W.grownBy W1 row) (hne : some g ≠ row) : IsS75 w0 W1 g f0 f1 := by
 obtain ⟨A0, c0, hb, hg, hr0⟩ := h
 exact ⟨A0, c0, blk_grown hb hw hne, hg, hr0⟩
theorem IsS75.kept {w0 W : World} {g : Nat} {f0 : List Int} {f1 : Int} {W1 : World} {S : Nat → Prop} (h : IsS75 w0 W g f0 f1) (hk : Kept W W1 S) (hne : ¬ S g) : IsS75 w0 W1 g f0 f1 := by
 obtain ⟨A0, c0, hb, hg, hr0⟩ := h
 exact ⟨A0, c0, blk_kept hb hk hne, hg, hr0⟩
theorem IsS75.below {w0 W : World} {g : Nat} {f0 : List Int} {f1 : Int} {W1 : World} (h : IsS75 w0 W g f0 f1) (hw : Below W.heap.size W W1) : IsS75 w0 W1 g f0 f1 := h.grown (grown_of_below hw none) (by simp)
theorem IsS75.alloc {w0 W : World} {g : Nat} {f0 : List Int} {f1 : Int} (h : IsS75 w0 W g f0 f1) (o : Obj) : IsS75 w0 (W.alloc o) g f0 f1 := h.below (below_alloc (Below.refl _ _) o)
theorem IsS75.drewN {w0 W : World} {g : Nat} {f0 : List Int} {f1 : Int} (h : IsS75 w0 W g f0 f1) (m : Nat) : IsS75 w0 (W.drewN m) g f0 f1 := h
theorem IsS75.drew {w0 W : World} {g : Nat} {f0 : List Int} {f1 : Int} (h : IsS75 w0 W g f0 f1) : IsS75 w0 W.drew g f0 f1 := h
theorem IsS75.at_ {w0 W : World} {g : Nat} {f0 : List Int} {f1 : Int} {w' : World} {m : Nat} (hq : W.drewN m = w') (h : IsS75 w0 W g f0 f1) : IsS75 w0 w' g f0 f1 := by subst hq; exact IsS75.drewN h m
theorem IsS75.apart {w0 W : World} {g : Nat} {f0 : List Int} {f1 : Int} {α : Type} {d : Kd α} {e : Nat} {base : Nat} {ok : Nat → Prop} {v : Value} {xs : List α} (h : IsS75 w0 W g f0 f1) (ho : d.R e W base ok v xs) (ht : ∀ q, q ∈ e :: d.E → q ≠ 75) : d.R e W base (fun k => ok k ∧ k ≠ g) v xs := by
 obtain ⟨A0, c0, hb, hg, hr0⟩ := h
 exact Kd.R_types ho hb ht
theorem IsS75.own_ne {w0 W : World} {g : Nat} {f0 : List Int} {f1 : Int} {α : Type} {d : Kd α} {e : Nat} {base : Nat} {ok : Nat → Prop} {v : Value} {xs : List α} (h : IsS75 w0 W g f0 f1) (ho : d.R e W base ok v xs) (ht : e ≠ 75) : some g ≠ v.ownBlock := by
 obtain ⟨A0, c0, hb, hg, hr0⟩ := h
 exact Kd.R_ne ho hb ht
theorem IsS75.lt {w0 W : World} {g : Nat} {f0 : List Int} {f1 : Int} (h : IsS75 w0 W g f0 f1) : g < W.heap.size := by
 obtain ⟨A0, c0, hb, hg, hr0⟩ := h
 exact blk_lt hb
theorem IsS75.ge {w0 W : World} {g : Nat} {f0 : List Int} {f1 : Int} (h : IsS75 w0 W g f0 f1) : w0.heap.size ≤ g := by
 obtain ⟨A0, c0, hb, hg, hr0⟩ := h
 exact hg
theorem IsS75.ne_blk {w0 W : World} {g : Nat} {f0 : List Int} {f1 : Int} {a : Nat} {cs : Array Value} {t : TypeId} {fr : Nat × Nat} (h : IsS75 w0 W g f0 f1) (hb2 : W.heap[a]? = some (.cells cs t fr)) (ht : t ≠ 75) : g ≠ a := by
 obtain ⟨A0, c0, hb, hg, hr0⟩ := h
 rintro rfl
 rw [hb] at hb2
 injection hb2 with hb2
 injection hb2 with _ ht2
 exact ht ht2.symm
theorem IsS75.far {w0 W : World} {g : Nat} {f0 : List Int} {f1 : Int} {p : Addr} (h : IsS75 w0 W g f0 f1) (hne : g ≠ p.block) (u : Value) : IsS75 w0 (W.setCell p u) g f0 f1 := by
 obtain ⟨A0, c0, hb, hg, hr0⟩ := h
 exact ⟨A0, c0, blk_far hb hne u, hg, hr0⟩
theorem cellS75_0 {W : World} {g : Nat} {A0 : Option Addr} {c0 : Nat} {f0 : List Int} {f1 : Int} (h : W.heap[g]? = some (.cells #[.slice A0 f0.length c0, .int .i64 f1] 75 (0, 0))) : W.cell? ⟨g, 0, none⟩ = some (.slice A0 f0.length c0) := (blk_cell h 0).trans rfl
theorem cellS75_1 {W : World} {g : Nat} {A0 : Option Addr} {c0 : Nat} {f0 : List Int} {f1 : Int} (h : W.heap[g]? = some (.cells #[.slice A0 f0.length c0, .int .i64 f1] 75 (0, 0))) : W.cell? ⟨g, 1, none⟩ = some (.int .i64 f1) := (blk_cell h 1).trans rfl
theorem IsS75.set_1 {w0 W : World} {g : Nat} {f0 : List Int} {f1 : Int} (h : IsS75 w0 W g f0 f1) (x : Int) : IsS75 w0 (W.setCell ⟨g, 1, none⟩ (.int .i64 x)) g f0 x := by
 obtain ⟨A0, c0, hb, hg, hr0⟩ := h
 exact ⟨A0, c0, by simpa using blk_set hb 1 (.int .i64 x), hg, hr0⟩
def NewS75 (w0 W : World) (g : Nat) (f0 : List Int) (f1 : Int) : Prop := ∃ wN, Below w0.heap.size w0 wN ∧ Below wN.heap.size wN W ∧ IsS75 wN W g f0 f1
theorem NewS75.ne_blk {w0 W : World} {g : Nat} {f0 : List Int} {f1 : Int} {a : Nat} {cs : Array Value} {t : TypeId} {fr : Nat × Nat} (h : NewS75 w0 W g f0 f1) (hb2 : W.heap[a]? = some (.cells cs t fr)) (ht : t ≠ 75) : g ≠ a := by
 obtain ⟨wN, _, _, h⟩ := h
 exact h.ne_blk hb2 ht
def cs_New.f (l0 : List Int) (a1 : Int) : Option (List Int × Int) := if 0 ≤ a1 then (if a1 ≤ 4096 then some (l0.take a1.toNat, 0) else none) else none
set_option maxHeartbeats 8000000 in
set_option maxRecDepth 100000 in
theorem cs_New.callsW (A0 : Option Addr) (c0 : Nat) (l0 : List Int) (a1 : Int) (w : World) (hr0 : Kd.C (Kd.int .u8) w A0 l0.length l0) (hc0 : l0.length ≤ c0) (h0 : 0 ≤ a1) (h1 : a1 ≤ 4096) :
  Calls Try.prog 18 #[.slice A0 l0.length c0, .int .i64 a1] w fun e w' => ∃ g_ : Nat, e = .returned (.pointer (some ⟨g_, 0, none⟩)) ∧ NewS75 w w' g_ (l0.take a1.toNat) 0 := by
 have hu75 := Try.underlying75
 have HR0 := Aside0.mk hr0
 have HC0 := Aside0.mk hc0
 have hm0 := Kd.C_max hr0
 clear hr0 hc0
 have HB := aK (Below.refl w.heap.size w)
 obtain ⟨ji3, hji3⟩ : ∃ j_ : Int, (mn (l0.length : Int) a1) = j_ := ⟨_, rfl⟩
 have hji3_ : (if a1 < (l0.length : Int) then a1 else (l0.length : Int)) = ji3 := hji3
 have hT : l0.take ji3.toNat = l0.take a1.toNat := by
  rw [← hji3_]
  split
  ·rfl
  ·rw [Int.toNat_natCast, List.take_of_length_le (Nat.le_refl _), List.take_of_length_le (by omega)]
 have c4 : 0 ≤ ji3 := by rw [← hji3_]; split <;> omega
 have c5 : ji3 ≤ (l0.length : Int) := by rw [← hji3_]; split <;> omega
 have c7 : ji3 ≤ 4096 := by rw [← hji3_]; split <;> omega
 rw [← hT]
 clear hT hm0
 have c4b0 := eq_true c4
 have c4b1 : decide (0 ≤ (ji3)) = true := decide_eq_true c4
 have c5b0 := eq_true c5
 have c5b1 : decide ((ji3) ≤ (l0.length : Int)) = true := decide_eq_true c5
 have c6 : ([] : List Int).length + (l0.take ((ji3) : Int).toNat).length < 140737488355328 := by rw [List.length_take]; simp; omega
 have LMc6 := Aside0.mk c6
 clear c6 c7 c4 c5
 obtain ⟨y102, hy102⟩ : ∃ y_ : List Int, y_ = (([] : List Int) ++ (l0.take ((ji3) : Int).toNat)) := ⟨_, rfl⟩
 have Ny102 := Aside0.mk hy102
 have Ny2 : Aside0 (l0.take ji3.toNat = y102) := aK (by rw [hy102]; rfl)
 clear hy102
 obtain ⟨i07, hi07, _, hsz7, _⟩ := info_parts info5
 obtain ⟨hcut7, hA7, hC7⟩ := print_take_of (P := Try.prog) (Value.int .u8) 0 22 5 .i64 Try.underlying22 hi07 hsz7 A0 c0 l0 (ji3) (of_decide_eq_true (aA)) (of_decide_eq_true (aA)) HC0.out
 have hT2 : (l0.take ji3.toNat).length = ji3.toNat := by rw [List.length_take]; have h_ : ji3 ≤ (l0.length : Int) := of_decide_eq_true c5b1; omega
 have hR101 := Kd.C_of_reads (h1 := fun _ => rfl) (hA7 _ (Kd.reads_of_C HR0.out))
 rw [hT2] at hR101
 have HR101 : Aside0 (Kd.C (Kd.int .u8) w A0 ji3.toNat (l0.take ji3.toNat)) := Aside0.mk hR101
 clear hR101 hT2
 have HC101 := Aside0.mk hC7
 clear hA7 hC7 hi07 hsz7
 go_enter Try.func18, Try.ntmps18
 go_wp2_with (first | ((with_reducible refine gate_builtin (b := .append) (xs := #[.const (.slice none 0 0), .tmp 10]) rfl ?_); at_builtin; refine Kd.R_append_rows (Kd.int .u8) (w0 := w) w.heap.size rfl (.const (.slice none 0 0)) (.tmp 10) 22 5 (.int .u8 0) 1 rfl Try.underlying22 info5 rfl (by decide) (by omega) (.slice none 0 0) ([] : List Int) (l0.take ((ji3) : Int).toNat) _ _ _ (fun _ => True) (fun _ => False) rfl rfl ?aO ?aR (fun _ _ h => h) (fun _ h => h.elim) ?aF ?aB ?aS ?aL ?_; (case aR => exact HR101.out); (case aB => exact bO); (case aF => exact (fun _ _ => trivial)); (case aO => exact ((Kd.R_nil _ _ _ _ (fun _ => True)))); (case aS => exact (below_size bO)); (case aL => have := LMc6.out; have hlx_ := (show (l0.take ((ji3) : Int).toNat).length = (ji3).toNat from (by rw [List.length_take]; have h_ : ((ji3) : Int) ≤ (l0.length : Int) := of_decide_eq_true (aA); omega)); omega); intro v103 w8 ho hb hg hat; rw [← Ny102.out] at ho; have HN := Aside0.mk hb; have HO104 := Aside0.mk ho; clear HB ho hb hg hat; obtain ⟨Ao9, co9, eo9, _, hcr⟩ := Kd.R_reads HO104.out; subst eo9; have HCN := Aside0.mk hcr; clear hcr HO104; have HB := aK (Below.refl w8.heap.size w8)) | ((with_reducible refine gate_dst (N := 13) rfl ?_); refine box_event ?hg (N := 13) ?hd (cs := #[.slice Ao9 y102.length co9, .int .i64 0]) (t := 75) ?hr ?_; (case hd => rfl); (case hg => rfl); (case hr => exact hR); intro gb105 hg w10 hbox hb; have BK105 := Aside0.mk hbox; have GE105 := aK (by rw [hg]; exact (below_size bO) : w8.heap.size ≤ gb105); have n2_ := aK (below_step bO hb); clear HB; have HB := n2_; clear n2_ hb hbox hg))
 go_ret
 rw [Ny2.out]
 exact ⟨_, rfl, w8, HN.out, bO, _, _, bX BK105.out, GE105.out, HCN.out⟩
theorem cs_New.calls (A0 : Option Addr) (c0 : Nat) (l0 : List Int) (a1 : Int) (r1 : List Int) (r2 : Int) (w0 w : World) (hB : Below w0.heap.size w0 w) (hr0 : Kd.C (Kd.int .u8) w0 A0 l0.length l0) (hc0 : l0.length ≤ c0) (h : cs_New.f l0 a1 = some (r1, r2)) :
  Calls Try.prog 18 #[.slice A0 l0.length c0, .int .i64 a1] w fun e w' => ∃ g_ : Nat, e = .returned (.pointer (some ⟨g_, 0, none⟩)) ∧ NewS75 w0 w' g_ r1 r2 ∧ Below w0.heap.size w0 w' ∧ Below w.heap.size w w' := by
 unfold cs_New.f at h
 split at h
 ·split at h
  ·rename_i h0 h1
   cases h
   refine (cs_New.callsW A0 c0 l0 a1 w (Kd.C_below hr0 hB) hc0 h0 h1).mono ?_
   rintro e w' ⟨g, he, wN, b1, b2, hI⟩
   have b3 := b1.trans (b2.mono b1.size)
   exact ⟨g, he, ⟨wN, below_weaken hB hB.size b1, b2, hI⟩, below_weaken hB hB.size b3, b3⟩
  ·cases h
 ·cases h
def cc_Int.f (s0_0 : List Int) (s0_1 : Int) (a1 : Int) : Option (Int × Int) := if s0_1 ≥ (s0_0.length : Int) then (some (0, s0_1)) else (if a1 < 1 then (some (0, s0_1)) else (if 0 ≤ (wrap64 ((wrap64 (s0_1 + 1)) - 1)) then (if (wrap64 ((wrap64 (s0_1 + 1)) - 1)) < (s0_0.length : Int) then (if a1 = 0 then (none) else (some (Int.tmod (wrap64 (rd s0_0 (wrap64 ((wrap64 (s0_1 + 1)) - 1)))) a1, wrap64 (s0_1 + 1)))) else (none)) else (none)))
set_option maxHeartbeats 8000000 in
set_option maxRecDepth 100000 in
theorem cc_Int.calls (g : Nat) (s0_0 : List Int) (s0_1 : Int) (a1 : Int) (r1 : Int) (r2 : Int) (w0 w : World) (hI : IsS75 w0 w g s0_0 s0_1) (hB : Below w0.heap.size w0 w) (h : cc_Int.f s0_0 s0_1 a1 = some (r1, r2)) :
  Calls Try.prog 73 #[.pointer (some ⟨g, 0, none⟩), .int .i64 a1] w fun e w' => e = .returned (.int .i64 r1) ∧ IsS75 w0 w' g s0_0 r2 ∧ Below w0.heap.size w0 w' ∧ KeepBut w w' g none := by
 have HI0 := Aside0.mk hI
 have HK := aK (KeepBut.refl w g none)
 have HL := Aside0.mk hB.size
 clear hI
 have HW0 := Aside0.mk hB.size
 have HB := Aside0.mk hB
 clear hB
 have H : (if s0_1 ≥ (s0_0.length : Int) then (some (0, s0_1)) else (if a1 < 1 then (some (0, s0_1)) else (if 0 ≤ (wrap64 ((wrap64 (s0_1 + 1)) - 1)) then (if (wrap64 ((wrap64 (s0_1 + 1)) - 1)) < (s0_0.length : Int) then (if a1 = 0 then (none) else (some (Int.tmod (wrap64 (rd s0_0 (wrap64 ((wrap64 (s0_1 + 1)) - 1)))) a1, wrap64 (s0_1 + 1)))) else (none)) else (none)))) = some (r1, r2) := h
 clear h
 by_cases c3 : s0_1 ≥ (s0_0.length : Int)
 rotate_left
 ·rw [if_neg c3] at H
  have c3b0 : decide ((s0_0.length : Int) ≤ s0_1) = false := decide_eq_false c3
  clear c3
  by_cases c5 : a1 < 1
  rotate_left
  ·rw [if_neg c5] at H
   have c5b0 : decide (a1 < 1) = false := decide_eq_false c5
   clear c5
   obtain ⟨ji7, hji7⟩ : ∃ j_ : Int, (wrap64 ((wrap64 (s0_1 + 1)) - 1)) = j_ := ⟨_, rfl⟩
   replace H : (if 0 ≤ (ji7) then (if (ji7) < (s0_0.length : Int) then (if a1 = 0 then (none) else (some (Int.tmod (wrap64 (rd s0_0 (ji7))) a1, wrap64 (s0_1 + 1)))) else (none)) else (none)) = some (r1, r2) := by first | (rw [hji7] at H; exact H) | (simp only [hji7] at H ⊢; exact H)
   have hji7w : (IntKind.i64.wrap ((wrap64 (s0_1 + 1)) - 1)) = ji7 := (i64_w _).trans hji7
   by_cases c8 : 0 ≤ (ji7)
   rotate_left
   ·rw [if_neg c8] at H
    exact absurd H (by simp)
   rw [if_pos c8] at H
   have c8b0 : decide (0 ≤ (ji7)) = true := decide_eq_true c8
   clear c8
   by_cases c9 : (ji7) < (s0_0.length : Int)
   rotate_left
   ·rw [if_neg c9] at H
    exact absurd H (by simp)
   rw [if_pos c9] at H
   have c9b0 : decide ((ji7) < (s0_0.length : Int)) = true := decide_eq_true c9
   clear c9
   by_cases c10 : a1 = 0
   rotate_left
   ·rw [if_neg c10] at H
    have c10b0 : (a1 == 0) = false := beq_eq_false_iff_ne.mpr c10
    have c10b1 : (a1 != 0) = true := bne_iff_ne.mpr c10
    simp only [Option.some.injEq, Prod.mk.injEq] at H
    obtain ⟨rfl, rfl⟩ := H
    obtain ⟨ASz11_0, cSz11_0, HGz11, hgz11, HSz11_0⟩ := HI0.out
    have hcz11_0 := cellS75_0 HGz11
    have hcz11_1 := cellS75_1 HGz11
    have hfz11_1 := blk_frozen HGz11 1
    clear HGz11 hgz11
    have p103 : 0 ≤ ((ji7) : Int) := of_decide_eq_true (aA)
    have q103 : (ji7) < (s0_0.length : Int) := of_decide_eq_true (aA)
    obtain ⟨ad103, e103, hx103_0⟩ := Kd.at_int HSz11_0 (ji7) p103 q103
    cases e103
    have hn103_0 : ad103.block ≠ g := Nat.ne_of_lt (Nat.lt_of_lt_of_le (by have := World.block_lt_of_cell? _ _ hx103_0; first | rwa [add_block] at this | exact this) (IsS75.ge HI0.out))
    replace hx103_0 := pw_cell_below HB.out hx103_0
    replace hx103_0 := (cell_far (p := ⟨g, 1, none⟩) (by first | (rw [add_block]; exact hn103_0) | (show (Addr.add _ _).block ≠ _; rw [add_block]; exact hn103_0) | exact hn103_0) (.int .i64 (wrap64 (s0_1 + 1)))).trans hx103_0
    (try have hy103_0 := fun (n_ : Nat) => (show (((w.drewN n_).setCell ⟨g, 1, none⟩ (.int .i64 (wrap64 (s0_1 + 1))))).cell? _ = some _ from hx103_0))
    clear hn103_0
    replace p103 := eq_true p103
    replace q103 := eq_true q103
    go_enter Try.func73, Try.ntmps73
    go_wp2
    repeat (go_quiet (fail); try go_wp2)
    go_ret
    exact ⟨by first | rfl | (simp [errW_none, errW_some] <;> rfl) | (simp only [← hji7]; first | rfl | (simp [errW_none, errW_some] <;> rfl)) | (simp [*, errW_none, errW_some] <;> rfl), iX HI0.out, bS (IsS75.ge HI0.out), kX⟩
   rw [if_pos c10] at H
   exact absurd H (by simp)
  rw [if_pos c5] at H
  have c5b0 : decide (a1 < 1) = true := decide_eq_true c5
  clear c5
  simp only [Option.some.injEq, Prod.mk.injEq] at H
  obtain ⟨rfl, rfl⟩ := H
  obtain ⟨ASz6_0, cSz6_0, HGz6, hgz6, HSz6_0⟩ := HI0.out
  have hcz6_0 := cellS75_0 HGz6
  have hcz6_1 := cellS75_1 HGz6
  have hfz6_1 := blk_frozen HGz6 1
  clear HGz6 hgz6
  go_enter Try.func73, Try.ntmps73
  go_wp2
  repeat (go_quiet (fail); try go_wp2)
  go_ret
  exact ⟨eW, iX HI0.out, bS (IsS75.ge HI0.out), kX⟩
 rw [if_pos c3] at H
 have c3b0 : decide ((s0_0.length : Int) ≤ s0_1) = true := decide_eq_true c3
 clear c3
 simp only [Option.some.injEq, Prod.mk.injEq] at H
 obtain ⟨rfl, rfl⟩ := H
 obtain ⟨ASz4_0, cSz4_0, HGz4, hgz4, HSz4_0⟩ := HI0.out
 have hcz4_0 := cellS75_0 HGz4
 have hcz4_1 := cellS75_1 HGz4
 have hfz4_1 := blk_frozen HGz4 1
 clear HGz4 hgz4
 go_enter Try.func73, Try.ntmps73
 go_wp2
 repeat (go_quiet (fail); try go_wp2)
 go_ret
 exact ⟨eW, iX HI0.out, bS (IsS75.ge HI0.out), kX⟩
end Go.Proofs.Ytpjcdacnhalclaa.Q
