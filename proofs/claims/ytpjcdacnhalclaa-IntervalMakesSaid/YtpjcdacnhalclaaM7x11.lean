/- A part of the proof of the law that the last part names: facts of the functions that the law calls. No condition beyond those that stand in them. -/
import Derived.Test.YtpjcdacnhalclaaM7x3
import Derived.Test.YtpjcdacnhalclaaM7x5
import Derived.Test.YtpjcdacnhalclaaM7x10
import Derived.Test.YtpjcdacnhalclaaM7x6
namespace Go.Proofs.Ytpjcdacnhalclaa.Q
open Go.RowKit Go.Proofs.YtpjcdacnhalclaaW.PrintWords Go.Proofs.YtpjcdacnhalclaaW.PrintLast Go.Proofs.YtpjcdacnhalclaaW.PrintMore
attribute [local go_sem] max2_int min2_int max_two min_two max_three min_three max_four min_four
set_option linter.unusedVariables false
set_option linter.unusedSimpArgs false
attribute [local go_sem high] eqA24
def partsynclaw03_begun.f (k : Nat)  : Option (Bool) := (partsynclaw03_num.f 1).bind fun bt586 => ((partsynclaw03_num.f 3).bind fun bt589 => ((interval_Between.f k bt586.1 bt586.2.1 bt586.2.2 bt589.1 bt589.2.1 bt589.2.2).bind fun bt592 => ((partsynclaw03_num.f 3).bind fun bt596 => ((partsynclaw03_num.f 5).bind fun bt599 => ((interval_Between.f k bt596.1 bt596.2.1 bt596.2.2 bt599.1 bt599.2.1 bt599.2.2).bind fun bt602 => ((interval_Union.f k bt592.1 bt602.1).bind fun bt606 => (if bt592.2 = 0 then (if bt602.2 = 0 then (if bt606.2 = 0 then (if (bt606.1.length : Int) = 1 then (if 0 < (bt606.1.length : Int) then ((partsynclaw03_num.f 1).bind fun bt611 => (if (((rd_T65 bt606.1 0).f0.f0) == bt611.1 && (((rd_T65 bt606.1 0).f0.f1) == bt611.2.1 && ((((rd_T65 bt606.1 0).f0.f2).toList) == bt611.2.2.toList))) = true then ((partsynclaw03_num.f 5).bind fun bt615 => (if (((rd_T65 bt606.1 0).f1.f0) == bt615.1 && (((rd_T65 bt606.1 0).f1.f1) == bt615.2.1 && ((((rd_T65 bt606.1 0).f1.f2).toList) == bt615.2.2.toList))) = true then ((interval_Valid.f k bt606.1).bind fun t618 => (if t618 = true then ((partsynclaw03_num.f 3).bind fun bt619 => ((interval_Has.f k bt606.1 bt619.1 bt619.2.1 bt619.2.2).bind fun t622 => (if t622 = true then ((interval_All.f).bind fun t623 => (some ((t623.length : Int) == 1))) else (some false)))) else (some false))) else (some false))) else (some false))) else (none)) else (some false)) else (some false)) else (some false)) else (some false))))))))
theorem partsynclaw03_begun.mono : ∀ k, LeO (partsynclaw03_begun.f k ) (partsynclaw03_begun.f (k + 1) ) := by
 intro  k
 unfold partsynclaw03_begun.f
 repeat' first
   | (with_reducible exact interval_Between.mono _ _ _ _ _ _ _)
   | (with_reducible exact interval_Has.mono _ _ _ _ _)
   | (with_reducible exact interval_Union.mono _ _ _)
   | (with_reducible exact interval_Valid.mono _ _)
   | (with_reducible exact LeO.refl _)
   | (with_reducible exact LeO.none _)
   | (with_reducible refine LeO.ite ?_ ?_)
   | (with_reducible refine LeO.bind ?_ (fun _ => ?_))
   | exact interval_Between.mono _ _ _ _ _ _ _
   | exact interval_Has.mono _ _ _ _ _
   | exact interval_Union.mono _ _ _
   | exact interval_Valid.mono _ _
   | exact LeO.none _
   | refine LeO.ite ?_ ?_
   | refine LeO.bind ?_ (fun _ => ?_)
def partsynclaw03_begun.T4 : Bool × List (List Nat × List Nat) := (true, [([], []), ([0], [0]), ([1], [1]), ([2], [2]), ([3, 2], [2, 3]), ([2, 4], [2, 4]), ([5, 2], [5]), ([6], [6]), ([7, 6], [6, 7]), ([6, 8], [6, 8]), ([9, 6], [9]), ([10], [10]), ([11, 10], [10, 11]), ([12, 10], [10, 12]), ([10, 13], [10, 13]), ([14, 10], [14]), ([15], [15]), ([16, 15], [15, 16]), ([17, 15], [15, 17]), ([18, 15], [15, 18]), ([15, 15], [15]), ([19, 20, 15], [15, 19, 20]), ([15, 21], [15, 21]), ([22, 20], [22]), ([23], [23]), ([24, 23], [23, 24]), ([25, 23], [23, 25]), ([26, 23], [23, 26]), ([23, 23], [23]), ([27, 28, 23], [23, 27, 28]), ([23, 29], [23, 29]), ([30, 28], [30]), ([31], [31]), ([32, 31, 31], [31, 32]), ([31, 33], [31, 33]), ([34, 33], [34]), ([35], [35]), ([35, 35], [35]), ([36, 37, 37, 35], [35, 36, 37]), ([35, 38], [35, 38]), ([39, 38], [39]), ([40, 40], [40]), ([41, 40], [40, 41]), ([42, 40], [40, 42]), ([40, 43], [40, 43]), ([44, 41, 0, 1, 2, 3, 4, 5, 6, 7, 8, 9, 10, 11, 12, 13, 14, 15, 16, 17, 18, 19, 20, 21, 22, 23, 24, 25, 26, 27, 28, 29, 30, 31, 32, 33, 34, 35, 36, 37, 38, 39, 40, 41, 42, 43, 44], [44])])
def partsynclaw03_begun.B4 : List Nat := [0, 1, 3, 7, 15, 31, 63, 127, 255, 511, 1023, 2047, 4095, 8191, 16383, 32767, 65535, 131071, 262143, 524287, 65535, 2097151, 4194303, 8388607, 16777215, 33554431, 67108863, 134217727, 16777215, 536870911, 1073741823, 2147483647, 4294967295, 8589934591, 17179869183, 34359738367, 68719476735, 68719476735, 274877906943, 549755813887, 1099511627775, 2199023255551, 4398046511103, 8796093022207, 17592186044415, 35184372088831]
theorem partsynclaw03_begun.tab4 : rtab .any (opsOf Try.f36 4) = partsynclaw03_begun.T4 := by kernel_rfl
theorem partsynclaw03_begun.bits4 : waitsOk partsynclaw03_begun.T4.2 partsynclaw03_begun.B4 = true := by kernel_rfl
set_option maxHeartbeats 8000000 in
set_option maxRecDepth 100000 in
theorem partsynclaw03_begun.callsT (k : Nat)  (r : Bool) (w : World) (h : partsynclaw03_begun.f k  = some r) (HRT : Aside0 (r = true)) :
  Calls Try.prog 36 #[] w fun e w' => e = .returned (.bool r) ∧ Below w.heap.size w w' := by
 have hu24 := Try.underlying24
 have HB := Aside0.mk (Below.refl w.heap.size w)
 have H : ((partsynclaw03_num.f 1).bind fun bt586 => ((partsynclaw03_num.f 3).bind fun bt589 => ((interval_Between.f k bt586.1 bt586.2.1 bt586.2.2 bt589.1 bt589.2.1 bt589.2.2).bind fun bt592 => ((partsynclaw03_num.f 3).bind fun bt596 => ((partsynclaw03_num.f 5).bind fun bt599 => ((interval_Between.f k bt596.1 bt596.2.1 bt596.2.2 bt599.1 bt599.2.1 bt599.2.2).bind fun bt602 => ((interval_Union.f k bt592.1 bt602.1).bind fun bt606 => (if bt592.2 = 0 then (if bt602.2 = 0 then (if bt606.2 = 0 then (if (bt606.1.length : Int) = 1 then (if 0 < (bt606.1.length : Int) then ((partsynclaw03_num.f 1).bind fun bt611 => (if (((rd_T65 bt606.1 0).f0.f0) == bt611.1 && (((rd_T65 bt606.1 0).f0.f1) == bt611.2.1 && ((((rd_T65 bt606.1 0).f0.f2).toList) == bt611.2.2.toList))) = true then ((partsynclaw03_num.f 5).bind fun bt615 => (if (((rd_T65 bt606.1 0).f1.f0) == bt615.1 && (((rd_T65 bt606.1 0).f1.f1) == bt615.2.1 && ((((rd_T65 bt606.1 0).f1.f2).toList) == bt615.2.2.toList))) = true then ((interval_Valid.f k bt606.1).bind fun t618 => (if t618 = true then ((partsynclaw03_num.f 3).bind fun bt619 => ((interval_Has.f k bt606.1 bt619.1 bt619.2.1 bt619.2.2).bind fun t622 => (if t622 = true then ((interval_All.f).bind fun t623 => (some ((t623.length : Int) == 1))) else (some false)))) else (some false))) else (some false))) else (some false))) else (none)) else (some false)) else (some false)) else (some false)) else (some false))))))))) = some r := h
 clear h
 replace H := Option.bind_eq_some_iff.mp H
 obtain ⟨⟨t586, t587, t588⟩, A10, H⟩ := H
 replace H : ((partsynclaw03_num.f 3).bind fun bt589 => ((interval_Between.f k t586 t587 t588 bt589.1 bt589.2.1 bt589.2.2).bind fun bt592 => ((partsynclaw03_num.f 3).bind fun bt596 => ((partsynclaw03_num.f 5).bind fun bt599 => ((interval_Between.f k bt596.1 bt596.2.1 bt596.2.2 bt599.1 bt599.2.1 bt599.2.2).bind fun bt602 => ((interval_Union.f k bt592.1 bt602.1).bind fun bt606 => (if bt592.2 = 0 then (if bt602.2 = 0 then (if bt606.2 = 0 then (if (bt606.1.length : Int) = 1 then (if 0 < (bt606.1.length : Int) then ((partsynclaw03_num.f 1).bind fun bt611 => (if (((rd_T65 bt606.1 0).f0.f0) == bt611.1 && (((rd_T65 bt606.1 0).f0.f1) == bt611.2.1 && ((((rd_T65 bt606.1 0).f0.f2).toList) == bt611.2.2.toList))) = true then ((partsynclaw03_num.f 5).bind fun bt615 => (if (((rd_T65 bt606.1 0).f1.f0) == bt615.1 && (((rd_T65 bt606.1 0).f1.f1) == bt615.2.1 && ((((rd_T65 bt606.1 0).f1.f2).toList) == bt615.2.2.toList))) = true then ((interval_Valid.f k bt606.1).bind fun t618 => (if t618 = true then ((partsynclaw03_num.f 3).bind fun bt619 => ((interval_Has.f k bt606.1 bt619.1 bt619.2.1 bt619.2.2).bind fun t622 => (if t622 = true then ((interval_All.f).bind fun t623 => (some ((t623.length : Int) == 1))) else (some false)))) else (some false))) else (some false))) else (some false))) else (none)) else (some false)) else (some false)) else (some false)) else (some false)))))))) = some r := H
 have A1 := Aside0.mk A10
 clear A10
 replace H := Option.bind_eq_some_iff.mp H
 obtain ⟨⟨t589, t590, t591⟩, A20, H⟩ := H
 replace H : ((interval_Between.f k t586 t587 t588 t589 t590 t591).bind fun bt592 => ((partsynclaw03_num.f 3).bind fun bt596 => ((partsynclaw03_num.f 5).bind fun bt599 => ((interval_Between.f k bt596.1 bt596.2.1 bt596.2.2 bt599.1 bt599.2.1 bt599.2.2).bind fun bt602 => ((interval_Union.f k bt592.1 bt602.1).bind fun bt606 => (if bt592.2 = 0 then (if bt602.2 = 0 then (if bt606.2 = 0 then (if (bt606.1.length : Int) = 1 then (if 0 < (bt606.1.length : Int) then ((partsynclaw03_num.f 1).bind fun bt611 => (if (((rd_T65 bt606.1 0).f0.f0) == bt611.1 && (((rd_T65 bt606.1 0).f0.f1) == bt611.2.1 && ((((rd_T65 bt606.1 0).f0.f2).toList) == bt611.2.2.toList))) = true then ((partsynclaw03_num.f 5).bind fun bt615 => (if (((rd_T65 bt606.1 0).f1.f0) == bt615.1 && (((rd_T65 bt606.1 0).f1.f1) == bt615.2.1 && ((((rd_T65 bt606.1 0).f1.f2).toList) == bt615.2.2.toList))) = true then ((interval_Valid.f k bt606.1).bind fun t618 => (if t618 = true then ((partsynclaw03_num.f 3).bind fun bt619 => ((interval_Has.f k bt606.1 bt619.1 bt619.2.1 bt619.2.2).bind fun t622 => (if t622 = true then ((interval_All.f).bind fun t623 => (some ((t623.length : Int) == 1))) else (some false)))) else (some false))) else (some false))) else (some false))) else (none)) else (some false)) else (some false)) else (some false)) else (some false))))))) = some r := H
 have A2 := Aside0.mk A20
 clear A20
 replace H := Option.bind_eq_some_iff.mp H
 obtain ⟨⟨t592, t595⟩, A30, H⟩ := H
 replace H : ((partsynclaw03_num.f 3).bind fun bt596 => ((partsynclaw03_num.f 5).bind fun bt599 => ((interval_Between.f k bt596.1 bt596.2.1 bt596.2.2 bt599.1 bt599.2.1 bt599.2.2).bind fun bt602 => ((interval_Union.f k t592 bt602.1).bind fun bt606 => (if t595 = 0 then (if bt602.2 = 0 then (if bt606.2 = 0 then (if (bt606.1.length : Int) = 1 then (if 0 < (bt606.1.length : Int) then ((partsynclaw03_num.f 1).bind fun bt611 => (if (((rd_T65 bt606.1 0).f0.f0) == bt611.1 && (((rd_T65 bt606.1 0).f0.f1) == bt611.2.1 && ((((rd_T65 bt606.1 0).f0.f2).toList) == bt611.2.2.toList))) = true then ((partsynclaw03_num.f 5).bind fun bt615 => (if (((rd_T65 bt606.1 0).f1.f0) == bt615.1 && (((rd_T65 bt606.1 0).f1.f1) == bt615.2.1 && ((((rd_T65 bt606.1 0).f1.f2).toList) == bt615.2.2.toList))) = true then ((interval_Valid.f k bt606.1).bind fun t618 => (if t618 = true then ((partsynclaw03_num.f 3).bind fun bt619 => ((interval_Has.f k bt606.1 bt619.1 bt619.2.1 bt619.2.2).bind fun t622 => (if t622 = true then ((interval_All.f).bind fun t623 => (some ((t623.length : Int) == 1))) else (some false)))) else (some false))) else (some false))) else (some false))) else (none)) else (some false)) else (some false)) else (some false)) else (some false)))))) = some r := H
 have A3 := Aside0.mk A30
 clear A30
 replace H := Option.bind_eq_some_iff.mp H
 obtain ⟨⟨t596, t597, t598⟩, A40, H⟩ := H
 replace H : ((partsynclaw03_num.f 5).bind fun bt599 => ((interval_Between.f k t596 t597 t598 bt599.1 bt599.2.1 bt599.2.2).bind fun bt602 => ((interval_Union.f k t592 bt602.1).bind fun bt606 => (if t595 = 0 then (if bt602.2 = 0 then (if bt606.2 = 0 then (if (bt606.1.length : Int) = 1 then (if 0 < (bt606.1.length : Int) then ((partsynclaw03_num.f 1).bind fun bt611 => (if (((rd_T65 bt606.1 0).f0.f0) == bt611.1 && (((rd_T65 bt606.1 0).f0.f1) == bt611.2.1 && ((((rd_T65 bt606.1 0).f0.f2).toList) == bt611.2.2.toList))) = true then ((partsynclaw03_num.f 5).bind fun bt615 => (if (((rd_T65 bt606.1 0).f1.f0) == bt615.1 && (((rd_T65 bt606.1 0).f1.f1) == bt615.2.1 && ((((rd_T65 bt606.1 0).f1.f2).toList) == bt615.2.2.toList))) = true then ((interval_Valid.f k bt606.1).bind fun t618 => (if t618 = true then ((partsynclaw03_num.f 3).bind fun bt619 => ((interval_Has.f k bt606.1 bt619.1 bt619.2.1 bt619.2.2).bind fun t622 => (if t622 = true then ((interval_All.f).bind fun t623 => (some ((t623.length : Int) == 1))) else (some false)))) else (some false))) else (some false))) else (some false))) else (none)) else (some false)) else (some false)) else (some false)) else (some false))))) = some r := H
 have A4 := Aside0.mk A40
 clear A40
 replace H := Option.bind_eq_some_iff.mp H
 obtain ⟨⟨t599, t600, t601⟩, A50, H⟩ := H
 replace H : ((interval_Between.f k t596 t597 t598 t599 t600 t601).bind fun bt602 => ((interval_Union.f k t592 bt602.1).bind fun bt606 => (if t595 = 0 then (if bt602.2 = 0 then (if bt606.2 = 0 then (if (bt606.1.length : Int) = 1 then (if 0 < (bt606.1.length : Int) then ((partsynclaw03_num.f 1).bind fun bt611 => (if (((rd_T65 bt606.1 0).f0.f0) == bt611.1 && (((rd_T65 bt606.1 0).f0.f1) == bt611.2.1 && ((((rd_T65 bt606.1 0).f0.f2).toList) == bt611.2.2.toList))) = true then ((partsynclaw03_num.f 5).bind fun bt615 => (if (((rd_T65 bt606.1 0).f1.f0) == bt615.1 && (((rd_T65 bt606.1 0).f1.f1) == bt615.2.1 && ((((rd_T65 bt606.1 0).f1.f2).toList) == bt615.2.2.toList))) = true then ((interval_Valid.f k bt606.1).bind fun t618 => (if t618 = true then ((partsynclaw03_num.f 3).bind fun bt619 => ((interval_Has.f k bt606.1 bt619.1 bt619.2.1 bt619.2.2).bind fun t622 => (if t622 = true then ((interval_All.f).bind fun t623 => (some ((t623.length : Int) == 1))) else (some false)))) else (some false))) else (some false))) else (some false))) else (none)) else (some false)) else (some false)) else (some false)) else (some false)))) = some r := H
 have A5 := Aside0.mk A50
 clear A50
 replace H := Option.bind_eq_some_iff.mp H
 obtain ⟨⟨t602, t605⟩, A60, H⟩ := H
 replace H : ((interval_Union.f k t592 t602).bind fun bt606 => (if t595 = 0 then (if t605 = 0 then (if bt606.2 = 0 then (if (bt606.1.length : Int) = 1 then (if 0 < (bt606.1.length : Int) then ((partsynclaw03_num.f 1).bind fun bt611 => (if (((rd_T65 bt606.1 0).f0.f0) == bt611.1 && (((rd_T65 bt606.1 0).f0.f1) == bt611.2.1 && ((((rd_T65 bt606.1 0).f0.f2).toList) == bt611.2.2.toList))) = true then ((partsynclaw03_num.f 5).bind fun bt615 => (if (((rd_T65 bt606.1 0).f1.f0) == bt615.1 && (((rd_T65 bt606.1 0).f1.f1) == bt615.2.1 && ((((rd_T65 bt606.1 0).f1.f2).toList) == bt615.2.2.toList))) = true then ((interval_Valid.f k bt606.1).bind fun t618 => (if t618 = true then ((partsynclaw03_num.f 3).bind fun bt619 => ((interval_Has.f k bt606.1 bt619.1 bt619.2.1 bt619.2.2).bind fun t622 => (if t622 = true then ((interval_All.f).bind fun t623 => (some ((t623.length : Int) == 1))) else (some false)))) else (some false))) else (some false))) else (some false))) else (none)) else (some false)) else (some false)) else (some false)) else (some false))) = some r := H
 have A6 := Aside0.mk A60
 clear A60
 replace H := Option.bind_eq_some_iff.mp H
 obtain ⟨⟨t606, t607⟩, A70, H⟩ := H
 replace H : (if t595 = 0 then (if t605 = 0 then (if t607 = 0 then (if (t606.length : Int) = 1 then (if 0 < (t606.length : Int) then ((partsynclaw03_num.f 1).bind fun bt611 => (if (((rd_T65 t606 0).f0.f0) == bt611.1 && (((rd_T65 t606 0).f0.f1) == bt611.2.1 && ((((rd_T65 t606 0).f0.f2).toList) == bt611.2.2.toList))) = true then ((partsynclaw03_num.f 5).bind fun bt615 => (if (((rd_T65 t606 0).f1.f0) == bt615.1 && (((rd_T65 t606 0).f1.f1) == bt615.2.1 && ((((rd_T65 t606 0).f1.f2).toList) == bt615.2.2.toList))) = true then ((interval_Valid.f k t606).bind fun t618 => (if t618 = true then ((partsynclaw03_num.f 3).bind fun bt619 => ((interval_Has.f k t606 bt619.1 bt619.2.1 bt619.2.2).bind fun t622 => (if t622 = true then ((interval_All.f).bind fun t623 => (some ((t623.length : Int) == 1))) else (some false)))) else (some false))) else (some false))) else (some false))) else (none)) else (some false)) else (some false)) else (some false)) else (some false)) = some r := H
 have A7 := Aside0.mk A70
 clear A70
 by_cases c8 : t595 = 0
 ·rw [if_pos c8] at H
  have c8b0 : (t595 == 0) = true := beq_iff_eq.mpr c8
  have c8b1 : (t595 != 0) = false := bne_eq_false_iff_eq.mpr c8
  clear c8
  by_cases c9 : t605 = 0
  ·rw [if_pos c9] at H
   have c9b0 : (t605 == 0) = true := beq_iff_eq.mpr c9
   have c9b1 : (t605 != 0) = false := bne_eq_false_iff_eq.mpr c9
   clear c9
   by_cases c10 : t607 = 0
   ·rw [if_pos c10] at H
    have c10b0 : (t607 == 0) = true := beq_iff_eq.mpr c10
    have c10b1 : (t607 != 0) = false := bne_eq_false_iff_eq.mpr c10
    clear c10
    by_cases c11 : (t606.length : Int) = 1
    ·rw [if_pos c11] at H
     have c11b0 : ((t606.length : Int) == 1) = true := beq_iff_eq.mpr c11
     have c11b1 : ((t606.length : Int) != 1) = false := bne_eq_false_iff_eq.mpr c11
     clear c11
     by_cases c12 : 0 < (t606.length : Int)
     ·rw [if_pos c12] at H
      have c12b0 : decide (0 < (t606.length : Int)) = true := decide_eq_true c12
      have c12b1 : decide (0 < t606.length) = true := decide_eq_true (by omega)
      clear c12
      replace H := Option.bind_eq_some_iff.mp H
      obtain ⟨⟨t611, t612, t613⟩, A130, H⟩ := H
      replace H : (if (((rd_T65 t606 0).f0.f0) == t611 && (((rd_T65 t606 0).f0.f1) == t612 && ((((rd_T65 t606 0).f0.f2).toList) == t613.toList))) = true then ((partsynclaw03_num.f 5).bind fun bt615 => (if (((rd_T65 t606 0).f1.f0) == bt615.1 && (((rd_T65 t606 0).f1.f1) == bt615.2.1 && ((((rd_T65 t606 0).f1.f2).toList) == bt615.2.2.toList))) = true then ((interval_Valid.f k t606).bind fun t618 => (if t618 = true then ((partsynclaw03_num.f 3).bind fun bt619 => ((interval_Has.f k t606 bt619.1 bt619.2.1 bt619.2.2).bind fun t622 => (if t622 = true then ((interval_All.f).bind fun t623 => (some ((t623.length : Int) == 1))) else (some false)))) else (some false))) else (some false))) else (some false)) = some r := H
      have A13 := Aside0.mk A130
      clear A130
      by_cases c14 : (((rd_T65 t606 0).f0.f0) == t611 && (((rd_T65 t606 0).f0.f1) == t612 && ((((rd_T65 t606 0).f0.f2).toList) == t613.toList))) = true
      ·rw [if_pos c14] at H
       have c14b0 : (((rd_T65 t606 0).f0.f0) == t611 && (((rd_T65 t606 0).f0.f1) == t612 && ((((rd_T65 t606 0).f0.f2).toList) == t613.toList))) = true := c14
       (try (have c14b1 : decide (((rd_T65 t606 0).f0.f0) = t611 && (((rd_T65 t606 0).f0.f1) == t612 && ((((rd_T65 t606 0).f0.f2).toList) == t613.toList))) = true := by simpa using c14))
       (try (have c14b2 : (((rd_T65 t606 0).f0.f0) == t611 && (((rd_T65 t606 0).f0.f1) == t612 && ((((rd_T65 t606 0).f0.f2).toList) == t613.toList))) = true := by simpa using c14))
       clear c14
       replace H := Option.bind_eq_some_iff.mp H
       obtain ⟨⟨t615, t616, t617⟩, A150, H⟩ := H
       replace H : (if (((rd_T65 t606 0).f1.f0) == t615 && (((rd_T65 t606 0).f1.f1) == t616 && ((((rd_T65 t606 0).f1.f2).toList) == t617.toList))) = true then ((interval_Valid.f k t606).bind fun t618 => (if t618 = true then ((partsynclaw03_num.f 3).bind fun bt619 => ((interval_Has.f k t606 bt619.1 bt619.2.1 bt619.2.2).bind fun t622 => (if t622 = true then ((interval_All.f).bind fun t623 => (some ((t623.length : Int) == 1))) else (some false)))) else (some false))) else (some false)) = some r := H
       have A15 := Aside0.mk A150
       clear A150
       by_cases c16 : (((rd_T65 t606 0).f1.f0) == t615 && (((rd_T65 t606 0).f1.f1) == t616 && ((((rd_T65 t606 0).f1.f2).toList) == t617.toList))) = true
       ·rw [if_pos c16] at H
        have c16b0 : (((rd_T65 t606 0).f1.f0) == t615 && (((rd_T65 t606 0).f1.f1) == t616 && ((((rd_T65 t606 0).f1.f2).toList) == t617.toList))) = true := c16
        (try (have c16b1 : decide (((rd_T65 t606 0).f1.f0) = t615 && (((rd_T65 t606 0).f1.f1) == t616 && ((((rd_T65 t606 0).f1.f2).toList) == t617.toList))) = true := by simpa using c16))
        (try (have c16b2 : (((rd_T65 t606 0).f1.f0) == t615 && (((rd_T65 t606 0).f1.f1) == t616 && ((((rd_T65 t606 0).f1.f2).toList) == t617.toList))) = true := by simpa using c16))
        clear c16
        replace H := Option.bind_eq_some_iff.mp H
        obtain ⟨t618, A170, H⟩ := H
        replace H : (if t618 = true then ((partsynclaw03_num.f 3).bind fun bt619 => ((interval_Has.f k t606 bt619.1 bt619.2.1 bt619.2.2).bind fun t622 => (if t622 = true then ((interval_All.f).bind fun t623 => (some ((t623.length : Int) == 1))) else (some false)))) else (some false)) = some r := H
        have A17 := Aside0.mk A170
        clear A170
        by_cases c18 : t618 = true
        ·subst c18
         have H1 : ((partsynclaw03_num.f 3).bind fun bt619 => ((interval_Has.f k t606 bt619.1 bt619.2.1 bt619.2.2).bind fun t622 => (if t622 = true then ((interval_All.f).bind fun t623 => (some ((t623.length : Int) == 1))) else (some false)))) = some r := by rw [if_pos rfl] at H; exact H
         clear H
         have H := H1
         clear H1
         replace H := Option.bind_eq_some_iff.mp H
         obtain ⟨⟨t619, t620, t621⟩, A190, H⟩ := H
         replace H : ((interval_Has.f k t606 t619 t620 t621).bind fun t622 => (if t622 = true then ((interval_All.f).bind fun t623 => (some ((t623.length : Int) == 1))) else (some false))) = some r := H
         have A19 := Aside0.mk A190
         clear A190
         replace H := Option.bind_eq_some_iff.mp H
         obtain ⟨t622, A200, H⟩ := H
         replace H : (if t622 = true then ((interval_All.f).bind fun t623 => (some ((t623.length : Int) == 1))) else (some false)) = some r := H
         have A20 := Aside0.mk A200
         clear A200
         by_cases c21 : t622 = true
         ·subst c21
          have H1 : ((interval_All.f).bind fun t623 => (some ((t623.length : Int) == 1))) = some r := by rw [if_pos rfl] at H; exact H
          clear H
          have H := H1
          clear H1
          replace H := Option.bind_eq_some_iff.mp H
          obtain ⟨t623, A220, H⟩ := H
          replace H : (some ((t623.length : Int) == 1)) = some r := H
          have A22 := Aside0.mk A220
          clear A220
          obtain rfl := Option.some.inj H
          go_enter Try.func36, Try.ntmps36
          try go_wp2_with (first | ((with_reducible refine gate_callee (f := 85) rfl ?_); refine gL (some 8) rfl Try.func85 #[.int .i64 1] rfl ?_; (with_reducible refine (partsynclaw03_num.calls 1 t586 t587 t588 _ A1.out).mono ?_); rintro e w23 ⟨rfl, hb⟩; refine ⟨_, rfl, ?_⟩; have n0_ := Aside0.mk (below_step bO hb); clear HB; have HB := n0_; clear n0_; (try clear hb); (try clear hb2); (try clear hk); (try clear hi)) | ((with_reducible refine gate_callee (f := 85) rfl ?_); refine gL (some 9) rfl Try.func85 #[.int .i64 3] rfl ?_; (with_reducible refine (partsynclaw03_num.calls 3 t589 t590 t591 _ A2.out).mono ?_); rintro e w24 ⟨rfl, hb⟩; refine ⟨_, rfl, ?_⟩; have n0_ := Aside0.mk (below_step bO hb); clear HB; have HB := n0_; clear n0_; (try clear hb); (try clear hb2); (try clear hk); (try clear hi)) | ((with_reducible refine gate_callee (f := 38) rfl ?_); refine gL (some 10) rfl Try.func38 #[.agg #[.int .i64 t586, .int .i64 t587, .string t588], .agg #[.int .i64 t589, .int .i64 t590, .string t591]] rfl ?_; (with_reducible refine (interval_Between.calls k t586 t587 t588 t589 t590 t591 t592 t595 _ A3.out).mono ?_); rintro e w25 ⟨v593, rfl, ho0, hb⟩; refine ⟨_, rfl, ?_⟩; have n0_ := Aside0.mk (Kd.R_lower ho0 (below_size bO)); have n1_ := Aside0.mk (below_step bO hb); clear HB; have HO594 := n0_; have HB := n1_; clear n0_ n1_; (try clear hb); (try clear hb2); (try clear hk); (try clear hi); (try clear ho0)) | ((with_reducible refine gate_callee (f := 85) rfl ?_); refine gL (some 14) rfl Try.func85 #[.int .i64 3] rfl ?_; (with_reducible refine (partsynclaw03_num.calls 3 t596 t597 t598 _ A4.out).mono ?_); rintro e w26 ⟨rfl, hb⟩; refine ⟨_, rfl, ?_⟩; have n0_ := Aside0.mk (Kd.R_below (rX HO594.out) hb); have n1_ := Aside0.mk (below_step bO hb); clear HO594; clear HB; have HO594 := n0_; have HB := n1_; clear n0_ n1_; (try clear hb); (try clear hb2); (try clear hk); (try clear hi)) | ((with_reducible refine gate_callee (f := 85) rfl ?_); refine gL (some 15) rfl Try.func85 #[.int .i64 5] rfl ?_; (with_reducible refine (partsynclaw03_num.calls 5 t599 t600 t601 _ A5.out).mono ?_); rintro e w27 ⟨rfl, hb⟩; refine ⟨_, rfl, ?_⟩; have n0_ := Aside0.mk (Kd.R_below (rX HO594.out) hb); have n1_ := Aside0.mk (below_step bO hb); clear HO594; clear HB; have HO594 := n0_; have HB := n1_; clear n0_ n1_; (try clear hb); (try clear hb2); (try clear hk); (try clear hi)) | ((with_reducible refine gate_callee (f := 38) rfl ?_); refine gL (some 16) rfl Try.func38 #[.agg #[.int .i64 t596, .int .i64 t597, .string t598], .agg #[.int .i64 t599, .int .i64 t600, .string t601]] rfl ?_; (with_reducible refine (interval_Between.calls k t596 t597 t598 t599 t600 t601 t602 t605 _ A6.out).mono ?_); rintro e w28 ⟨v603, rfl, ho0, hb⟩; refine ⟨_, rfl, ?_⟩; have n0_ := Aside0.mk (Kd.R_elder' (rX HO594.out) (Kd.R_base ho0) hb); have n1_ := Aside0.mk (Kd.R_lower (Kd.R_new' ho0 (Kd.R_lt (rX HO594.out))) (below_size bO)); have n2_ := Aside0.mk (below_step bO hb); clear HO594; clear HB; have HO594 := n0_; have HO604 := n1_; have HB := n2_; clear n0_ n1_ n2_; (try clear hb); (try clear hb2); (try clear hk); (try clear hi); (try clear ho0); obtain ⟨Ao29, co29, eo29⟩ := Kd.R_slice HO594.out; subst eo29; obtain ⟨Ao30, co30, eo30⟩ := Kd.R_slice HO604.out; subst eo30) | ((with_reducible refine gate_callee (f := 30) rfl ?_); refine gL (some 22) rfl Try.func30 #[.slice Ao29 t592.length co29, .slice Ao30 t602.length co30] rfl ?_; (with_reducible refine (interval_Union.calls k _ _ t592 _ _ t602 t606 t607 _ ?side1 ?side2 ?side3 ?side4 A7.out).mono ?_); (case side1 => exact cX (Kd.R_reads' HO594.out).2.2); (case side2 => exact (Kd.R_reads' HO594.out).2.1); (case side3 => exact cX (Kd.R_reads' HO604.out).2.2); (case side4 => exact (Kd.R_reads' HO604.out).2.1); rintro e w31 ⟨v608, rfl, ho0, hb⟩; refine ⟨_, rfl, ?_⟩; have n0_ := Aside0.mk (Kd.R_elder' (rX HO594.out) (Kd.R_base ho0) hb); have n1_ := Aside0.mk (Kd.R_elder' (rX HO604.out) (Kd.R_base ho0) hb); have n2_ := Aside0.mk (Kd.R_lower (Kd.R_new' (Kd.R_new' ho0 (Kd.R_lt (rX HO594.out))) (Kd.R_lt (rX HO604.out))) (below_size bO)); have n3_ := Aside0.mk (below_step bO hb); clear HO594; clear HO604; clear HB; have HO594 := n0_; have HO604 := n1_; have HO609 := n2_; have HB := n3_; clear n0_ n1_ n2_ n3_; (try clear hb); (try clear hb2); (try clear hk); (try clear hi); (try clear ho0)))
          have n0_ := Aside0.mk (Kd.R_drew HO594.out)
          have n1_ := Aside0.mk (Kd.R_drew HO604.out)
          have n2_ := Aside0.mk (Kd.R_drew HO609.out)
          have n3_ := Aside0.mk (below_drew1 HB.out)
          clear HO594
          clear HO604
          clear HO609
          clear HB
          have HO594 := n0_
          have HO604 := n1_
          have HO609 := n2_
          have HB := n3_
          clear n0_ n1_ n2_ n3_
          obtain ⟨Ao33, co33, eo33⟩ := Kd.R_slice HO609.out
          (first | subst eo33 | (injection eo33 with f1_ f2_ f3_; have f4_ := f1_.symm; have f5_ := f3_.symm; clear f1_ f2_ f3_; subst f4_; subst f5_))
          have p610 : 0 ≤ (0 : Int) := (by omega)
          have q610 : 0 < (t606.length : Int) := of_decide_eq_true (by first | (with_reducible assumption) | assumption)
          obtain ⟨ad610, e610, hx610_0, hx610_1, hx610_2, hx610_3, hx610_4, hx610_5, hx610_6⟩ := at_T65 (Kd.R_reads' HO609.out).2.2 0 p610 q610
          cases e610
          have qi610 : (0 < t606.length) = True := eq_true (by omega)
          (try rw [show ((0 : Int)).toNat = 0 from rfl] at hx610_0)
          (try rw [show 0 * 7 = 0 from rfl] at hx610_0)
          (try rw [Addr.add_zero'] at hx610_0)
          (try rw [show ((0 : Int)).toNat = 0 from rfl] at hx610_1)
          (try rw [show 0 * 7 = 0 from rfl] at hx610_1)
          (try rw [Addr.add_zero'] at hx610_1)
          (try rw [show ((0 : Int)).toNat = 0 from rfl] at hx610_2)
          (try rw [show 0 * 7 = 0 from rfl] at hx610_2)
          (try rw [Addr.add_zero'] at hx610_2)
          (try rw [show ((0 : Int)).toNat = 0 from rfl] at hx610_3)
          (try rw [show 0 * 7 = 0 from rfl] at hx610_3)
          (try rw [Addr.add_zero'] at hx610_3)
          (try rw [show ((0 : Int)).toNat = 0 from rfl] at hx610_4)
          (try rw [show 0 * 7 = 0 from rfl] at hx610_4)
          (try rw [Addr.add_zero'] at hx610_4)
          (try rw [show ((0 : Int)).toNat = 0 from rfl] at hx610_5)
          (try rw [show 0 * 7 = 0 from rfl] at hx610_5)
          (try rw [Addr.add_zero'] at hx610_5)
          (try rw [show ((0 : Int)).toNat = 0 from rfl] at hx610_6)
          (try rw [show 0 * 7 = 0 from rfl] at hx610_6)
          (try rw [Addr.add_zero'] at hx610_6)
          replace p610 := eq_true p610
          replace q610 := eq_true q610
          have p614 : 0 ≤ (0 : Int) := (by omega)
          have q614 : 0 < (t606.length : Int) := of_decide_eq_true (by first | (with_reducible assumption) | assumption)
          obtain ⟨ad614, e614, hx614_0, hx614_1, hx614_2, hx614_3, hx614_4, hx614_5, hx614_6⟩ := at_T65 (Kd.R_reads' HO609.out).2.2 0 p614 q614
          obtain rfl : ad610 = ad614 := (by injection e614)
          have qi614 : (0 < t606.length) = True := eq_true (by omega)
          (try rw [show ((0 : Int)).toNat = 0 from rfl] at hx614_0)
          (try rw [show 0 * 7 = 0 from rfl] at hx614_0)
          (try rw [Addr.add_zero'] at hx614_0)
          (try rw [show ((0 : Int)).toNat = 0 from rfl] at hx614_1)
          (try rw [show 0 * 7 = 0 from rfl] at hx614_1)
          (try rw [Addr.add_zero'] at hx614_1)
          (try rw [show ((0 : Int)).toNat = 0 from rfl] at hx614_2)
          (try rw [show 0 * 7 = 0 from rfl] at hx614_2)
          (try rw [Addr.add_zero'] at hx614_2)
          (try rw [show ((0 : Int)).toNat = 0 from rfl] at hx614_3)
          (try rw [show 0 * 7 = 0 from rfl] at hx614_3)
          (try rw [Addr.add_zero'] at hx614_3)
          (try rw [show ((0 : Int)).toNat = 0 from rfl] at hx614_4)
          (try rw [show 0 * 7 = 0 from rfl] at hx614_4)
          (try rw [Addr.add_zero'] at hx614_4)
          (try rw [show ((0 : Int)).toNat = 0 from rfl] at hx614_5)
          (try rw [show 0 * 7 = 0 from rfl] at hx614_5)
          (try rw [Addr.add_zero'] at hx614_5)
          (try rw [show ((0 : Int)).toNat = 0 from rfl] at hx614_6)
          (try rw [show 0 * 7 = 0 from rfl] at hx614_6)
          (try rw [Addr.add_zero'] at hx614_6)
          replace p614 := eq_true p614
          replace q614 := eq_true q614
          refine start_ (n := 46) (S := fun w' => w'.cell? ad610 = some (.int .i64 ((rd_T65 t606 0).f0.f0)) ∧ w'.cell? ⟨ad610.block, ad610.off + 1, none⟩ = some (.int .i64 ((rd_T65 t606 0).f0.f1)) ∧ w'.cell? ⟨ad610.block, ad610.off + 2, none⟩ = some (.string ((rd_T65 t606 0).f0.f2)) ∧ w'.cell? ⟨ad610.block, ad610.off + 3, none⟩ = some (.int .i64 ((rd_T65 t606 0).f1.f0)) ∧ w'.cell? ⟨ad610.block, ad610.off + 4, none⟩ = some (.int .i64 ((rd_T65 t606 0).f1.f1)) ∧ w'.cell? ⟨ad610.block, ad610.off + 5, none⟩ = some (.string ((rd_T65 t606 0).f1.f2)) ∧ w'.cell? ⟨ad610.block, ad610.off + 6, none⟩ = some (.bool ((rd_T65 t606 0).f2)) ∧ w'.cell? ad610 = some (.int .i64 ((rd_T65 t606 0).f0.f0)) ∧ w'.cell? ⟨ad610.block, ad610.off + 1, none⟩ = some (.int .i64 ((rd_T65 t606 0).f0.f1)) ∧ w'.cell? ⟨ad610.block, ad610.off + 2, none⟩ = some (.string ((rd_T65 t606 0).f0.f2)) ∧ w'.cell? ⟨ad610.block, ad610.off + 3, none⟩ = some (.int .i64 ((rd_T65 t606 0).f1.f0)) ∧ w'.cell? ⟨ad610.block, ad610.off + 4, none⟩ = some (.int .i64 ((rd_T65 t606 0).f1.f1)) ∧ w'.cell? ⟨ad610.block, ad610.off + 5, none⟩ = some (.string ((rd_T65 t606 0).f1.f2)) ∧ w'.cell? ⟨ad610.block, ad610.off + 6, none⟩ = some (.bool ((rd_T65 t606 0).f2))) (ds := []) #[false, false, false, false, false, false, false, false, false, false, false, false, false, false, false, false, false, false, false, false, false, false, false, false, false, false, false, false, false, false, false, false, false, false, false, false, false, false, false, false, false, false, false, false, false, false] (by kernel_rfl) rfl rfl ⟨hx610_0, hx610_1, hx610_2, hx610_3, hx610_4, hx610_5, hx610_6, hx614_0, hx614_1, hx614_2, hx614_3, hx614_4, hx614_5, hx614_6⟩ (fun hHeld => ?_); refine with_tabW partsynclaw03_begun.tab4 partsynclaw03_begun.bits4 (fun HT_ HW_ => ?_)
          generalize w31.drew = w32 at HO594 HO604 HO609 HB hx610_0 hx610_1 hx610_2 hx610_3 hx610_4 hx610_5 hx610_6 hx614_0 hx614_1 hx614_2 hx614_3 hx614_4 hx614_5 hx614_6 hHeld ⊢
          refine pure_ (i := 0) (N := some 25) (v := ?_) (a' := ?_) #[true, false, false, false, false, false, false, false, false, false, false, false, false, false, false, false, false, false, false, false, false, false, false, false, false, false, false, false, false, false, false, false, false, false, false, false, false, false, false, false, false, false, false, false, false, false] rfl rfl (any_of HT_.out (by kernel_rfl)) (fun _ _ _ h => h) (Or.inl ⟨by rfl, ?_⟩) ?_ ?_
          rotate_left
          ·intro w'
           go_simp
           with_reducible rfl
          rotate_left
          ·simp only [Act.put, List.setIfInBounds_toArray, List.set_cons_zero, List.set_cons_succ, i64_w, i32_w]
           rfl
          refine pure_ (i := 1) (N := some 26) (v := ?_) (a' := ?_) #[true, true, false, false, false, false, false, false, false, false, false, false, false, false, false, false, false, false, false, false, false, false, false, false, false, false, false, false, false, false, false, false, false, false, false, false, false, false, false, false, false, false, false, false, false, false] rfl rfl (any_of HT_.out (by kernel_rfl)) (fun _ _ _ h => h) (Or.inl ⟨by rfl, ?_⟩) ?_ ?_
          rotate_left
          ·intro w'
           go_simp
           with_reducible rfl
          rotate_left
          ·simp only [Act.put, List.setIfInBounds_toArray, List.set_cons_zero, List.set_cons_succ, i64_w, i32_w]
           rfl
          refine pure_ (i := 2) (N := some 27) (v := ?_) (a' := ?_) #[true, true, true, false, false, false, false, false, false, false, false, false, false, false, false, false, false, false, false, false, false, false, false, false, false, false, false, false, false, false, false, false, false, false, false, false, false, false, false, false, false, false, false, false, false, false] rfl rfl (any_of HT_.out (by kernel_rfl)) (fun _ _ _ h => h) (Or.inl ⟨by rfl, ?_⟩) ?_ ?_
          rotate_left
          ·intro w'
           go_simp
           with_reducible rfl
          rotate_left
          ·simp only [Act.put, List.setIfInBounds_toArray, List.set_cons_zero, List.set_cons_succ, i64_w, i32_w]
           rfl
          refine pure_ (i := 3) (N := some 28) (v := ?_) (a' := ?_) #[true, true, true, true, false, false, false, false, false, false, false, false, false, false, false, false, false, false, false, false, false, false, false, false, false, false, false, false, false, false, false, false, false, false, false, false, false, false, false, false, false, false, false, false, false, false] rfl rfl (any_of HT_.out (by kernel_rfl)) (fun _ _ _ h => h) (Or.inl ⟨by rfl, ?_⟩) ?_ ?_
          rotate_left
          ·intro w'
           go_simp
           with_reducible rfl
          rotate_left
          ·simp only [Act.put, List.setIfInBounds_toArray, List.set_cons_zero, List.set_cons_succ, i64_w, i32_w]
           rfl
          refine pure_ (i := 4) (N := some 29) (v := ?_) (a' := ?_) #[true, true, true, true, true, false, false, false, false, false, false, false, false, false, false, false, false, false, false, false, false, false, false, false, false, false, false, false, false, false, false, false, false, false, false, false, false, false, false, false, false, false, false, false, false, false] rfl rfl (any_of HT_.out (by kernel_rfl)) (fun _ _ _ h => h) (Or.inl ⟨by rfl, ?_⟩) ?_ ?_
          rotate_left
          ·intro w'
           go_simp
           with_reducible rfl
          rotate_left
          ·simp only [Act.put, List.setIfInBounds_toArray, List.set_cons_zero, List.set_cons_succ, i64_w, i32_w]
           rfl
          refine pure_ (i := 5) (N := some 30) (v := ?_) (a' := ?_) #[true, true, true, true, true, true, false, false, false, false, false, false, false, false, false, false, false, false, false, false, false, false, false, false, false, false, false, false, false, false, false, false, false, false, false, false, false, false, false, false, false, false, false, false, false, false] rfl rfl (any_of HT_.out (by kernel_rfl)) (fun _ _ _ h => h) (Or.inl ⟨by rfl, ?_⟩) ?_ ?_
          rotate_left
          ·intro w'
           go_simp
           with_reducible rfl
          rotate_left
          ·simp only [Act.put, List.setIfInBounds_toArray, List.set_cons_zero, List.set_cons_succ, i64_w, i32_w]
           rfl
          refine pure_ (i := 6) (N := some 31) (v := ?_) (a' := ?_) #[true, true, true, true, true, true, true, false, false, false, false, false, false, false, false, false, false, false, false, false, false, false, false, false, false, false, false, false, false, false, false, false, false, false, false, false, false, false, false, false, false, false, false, false, false, false] rfl rfl (any_of HT_.out (by kernel_rfl)) (fun _ _ _ h => h) (Or.inl ⟨by rfl, ?_⟩) ?_ ?_
          rotate_left
          ·intro w'
           go_simp
           with_reducible rfl
          rotate_left
          ·simp only [Act.put, List.setIfInBounds_toArray, List.set_cons_zero, List.set_cons_succ, i64_w, i32_w]
           rfl
          refine pure_ (i := 7) (N := some 32) (v := ?_) (a' := ?_) #[true, true, true, true, true, true, true, true, false, false, false, false, false, false, false, false, false, false, false, false, false, false, false, false, false, false, false, false, false, false, false, false, false, false, false, false, false, false, false, false, false, false, false, false, false, false] rfl rfl (any_of HT_.out (by kernel_rfl)) (fun _ _ _ h => h) (Or.inl ⟨by rfl, ?_⟩) ?_ ?_
          rotate_left
          ·intro w'
           go_simp
           with_reducible rfl
          rotate_left
          ·simp only [Act.put, List.setIfInBounds_toArray, List.set_cons_zero, List.set_cons_succ, i64_w, i32_w]
           rfl
          refine pure_ (i := 8) (N := some 33) (v := ?_) (a' := ?_) #[true, true, true, true, true, true, true, true, true, false, false, false, false, false, false, false, false, false, false, false, false, false, false, false, false, false, false, false, false, false, false, false, false, false, false, false, false, false, false, false, false, false, false, false, false, false] rfl rfl (any_of HT_.out (by kernel_rfl)) (fun _ _ _ h => h) (Or.inl ⟨by rfl, ?_⟩) ?_ ?_
          rotate_left
          ·intro w'
           go_simp
           with_reducible rfl
          rotate_left
          ·simp only [Act.put, List.setIfInBounds_toArray, List.set_cons_zero, List.set_cons_succ, i64_w, i32_w]
           rfl
          refine pure_ (i := 9) (N := some 34) (v := ?_) (a' := ?_) #[true, true, true, true, true, true, true, true, true, true, false, false, false, false, false, false, false, false, false, false, false, false, false, false, false, false, false, false, false, false, false, false, false, false, false, false, false, false, false, false, false, false, false, false, false, false] rfl rfl (any_of HT_.out (by kernel_rfl)) (fun _ _ _ h => h) (Or.inl ⟨by rfl, ?_⟩) ?_ ?_
          rotate_left
          ·intro w'
           go_simp
           with_reducible rfl
          rotate_left
          ·simp only [Act.put, List.setIfInBounds_toArray, List.set_cons_zero, List.set_cons_succ, i64_w, i32_w]
           rfl
          refine pure_ (i := 10) (N := some 35) (v := ?_) (a' := ?_) #[true, true, true, true, true, true, true, true, true, true, true, false, false, false, false, false, false, false, false, false, false, false, false, false, false, false, false, false, false, false, false, false, false, false, false, false, false, false, false, false, false, false, false, false, false, false] rfl rfl (any_of HT_.out (by kernel_rfl)) (fun _ _ _ h => h) (Or.inl ⟨by rfl, ?_⟩) ?_ ?_
          rotate_left
          ·intro w'
           go_simp
           with_reducible rfl
          rotate_left
          ·simp only [Act.put, List.setIfInBounds_toArray, List.set_cons_zero, List.set_cons_succ, i64_w, i32_w]
           rfl
          refine pure_ (i := 11) (N := some 36) (v := ?_) (a' := ?_) #[true, true, true, true, true, true, true, true, true, true, true, true, false, false, false, false, false, false, false, false, false, false, false, false, false, false, false, false, false, false, false, false, false, false, false, false, false, false, false, false, false, false, false, false, false, false] rfl rfl (any_of HT_.out (by kernel_rfl)) (fun _ _ _ h => h) (Or.inl ⟨by rfl, ?_⟩) ?_ ?_
          rotate_left
          ·intro w'
           go_simp
           with_reducible rfl
          rotate_left
          ·simp only [Act.put, List.setIfInBounds_toArray, List.set_cons_zero, List.set_cons_succ, i64_w, i32_w]
           rfl
          refine pure_ (i := 12) (N := some 37) (v := ?_) (a' := ?_) #[true, true, true, true, true, true, true, true, true, true, true, true, true, false, false, false, false, false, false, false, false, false, false, false, false, false, false, false, false, false, false, false, false, false, false, false, false, false, false, false, false, false, false, false, false, false] rfl rfl (any_of HT_.out (by kernel_rfl)) (fun _ _ _ h => h) (Or.inl ⟨by rfl, ?_⟩) ?_ ?_
          rotate_left
          ·intro w'
           go_simp
           with_reducible rfl
          rotate_left
          ·simp only [Act.put, List.setIfInBounds_toArray, List.set_cons_zero, List.set_cons_succ, i64_w, i32_w]
           rfl
          refine pure_ (i := 13) (N := some 38) (v := ?_) (a' := ?_) #[true, true, true, true, true, true, true, true, true, true, true, true, true, true, false, false, false, false, false, false, false, false, false, false, false, false, false, false, false, false, false, false, false, false, false, false, false, false, false, false, false, false, false, false, false, false] rfl rfl (any_of HT_.out (by kernel_rfl)) (fun _ _ _ h => h) (Or.inl ⟨by rfl, ?_⟩) ?_ ?_
          rotate_left
          ·intro w'
           go_simp
           with_reducible rfl
          rotate_left
          ·simp only [Act.put, List.setIfInBounds_toArray, List.set_cons_zero, List.set_cons_succ, i64_w, i32_w]
           rfl
          refine pure_ (i := 14) (N := some 39) (v := ?_) (a' := ?_) #[true, true, true, true, true, true, true, true, true, true, true, true, true, true, true, false, false, false, false, false, false, false, false, false, false, false, false, false, false, false, false, false, false, false, false, false, false, false, false, false, false, false, false, false, false, false] rfl rfl (any_of HT_.out (by kernel_rfl)) (fun _ _ _ h => h) (Or.inl ⟨by rfl, ?_⟩) ?_ ?_
          rotate_left
          ·intro w'
           go_simp
           with_reducible rfl
          rotate_left
          ·simp only [Act.put, List.setIfInBounds_toArray, List.set_cons_zero, List.set_cons_succ, i64_w, i32_w]
           rfl
          refine pure_ (i := 15) (N := some 40) (v := ?_) (a' := ?_) #[true, true, true, true, true, true, true, true, true, true, true, true, true, true, true, true, false, false, false, false, false, false, false, false, false, false, false, false, false, false, false, false, false, false, false, false, false, false, false, false, false, false, false, false, false, false] rfl rfl (any_of HT_.out (by kernel_rfl)) (fun _ _ _ h => h) (Or.inl ⟨by rfl, ?_⟩) ?_ ?_
          rotate_left
          ·intro w'
           go_simp
           with_reducible rfl
          rotate_left
          ·simp only [Act.put, List.setIfInBounds_toArray, List.set_cons_zero, List.set_cons_succ, i64_w, i32_w]
           rfl
          refine pure_ (i := 16) (N := some 41) (v := ?_) (a' := ?_) #[true, true, true, true, true, true, true, true, true, true, true, true, true, true, true, true, true, false, false, false, false, false, false, false, false, false, false, false, false, false, false, false, false, false, false, false, false, false, false, false, false, false, false, false, false, false] rfl rfl (any_of HT_.out (by kernel_rfl)) (fun _ _ _ h => h) (Or.inl ⟨by rfl, ?_⟩) ?_ ?_
          rotate_left
          ·intro w'
           go_simp
           with_reducible rfl
          rotate_left
          ·simp only [Act.put, List.setIfInBounds_toArray, List.set_cons_zero, List.set_cons_succ, i64_w, i32_w]
           rfl
          refine pure_ (i := 17) (N := some 42) (v := ?_) (a' := ?_) #[true, true, true, true, true, true, true, true, true, true, true, true, true, true, true, true, true, true, false, false, false, false, false, false, false, false, false, false, false, false, false, false, false, false, false, false, false, false, false, false, false, false, false, false, false, false] rfl rfl (any_of HT_.out (by kernel_rfl)) (fun _ _ _ h => h) (Or.inl ⟨by rfl, ?_⟩) ?_ ?_
          rotate_left
          ·intro w'
           go_simp
           with_reducible rfl
          rotate_left
          ·simp only [Act.put, List.setIfInBounds_toArray, List.set_cons_zero, List.set_cons_succ, i64_w, i32_w]
           rfl
          refine pure_ (i := 18) (N := some 43) (v := ?_) (a' := ?_) #[true, true, true, true, true, true, true, true, true, true, true, true, true, true, true, true, true, true, true, false, false, false, false, false, false, false, false, false, false, false, false, false, false, false, false, false, false, false, false, false, false, false, false, false, false, false] rfl rfl (any_of HT_.out (by kernel_rfl)) (fun _ _ _ h => h) (Or.inl ⟨by rfl, ?_⟩) ?_ ?_
          rotate_left
          ·intro w'
           go_simp
           with_reducible rfl
          rotate_left
          ·simp only [Act.put, List.setIfInBounds_toArray, List.set_cons_zero, List.set_cons_succ, i64_w, i32_w]
           rfl
          refine take_ (i := 19) (N := some 44) (v := ?_) (a' := ?_) #[true, true, true, true, true, true, true, true, true, true, true, true, true, true, true, true, true, true, true, true, false, false, false, false, false, false, false, false, false, false, false, false, false, false, false, false, false, false, false, false, false, false, false, false, false, false] rfl rfl (take_ofW HT_.out HW_.out (by kernel_rfl)) (fun _ _ _ h => h) (Or.inl ⟨by rfl, ?_⟩) hHeld ?_ ?_
          rotate_left
          ·rintro w' ⟨s0, s1, s2, s3, s4, s5, s6, s7, s8, s9, s10, s11, s12, s13⟩
           go_simp
           with_reducible rfl
          rotate_left
          ·simp only [Act.put, List.setIfInBounds_toArray, List.set_cons_zero, List.set_cons_succ, i64_w, i32_w]
           rfl
          refine one_ (i := 20) (N := some 45) #[true, true, true, true, true, true, true, true, true, true, true, true, true, true, true, true, true, true, true, true, true, false, false, false, false, false, false, false, false, false, false, false, false, false, false, false, false, false, false, false, false, false, false, false, false, false] rfl rfl (one_of HT_.out (by kernel_rfl)) (by decide) (fun K hK => ?_)
          refine goes_ Try.func85 (by kernel_rfl) rfl #[.int .i64 1] (by rfl) rfl rfl (by (try simp only [List.map_toArray, List.map_cons, List.map_nil]); first | done | rfl | (simp only [List.length_drop, List.length_take]; rfl)) ?_
          with_reducible refine (partsynclaw03_num.calls 1 t611 t612 t613 _ A13.out).mono ?_
          rintro e w34 ⟨rfl, hb⟩
          have HS0_ := (hb.cell (World.block_lt_of_cell? _ _ (hHeld.1))).trans (hHeld.1)
          have HS1_ := (hb.cell (World.block_lt_of_cell? _ _ (hHeld.2.1))).trans (hHeld.2.1)
          have HS2_ := (hb.cell (World.block_lt_of_cell? _ _ (hHeld.2.2.1))).trans (hHeld.2.2.1)
          have HS3_ := (hb.cell (World.block_lt_of_cell? _ _ (hHeld.2.2.2.1))).trans (hHeld.2.2.2.1)
          have HS4_ := (hb.cell (World.block_lt_of_cell? _ _ (hHeld.2.2.2.2.1))).trans (hHeld.2.2.2.2.1)
          have HS5_ := (hb.cell (World.block_lt_of_cell? _ _ (hHeld.2.2.2.2.2.1))).trans (hHeld.2.2.2.2.2.1)
          have HS6_ := (hb.cell (World.block_lt_of_cell? _ _ (hHeld.2.2.2.2.2.2.1))).trans (hHeld.2.2.2.2.2.2.1)
          have HS7_ := (hb.cell (World.block_lt_of_cell? _ _ (hHeld.2.2.2.2.2.2.2.1))).trans (hHeld.2.2.2.2.2.2.2.1)
          have HS8_ := (hb.cell (World.block_lt_of_cell? _ _ (hHeld.2.2.2.2.2.2.2.2.1))).trans (hHeld.2.2.2.2.2.2.2.2.1)
          have HS9_ := (hb.cell (World.block_lt_of_cell? _ _ (hHeld.2.2.2.2.2.2.2.2.2.1))).trans (hHeld.2.2.2.2.2.2.2.2.2.1)
          have HS10_ := (hb.cell (World.block_lt_of_cell? _ _ (hHeld.2.2.2.2.2.2.2.2.2.2.1))).trans (hHeld.2.2.2.2.2.2.2.2.2.2.1)
          have HS11_ := (hb.cell (World.block_lt_of_cell? _ _ (hHeld.2.2.2.2.2.2.2.2.2.2.2.1))).trans (hHeld.2.2.2.2.2.2.2.2.2.2.2.1)
          have HS12_ := (hb.cell (World.block_lt_of_cell? _ _ (hHeld.2.2.2.2.2.2.2.2.2.2.2.2.1))).trans (hHeld.2.2.2.2.2.2.2.2.2.2.2.2.1)
          have HS13_ := (hb.cell (World.block_lt_of_cell? _ _ (hHeld.2.2.2.2.2.2.2.2.2.2.2.2.2))).trans (hHeld.2.2.2.2.2.2.2.2.2.2.2.2.2)
          refine ⟨_, rfl, ?_⟩
          have n0_ := Aside0.mk (Kd.R_below (rX HO594.out) hb)
          have n1_ := Aside0.mk (Kd.R_below (rX HO604.out) hb)
          have n2_ := Aside0.mk (Kd.R_below (rX HO609.out) hb)
          have n3_ := Aside0.mk (below_step bO hb)
          clear HO594
          clear HO604
          clear HO609
          clear HB
          have HO594 := n0_
          have HO604 := n1_
          have HO609 := n2_
          have HB := n3_
          clear n0_ n1_ n2_ n3_
          (try clear hb)
          (try clear hb2)
          (try clear hk)
          (try clear hi)
          refine hK.out _ _ ⟨HS0_, HS1_, HS2_, HS3_, HS4_, HS5_, HS6_, HS7_, HS8_, HS9_, HS10_, HS11_, HS12_, HS13_⟩ (fun hHeld => ?_)
          clear hK K
          refine norm_ (a' := ?_) ?_ ?_
          rotate_left
          ·show Act.put _ (some 45) _ = _
           simp only [Act.put, List.setIfInBounds_toArray, List.set_cons_zero, List.set_cons_succ, i64_w, i32_w]
           rfl
          refine pure_ (i := 21) (N := some 46) (v := ?_) (a' := ?_) #[true, true, true, true, true, true, true, true, true, true, true, true, true, true, true, true, true, true, true, true, true, true, false, false, false, false, false, false, false, false, false, false, false, false, false, false, false, false, false, false, false, false, false, false, false, false] rfl rfl (any_of HT_.out (by kernel_rfl)) (fun _ _ _ h => h) (Or.inl ⟨by rfl, ?_⟩) ?_ ?_
          rotate_left
          ·intro w'
           go_simp
           with_reducible rfl
          rotate_left
          ·simp only [Act.put, List.setIfInBounds_toArray, List.set_cons_zero, List.set_cons_succ, i64_w, i32_w]
           rfl
          refine pure_ (i := 22) (N := some 47) (v := ?_) (a' := ?_) #[true, true, true, true, true, true, true, true, true, true, true, true, true, true, true, true, true, true, true, true, true, true, true, false, false, false, false, false, false, false, false, false, false, false, false, false, false, false, false, false, false, false, false, false, false, false] rfl rfl (any_of HT_.out (by kernel_rfl)) (fun _ _ _ h => h) (Or.inl ⟨by rfl, ?_⟩) ?_ ?_
          rotate_left
          ·intro w'
           go_simp
           with_reducible rfl
          rotate_left
          ·simp only [Act.put, List.setIfInBounds_toArray, List.set_cons_zero, List.set_cons_succ, i64_w, i32_w]
           rfl
          refine pure_ (i := 23) (N := some 48) (v := ?_) (a' := ?_) #[true, true, true, true, true, true, true, true, true, true, true, true, true, true, true, true, true, true, true, true, true, true, true, true, false, false, false, false, false, false, false, false, false, false, false, false, false, false, false, false, false, false, false, false, false, false] rfl rfl (any_of HT_.out (by kernel_rfl)) (fun _ _ _ h => h) (Or.inl ⟨by rfl, ?_⟩) ?_ ?_
          rotate_left
          ·intro w'
           go_simp
           with_reducible rfl
          rotate_left
          ·simp only [Act.put, List.setIfInBounds_toArray, List.set_cons_zero, List.set_cons_succ, i64_w, i32_w]
           rfl
          refine pure_ (i := 24) (N := some 49) (v := ?_) (a' := ?_) #[true, true, true, true, true, true, true, true, true, true, true, true, true, true, true, true, true, true, true, true, true, true, true, true, true, false, false, false, false, false, false, false, false, false, false, false, false, false, false, false, false, false, false, false, false, false] rfl rfl (any_of HT_.out (by kernel_rfl)) (fun _ _ _ h => h) (Or.inl ⟨by rfl, ?_⟩) ?_ ?_
          rotate_left
          ·intro w'
           go_simp
           with_reducible rfl
          rotate_left
          ·simp only [Act.put, List.setIfInBounds_toArray, List.set_cons_zero, List.set_cons_succ, i64_w, i32_w]
           rfl
          refine pure_ (i := 25) (N := some 50) (v := ?_) (a' := ?_) #[true, true, true, true, true, true, true, true, true, true, true, true, true, true, true, true, true, true, true, true, true, true, true, true, true, true, false, false, false, false, false, false, false, false, false, false, false, false, false, false, false, false, false, false, false, false] rfl rfl (any_of HT_.out (by kernel_rfl)) (fun _ _ _ h => h) (Or.inl ⟨by rfl, ?_⟩) ?_ ?_
          rotate_left
          ·intro w'
           go_simp
           with_reducible rfl
          rotate_left
          ·simp only [Act.put, List.setIfInBounds_toArray, List.set_cons_zero, List.set_cons_succ, i64_w, i32_w]
           rfl
          refine pure_ (i := 26) (N := some 51) (v := ?_) (a' := ?_) #[true, true, true, true, true, true, true, true, true, true, true, true, true, true, true, true, true, true, true, true, true, true, true, true, true, true, true, false, false, false, false, false, false, false, false, false, false, false, false, false, false, false, false, false, false, false] rfl rfl (any_of HT_.out (by kernel_rfl)) (fun _ _ _ h => h) (Or.inl ⟨by rfl, ?_⟩) ?_ ?_
          rotate_left
          ·intro w'
           go_simp
           with_reducible rfl
          rotate_left
          ·simp only [Act.put, List.setIfInBounds_toArray, List.set_cons_zero, List.set_cons_succ, i64_w, i32_w]
           rfl
          refine take_ (i := 27) (N := some 52) (v := ?_) (a' := ?_) #[true, true, true, true, true, true, true, true, true, true, true, true, true, true, true, true, true, true, true, true, true, true, true, true, true, true, true, true, false, false, false, false, false, false, false, false, false, false, false, false, false, false, false, false, false, false] rfl rfl (take_ofW HT_.out HW_.out (by kernel_rfl)) (fun _ _ _ h => h) (Or.inl ⟨by rfl, ?_⟩) hHeld ?_ ?_
          rotate_left
          ·rintro w' ⟨s0, s1, s2, s3, s4, s5, s6, s7, s8, s9, s10, s11, s12, s13⟩
           go_simp
           with_reducible rfl
          rotate_left
          ·simp only [Act.put, List.setIfInBounds_toArray, List.set_cons_zero, List.set_cons_succ, i64_w, i32_w]
           rfl
          refine one_ (i := 28) (N := some 53) #[true, true, true, true, true, true, true, true, true, true, true, true, true, true, true, true, true, true, true, true, true, true, true, true, true, true, true, true, true, false, false, false, false, false, false, false, false, false, false, false, false, false, false, false, false, false] rfl rfl (one_of HT_.out (by kernel_rfl)) (by decide) (fun K hK => ?_)
          refine goes_ Try.func85 (by kernel_rfl) rfl #[.int .i64 5] (by rfl) rfl rfl (by (try simp only [List.map_toArray, List.map_cons, List.map_nil]); first | done | rfl | (simp only [List.length_drop, List.length_take]; rfl)) ?_
          with_reducible refine (partsynclaw03_num.calls 5 t615 t616 t617 _ A15.out).mono ?_
          rintro e w35 ⟨rfl, hb⟩
          have HS0_ := (hb.cell (World.block_lt_of_cell? _ _ (hHeld.1))).trans (hHeld.1)
          have HS1_ := (hb.cell (World.block_lt_of_cell? _ _ (hHeld.2.1))).trans (hHeld.2.1)
          have HS2_ := (hb.cell (World.block_lt_of_cell? _ _ (hHeld.2.2.1))).trans (hHeld.2.2.1)
          have HS3_ := (hb.cell (World.block_lt_of_cell? _ _ (hHeld.2.2.2.1))).trans (hHeld.2.2.2.1)
          have HS4_ := (hb.cell (World.block_lt_of_cell? _ _ (hHeld.2.2.2.2.1))).trans (hHeld.2.2.2.2.1)
          have HS5_ := (hb.cell (World.block_lt_of_cell? _ _ (hHeld.2.2.2.2.2.1))).trans (hHeld.2.2.2.2.2.1)
          have HS6_ := (hb.cell (World.block_lt_of_cell? _ _ (hHeld.2.2.2.2.2.2.1))).trans (hHeld.2.2.2.2.2.2.1)
          have HS7_ := (hb.cell (World.block_lt_of_cell? _ _ (hHeld.2.2.2.2.2.2.2.1))).trans (hHeld.2.2.2.2.2.2.2.1)
          have HS8_ := (hb.cell (World.block_lt_of_cell? _ _ (hHeld.2.2.2.2.2.2.2.2.1))).trans (hHeld.2.2.2.2.2.2.2.2.1)
          have HS9_ := (hb.cell (World.block_lt_of_cell? _ _ (hHeld.2.2.2.2.2.2.2.2.2.1))).trans (hHeld.2.2.2.2.2.2.2.2.2.1)
          have HS10_ := (hb.cell (World.block_lt_of_cell? _ _ (hHeld.2.2.2.2.2.2.2.2.2.2.1))).trans (hHeld.2.2.2.2.2.2.2.2.2.2.1)
          have HS11_ := (hb.cell (World.block_lt_of_cell? _ _ (hHeld.2.2.2.2.2.2.2.2.2.2.2.1))).trans (hHeld.2.2.2.2.2.2.2.2.2.2.2.1)
          have HS12_ := (hb.cell (World.block_lt_of_cell? _ _ (hHeld.2.2.2.2.2.2.2.2.2.2.2.2.1))).trans (hHeld.2.2.2.2.2.2.2.2.2.2.2.2.1)
          have HS13_ := (hb.cell (World.block_lt_of_cell? _ _ (hHeld.2.2.2.2.2.2.2.2.2.2.2.2.2))).trans (hHeld.2.2.2.2.2.2.2.2.2.2.2.2.2)
          refine ⟨_, rfl, ?_⟩
          have n0_ := Aside0.mk (Kd.R_below (rX HO594.out) hb)
          have n1_ := Aside0.mk (Kd.R_below (rX HO604.out) hb)
          have n2_ := Aside0.mk (Kd.R_below (rX HO609.out) hb)
          have n3_ := Aside0.mk (below_step bO hb)
          clear HO594
          clear HO604
          clear HO609
          clear HB
          have HO594 := n0_
          have HO604 := n1_
          have HO609 := n2_
          have HB := n3_
          clear n0_ n1_ n2_ n3_
          (try clear hb)
          (try clear hb2)
          (try clear hk)
          (try clear hi)
          refine hK.out _ _ ⟨HS0_, HS1_, HS2_, HS3_, HS4_, HS5_, HS6_, HS7_, HS8_, HS9_, HS10_, HS11_, HS12_, HS13_⟩ (fun hHeld => ?_)
          clear hK K
          refine norm_ (a' := ?_) ?_ ?_
          rotate_left
          ·show Act.put _ (some 53) _ = _
           simp only [Act.put, List.setIfInBounds_toArray, List.set_cons_zero, List.set_cons_succ, i64_w, i32_w]
           rfl
          refine pure_ (i := 29) (N := some 54) (v := ?_) (a' := ?_) #[true, true, true, true, true, true, true, true, true, true, true, true, true, true, true, true, true, true, true, true, true, true, true, true, true, true, true, true, true, true, false, false, false, false, false, false, false, false, false, false, false, false, false, false, false, false] rfl rfl (any_of HT_.out (by kernel_rfl)) (fun _ _ _ h => h) (Or.inl ⟨by rfl, ?_⟩) ?_ ?_
          rotate_left
          ·intro w'
           go_simp
           with_reducible rfl
          rotate_left
          ·simp only [Act.put, List.setIfInBounds_toArray, List.set_cons_zero, List.set_cons_succ, i64_w, i32_w]
           rfl
          refine pure_ (i := 30) (N := some 55) (v := ?_) (a' := ?_) #[true, true, true, true, true, true, true, true, true, true, true, true, true, true, true, true, true, true, true, true, true, true, true, true, true, true, true, true, true, true, true, false, false, false, false, false, false, false, false, false, false, false, false, false, false, false] rfl rfl (any_of HT_.out (by kernel_rfl)) (fun _ _ _ h => h) (Or.inl ⟨by rfl, ?_⟩) ?_ ?_
          rotate_left
          ·intro w'
           go_simp
           with_reducible rfl
          rotate_left
          ·simp only [Act.put, List.setIfInBounds_toArray, List.set_cons_zero, List.set_cons_succ, i64_w, i32_w]
           rfl
          refine pure_ (i := 31) (N := some 56) (v := ?_) (a' := ?_) #[true, true, true, true, true, true, true, true, true, true, true, true, true, true, true, true, true, true, true, true, true, true, true, true, true, true, true, true, true, true, true, true, false, false, false, false, false, false, false, false, false, false, false, false, false, false] rfl rfl (any_of HT_.out (by kernel_rfl)) (fun _ _ _ h => h) (Or.inl ⟨by rfl, ?_⟩) ?_ ?_
          rotate_left
          ·intro w'
           go_simp
           with_reducible rfl
          rotate_left
          ·simp only [Act.put, List.setIfInBounds_toArray, List.set_cons_zero, List.set_cons_succ, i64_w, i32_w]
           rfl
          refine pure_ (i := 32) (N := some 57) (v := ?_) (a' := ?_) #[true, true, true, true, true, true, true, true, true, true, true, true, true, true, true, true, true, true, true, true, true, true, true, true, true, true, true, true, true, true, true, true, true, false, false, false, false, false, false, false, false, false, false, false, false, false] rfl rfl (any_of HT_.out (by kernel_rfl)) (fun _ _ _ h => h) (Or.inl ⟨by rfl, ?_⟩) ?_ ?_
          rotate_left
          ·intro w'
           go_simp
           with_reducible rfl
          rotate_left
          ·simp only [Act.put, List.setIfInBounds_toArray, List.set_cons_zero, List.set_cons_succ, i64_w, i32_w]
           rfl
          refine one_ (i := 33) (N := some 58) #[true, true, true, true, true, true, true, true, true, true, true, true, true, true, true, true, true, true, true, true, true, true, true, true, true, true, true, true, true, true, true, true, true, true, false, false, false, false, false, false, false, false, false, false, false, false] rfl rfl (one_of HT_.out (by kernel_rfl)) (by decide) (fun K hK => ?_)
          refine goes_ Try.func37 (by kernel_rfl) rfl #[.slice (some ad610) t606.length co33] (by rfl) rfl rfl (by (try simp only [List.map_toArray, List.map_cons, List.map_nil]); first | done | rfl | (simp only [List.length_drop, List.length_take]; rfl)) ?_
          with_reducible refine (interval_Valid.calls k _ _ t606 true _ ?side1 ?side2 A17.out).mono ?_
          (case side1 => exact cX (Kd.R_reads' HO609.out).2.2)
          (case side2 => exact (Kd.R_reads' HO609.out).2.1)
          rintro e w36 ⟨rfl, hb⟩
          have HS0_ := (hb.cell (World.block_lt_of_cell? _ _ (hHeld.1))).trans (hHeld.1)
          have HS1_ := (hb.cell (World.block_lt_of_cell? _ _ (hHeld.2.1))).trans (hHeld.2.1)
          have HS2_ := (hb.cell (World.block_lt_of_cell? _ _ (hHeld.2.2.1))).trans (hHeld.2.2.1)
          have HS3_ := (hb.cell (World.block_lt_of_cell? _ _ (hHeld.2.2.2.1))).trans (hHeld.2.2.2.1)
          have HS4_ := (hb.cell (World.block_lt_of_cell? _ _ (hHeld.2.2.2.2.1))).trans (hHeld.2.2.2.2.1)
          have HS5_ := (hb.cell (World.block_lt_of_cell? _ _ (hHeld.2.2.2.2.2.1))).trans (hHeld.2.2.2.2.2.1)
          have HS6_ := (hb.cell (World.block_lt_of_cell? _ _ (hHeld.2.2.2.2.2.2.1))).trans (hHeld.2.2.2.2.2.2.1)
          have HS7_ := (hb.cell (World.block_lt_of_cell? _ _ (hHeld.2.2.2.2.2.2.2.1))).trans (hHeld.2.2.2.2.2.2.2.1)
          have HS8_ := (hb.cell (World.block_lt_of_cell? _ _ (hHeld.2.2.2.2.2.2.2.2.1))).trans (hHeld.2.2.2.2.2.2.2.2.1)
          have HS9_ := (hb.cell (World.block_lt_of_cell? _ _ (hHeld.2.2.2.2.2.2.2.2.2.1))).trans (hHeld.2.2.2.2.2.2.2.2.2.1)
          have HS10_ := (hb.cell (World.block_lt_of_cell? _ _ (hHeld.2.2.2.2.2.2.2.2.2.2.1))).trans (hHeld.2.2.2.2.2.2.2.2.2.2.1)
          have HS11_ := (hb.cell (World.block_lt_of_cell? _ _ (hHeld.2.2.2.2.2.2.2.2.2.2.2.1))).trans (hHeld.2.2.2.2.2.2.2.2.2.2.2.1)
          have HS12_ := (hb.cell (World.block_lt_of_cell? _ _ (hHeld.2.2.2.2.2.2.2.2.2.2.2.2.1))).trans (hHeld.2.2.2.2.2.2.2.2.2.2.2.2.1)
          have HS13_ := (hb.cell (World.block_lt_of_cell? _ _ (hHeld.2.2.2.2.2.2.2.2.2.2.2.2.2))).trans (hHeld.2.2.2.2.2.2.2.2.2.2.2.2.2)
          refine ⟨_, rfl, ?_⟩
          have n0_ := Aside0.mk (Kd.R_below (rX HO594.out) hb)
          have n1_ := Aside0.mk (Kd.R_below (rX HO604.out) hb)
          have n2_ := Aside0.mk (Kd.R_below (rX HO609.out) hb)
          have n3_ := Aside0.mk (below_step bO hb)
          clear HO594
          clear HO604
          clear HO609
          clear HB
          have HO594 := n0_
          have HO604 := n1_
          have HO609 := n2_
          have HB := n3_
          clear n0_ n1_ n2_ n3_
          (try clear hb)
          (try clear hb2)
          (try clear hk)
          (try clear hi)
          refine hK.out _ _ ⟨HS0_, HS1_, HS2_, HS3_, HS4_, HS5_, HS6_, HS7_, HS8_, HS9_, HS10_, HS11_, HS12_, HS13_⟩ (fun hHeld => ?_)
          clear hK K
          refine norm_ (a' := ?_) ?_ ?_
          rotate_left
          ·show Act.put _ (some 58) _ = _
           simp only [Act.put, List.setIfInBounds_toArray, List.set_cons_zero, List.set_cons_succ, i64_w, i32_w]
           rfl
          refine pure_ (i := 34) (N := some 59) (v := ?_) (a' := ?_) #[true, true, true, true, true, true, true, true, true, true, true, true, true, true, true, true, true, true, true, true, true, true, true, true, true, true, true, true, true, true, true, true, true, true, true, false, false, false, false, false, false, false, false, false, false, false] rfl rfl (any_of HT_.out (by kernel_rfl)) (fun _ _ _ h => h) (Or.inl ⟨by rfl, ?_⟩) ?_ ?_
          rotate_left
          ·intro w'
           go_simp
           with_reducible rfl
          rotate_left
          ·simp only [Act.put, List.setIfInBounds_toArray, List.set_cons_zero, List.set_cons_succ, i64_w, i32_w]
           rfl
          refine pure_ (i := 35) (N := some 60) (v := ?_) (a' := ?_) #[true, true, true, true, true, true, true, true, true, true, true, true, true, true, true, true, true, true, true, true, true, true, true, true, true, true, true, true, true, true, true, true, true, true, true, true, false, false, false, false, false, false, false, false, false, false] rfl rfl (any_of HT_.out (by kernel_rfl)) (fun _ _ _ h => h) (Or.inl ⟨by rfl, ?_⟩) ?_ ?_
          rotate_left
          ·intro w'
           go_simp
           with_reducible rfl
          rotate_left
          ·simp only [Act.put, List.setIfInBounds_toArray, List.set_cons_zero, List.set_cons_succ, i64_w, i32_w]
           rfl
          refine pure_ (i := 36) (N := some 61) (v := ?_) (a' := ?_) #[true, true, true, true, true, true, true, true, true, true, true, true, true, true, true, true, true, true, true, true, true, true, true, true, true, true, true, true, true, true, true, true, true, true, true, true, true, false, false, false, false, false, false, false, false, false] rfl rfl (any_of HT_.out (by kernel_rfl)) (fun _ _ _ h => h) (Or.inl ⟨by rfl, ?_⟩) ?_ ?_
          rotate_left
          ·intro w'
           go_simp
           with_reducible rfl
          rotate_left
          ·simp only [Act.put, List.setIfInBounds_toArray, List.set_cons_zero, List.set_cons_succ, i64_w, i32_w]
           rfl
          refine one_ (i := 37) (N := some 62) #[true, true, true, true, true, true, true, true, true, true, true, true, true, true, true, true, true, true, true, true, true, true, true, true, true, true, true, true, true, true, true, true, true, true, true, true, true, true, false, false, false, false, false, false, false, false] rfl rfl (one_of HT_.out (by kernel_rfl)) (by decide) (fun K hK => ?_)
          refine goes_ Try.func85 (by kernel_rfl) rfl #[.int .i64 3] (by rfl) rfl rfl (by (try simp only [List.map_toArray, List.map_cons, List.map_nil]); first | done | rfl | (simp only [List.length_drop, List.length_take]; rfl)) ?_
          with_reducible refine (partsynclaw03_num.calls 3 t619 t620 t621 _ A19.out).mono ?_
          rintro e w37 ⟨rfl, hb⟩
          have HS0_ := (hb.cell (World.block_lt_of_cell? _ _ (hHeld.1))).trans (hHeld.1)
          have HS1_ := (hb.cell (World.block_lt_of_cell? _ _ (hHeld.2.1))).trans (hHeld.2.1)
          have HS2_ := (hb.cell (World.block_lt_of_cell? _ _ (hHeld.2.2.1))).trans (hHeld.2.2.1)
          have HS3_ := (hb.cell (World.block_lt_of_cell? _ _ (hHeld.2.2.2.1))).trans (hHeld.2.2.2.1)
          have HS4_ := (hb.cell (World.block_lt_of_cell? _ _ (hHeld.2.2.2.2.1))).trans (hHeld.2.2.2.2.1)
          have HS5_ := (hb.cell (World.block_lt_of_cell? _ _ (hHeld.2.2.2.2.2.1))).trans (hHeld.2.2.2.2.2.1)
          have HS6_ := (hb.cell (World.block_lt_of_cell? _ _ (hHeld.2.2.2.2.2.2.1))).trans (hHeld.2.2.2.2.2.2.1)
          have HS7_ := (hb.cell (World.block_lt_of_cell? _ _ (hHeld.2.2.2.2.2.2.2.1))).trans (hHeld.2.2.2.2.2.2.2.1)
          have HS8_ := (hb.cell (World.block_lt_of_cell? _ _ (hHeld.2.2.2.2.2.2.2.2.1))).trans (hHeld.2.2.2.2.2.2.2.2.1)
          have HS9_ := (hb.cell (World.block_lt_of_cell? _ _ (hHeld.2.2.2.2.2.2.2.2.2.1))).trans (hHeld.2.2.2.2.2.2.2.2.2.1)
          have HS10_ := (hb.cell (World.block_lt_of_cell? _ _ (hHeld.2.2.2.2.2.2.2.2.2.2.1))).trans (hHeld.2.2.2.2.2.2.2.2.2.2.1)
          have HS11_ := (hb.cell (World.block_lt_of_cell? _ _ (hHeld.2.2.2.2.2.2.2.2.2.2.2.1))).trans (hHeld.2.2.2.2.2.2.2.2.2.2.2.1)
          have HS12_ := (hb.cell (World.block_lt_of_cell? _ _ (hHeld.2.2.2.2.2.2.2.2.2.2.2.2.1))).trans (hHeld.2.2.2.2.2.2.2.2.2.2.2.2.1)
          have HS13_ := (hb.cell (World.block_lt_of_cell? _ _ (hHeld.2.2.2.2.2.2.2.2.2.2.2.2.2))).trans (hHeld.2.2.2.2.2.2.2.2.2.2.2.2.2)
          refine ⟨_, rfl, ?_⟩
          have n0_ := Aside0.mk (Kd.R_below (rX HO594.out) hb)
          have n1_ := Aside0.mk (Kd.R_below (rX HO604.out) hb)
          have n2_ := Aside0.mk (Kd.R_below (rX HO609.out) hb)
          have n3_ := Aside0.mk (below_step bO hb)
          clear HO594
          clear HO604
          clear HO609
          clear HB
          have HO594 := n0_
          have HO604 := n1_
          have HO609 := n2_
          have HB := n3_
          clear n0_ n1_ n2_ n3_
          (try clear hb)
          (try clear hb2)
          (try clear hk)
          (try clear hi)
          refine hK.out _ _ ⟨HS0_, HS1_, HS2_, HS3_, HS4_, HS5_, HS6_, HS7_, HS8_, HS9_, HS10_, HS11_, HS12_, HS13_⟩ (fun hHeld => ?_)
          clear hK K
          refine norm_ (a' := ?_) ?_ ?_
          rotate_left
          ·show Act.put _ (some 62) _ = _
           simp only [Act.put, List.setIfInBounds_toArray, List.set_cons_zero, List.set_cons_succ, i64_w, i32_w]
           rfl
          refine one_ (i := 38) (N := some 63) #[true, true, true, true, true, true, true, true, true, true, true, true, true, true, true, true, true, true, true, true, true, true, true, true, true, true, true, true, true, true, true, true, true, true, true, true, true, true, true, false, false, false, false, false, false, false] rfl rfl (one_of HT_.out (by kernel_rfl)) (by decide) (fun K hK => ?_)
          refine goes_ Try.func35 (by kernel_rfl) rfl #[.slice (some ad610) t606.length co33, .agg #[.int .i64 t619, .int .i64 t620, .string t621]] (by rfl) rfl rfl (by (try simp only [List.map_toArray, List.map_cons, List.map_nil]); first | done | rfl | (simp only [List.length_drop, List.length_take]; rfl)) ?_
          with_reducible refine (interval_Has.calls k _ _ t606 t619 t620 t621 true _ ?side1 ?side2 A20.out).mono ?_
          (case side1 => exact cX (Kd.R_reads' HO609.out).2.2)
          (case side2 => exact (Kd.R_reads' HO609.out).2.1)
          rintro e w38 ⟨rfl, hb⟩
          have HS0_ := (hb.cell (World.block_lt_of_cell? _ _ (hHeld.1))).trans (hHeld.1)
          have HS1_ := (hb.cell (World.block_lt_of_cell? _ _ (hHeld.2.1))).trans (hHeld.2.1)
          have HS2_ := (hb.cell (World.block_lt_of_cell? _ _ (hHeld.2.2.1))).trans (hHeld.2.2.1)
          have HS3_ := (hb.cell (World.block_lt_of_cell? _ _ (hHeld.2.2.2.1))).trans (hHeld.2.2.2.1)
          have HS4_ := (hb.cell (World.block_lt_of_cell? _ _ (hHeld.2.2.2.2.1))).trans (hHeld.2.2.2.2.1)
          have HS5_ := (hb.cell (World.block_lt_of_cell? _ _ (hHeld.2.2.2.2.2.1))).trans (hHeld.2.2.2.2.2.1)
          have HS6_ := (hb.cell (World.block_lt_of_cell? _ _ (hHeld.2.2.2.2.2.2.1))).trans (hHeld.2.2.2.2.2.2.1)
          have HS7_ := (hb.cell (World.block_lt_of_cell? _ _ (hHeld.2.2.2.2.2.2.2.1))).trans (hHeld.2.2.2.2.2.2.2.1)
          have HS8_ := (hb.cell (World.block_lt_of_cell? _ _ (hHeld.2.2.2.2.2.2.2.2.1))).trans (hHeld.2.2.2.2.2.2.2.2.1)
          have HS9_ := (hb.cell (World.block_lt_of_cell? _ _ (hHeld.2.2.2.2.2.2.2.2.2.1))).trans (hHeld.2.2.2.2.2.2.2.2.2.1)
          have HS10_ := (hb.cell (World.block_lt_of_cell? _ _ (hHeld.2.2.2.2.2.2.2.2.2.2.1))).trans (hHeld.2.2.2.2.2.2.2.2.2.2.1)
          have HS11_ := (hb.cell (World.block_lt_of_cell? _ _ (hHeld.2.2.2.2.2.2.2.2.2.2.2.1))).trans (hHeld.2.2.2.2.2.2.2.2.2.2.2.1)
          have HS12_ := (hb.cell (World.block_lt_of_cell? _ _ (hHeld.2.2.2.2.2.2.2.2.2.2.2.2.1))).trans (hHeld.2.2.2.2.2.2.2.2.2.2.2.2.1)
          have HS13_ := (hb.cell (World.block_lt_of_cell? _ _ (hHeld.2.2.2.2.2.2.2.2.2.2.2.2.2))).trans (hHeld.2.2.2.2.2.2.2.2.2.2.2.2.2)
          refine ⟨_, rfl, ?_⟩
          have n0_ := Aside0.mk (Kd.R_below (rX HO594.out) hb)
          have n1_ := Aside0.mk (Kd.R_below (rX HO604.out) hb)
          have n2_ := Aside0.mk (Kd.R_below (rX HO609.out) hb)
          have n3_ := Aside0.mk (below_step bO hb)
          clear HO594
          clear HO604
          clear HO609
          clear HB
          have HO594 := n0_
          have HO604 := n1_
          have HO609 := n2_
          have HB := n3_
          clear n0_ n1_ n2_ n3_
          (try clear hb)
          (try clear hb2)
          (try clear hk)
          (try clear hi)
          refine hK.out _ _ ⟨HS0_, HS1_, HS2_, HS3_, HS4_, HS5_, HS6_, HS7_, HS8_, HS9_, HS10_, HS11_, HS12_, HS13_⟩ (fun hHeld => ?_)
          clear hK K
          refine norm_ (a' := ?_) ?_ ?_
          rotate_left
          ·show Act.put _ (some 63) _ = _
           simp only [Act.put, List.setIfInBounds_toArray, List.set_cons_zero, List.set_cons_succ, i64_w, i32_w]
           rfl
          refine pure_ (i := 39) (N := some 64) (v := ?_) (a' := ?_) #[true, true, true, true, true, true, true, true, true, true, true, true, true, true, true, true, true, true, true, true, true, true, true, true, true, true, true, true, true, true, true, true, true, true, true, true, true, true, true, true, false, false, false, false, false, false] rfl rfl (any_of HT_.out (by kernel_rfl)) (fun _ _ _ h => h) (Or.inl ⟨by rfl, ?_⟩) ?_ ?_
          rotate_left
          ·intro w'
           go_simp
           with_reducible rfl
          rotate_left
          ·simp only [Act.put, List.setIfInBounds_toArray, List.set_cons_zero, List.set_cons_succ, i64_w, i32_w]
           rfl
          refine pure_ (i := 40) (N := some 65) (v := ?_) (a' := ?_) #[true, true, true, true, true, true, true, true, true, true, true, true, true, true, true, true, true, true, true, true, true, true, true, true, true, true, true, true, true, true, true, true, true, true, true, true, true, true, true, true, true, false, false, false, false, false] rfl rfl (any_of HT_.out (by kernel_rfl)) (fun _ _ _ h => h) (Or.inl ⟨by rfl, ?_⟩) ?_ ?_
          rotate_left
          ·intro w'
           go_simp
           with_reducible rfl
          rotate_left
          ·simp only [Act.put, List.setIfInBounds_toArray, List.set_cons_zero, List.set_cons_succ, i64_w, i32_w]
           rfl
          refine one_ (i := 41) (N := some 66) #[true, true, true, true, true, true, true, true, true, true, true, true, true, true, true, true, true, true, true, true, true, true, true, true, true, true, true, true, true, true, true, true, true, true, true, true, true, true, true, true, true, true, false, false, false, false] rfl rfl (one_of HT_.out (by kernel_rfl)) (by decide) (fun K hK => ?_)
          refine goes_ Try.func47 (by kernel_rfl) rfl #[] (by rfl) rfl rfl (by (try simp only [List.map_toArray, List.map_cons, List.map_nil]); first | done | rfl | (simp only [List.length_drop, List.length_take]; rfl)) ?_
          with_reducible refine (interval_All.calls  t623 _ A22.out).mono ?_
          rintro e w39 ⟨v624, rfl, ho0, hb⟩
          have HS0_ := (hb.cell (World.block_lt_of_cell? _ _ (hHeld.1))).trans (hHeld.1)
          have HS1_ := (hb.cell (World.block_lt_of_cell? _ _ (hHeld.2.1))).trans (hHeld.2.1)
          have HS2_ := (hb.cell (World.block_lt_of_cell? _ _ (hHeld.2.2.1))).trans (hHeld.2.2.1)
          have HS3_ := (hb.cell (World.block_lt_of_cell? _ _ (hHeld.2.2.2.1))).trans (hHeld.2.2.2.1)
          have HS4_ := (hb.cell (World.block_lt_of_cell? _ _ (hHeld.2.2.2.2.1))).trans (hHeld.2.2.2.2.1)
          have HS5_ := (hb.cell (World.block_lt_of_cell? _ _ (hHeld.2.2.2.2.2.1))).trans (hHeld.2.2.2.2.2.1)
          have HS6_ := (hb.cell (World.block_lt_of_cell? _ _ (hHeld.2.2.2.2.2.2.1))).trans (hHeld.2.2.2.2.2.2.1)
          have HS7_ := (hb.cell (World.block_lt_of_cell? _ _ (hHeld.2.2.2.2.2.2.2.1))).trans (hHeld.2.2.2.2.2.2.2.1)
          have HS8_ := (hb.cell (World.block_lt_of_cell? _ _ (hHeld.2.2.2.2.2.2.2.2.1))).trans (hHeld.2.2.2.2.2.2.2.2.1)
          have HS9_ := (hb.cell (World.block_lt_of_cell? _ _ (hHeld.2.2.2.2.2.2.2.2.2.1))).trans (hHeld.2.2.2.2.2.2.2.2.2.1)
          have HS10_ := (hb.cell (World.block_lt_of_cell? _ _ (hHeld.2.2.2.2.2.2.2.2.2.2.1))).trans (hHeld.2.2.2.2.2.2.2.2.2.2.1)
          have HS11_ := (hb.cell (World.block_lt_of_cell? _ _ (hHeld.2.2.2.2.2.2.2.2.2.2.2.1))).trans (hHeld.2.2.2.2.2.2.2.2.2.2.2.1)
          have HS12_ := (hb.cell (World.block_lt_of_cell? _ _ (hHeld.2.2.2.2.2.2.2.2.2.2.2.2.1))).trans (hHeld.2.2.2.2.2.2.2.2.2.2.2.2.1)
          have HS13_ := (hb.cell (World.block_lt_of_cell? _ _ (hHeld.2.2.2.2.2.2.2.2.2.2.2.2.2))).trans (hHeld.2.2.2.2.2.2.2.2.2.2.2.2.2)
          refine ⟨_, rfl, ?_⟩
          have n0_ := Aside0.mk (Kd.R_elder' (rX HO594.out) (Kd.R_base ho0) hb)
          have n1_ := Aside0.mk (Kd.R_elder' (rX HO604.out) (Kd.R_base ho0) hb)
          have n2_ := Aside0.mk (Kd.R_elder' (rX HO609.out) (Kd.R_base ho0) hb)
          have n3_ := Aside0.mk (Kd.R_lower (Kd.R_new' (Kd.R_new' (Kd.R_new' ho0 (Kd.R_lt (rX HO594.out))) (Kd.R_lt (rX HO604.out))) (Kd.R_lt (rX HO609.out))) (below_size bO))
          have n4_ := Aside0.mk (below_step bO hb)
          clear HO594
          clear HO604
          clear HO609
          clear HB
          have HO594 := n0_
          have HO604 := n1_
          have HO609 := n2_
          have HO625 := n3_
          have HB := n4_
          clear n0_ n1_ n2_ n3_ n4_
          (try clear hb)
          (try clear hb2)
          (try clear hk)
          (try clear hi)
          (try clear ho0)
          obtain ⟨Ao40, co40, eo40⟩ := Kd.R_slice HO625.out
          (first | subst eo40 | (injection eo40 with f1_ f2_ f3_; have f4_ := f1_.symm; have f5_ := f3_.symm; clear f1_ f2_ f3_; subst f4_; subst f5_))
          refine hK.out _ _ ⟨HS0_, HS1_, HS2_, HS3_, HS4_, HS5_, HS6_, HS7_, HS8_, HS9_, HS10_, HS11_, HS12_, HS13_⟩ (fun hHeld => ?_)
          clear hK K
          refine norm_ (a' := ?_) ?_ ?_
          rotate_left
          ·show Act.put _ (some 66) _ = _
           simp only [Act.put, List.setIfInBounds_toArray, List.set_cons_zero, List.set_cons_succ, i64_w, i32_w]
           rfl
          refine pure_ (i := 42) (N := some 67) (v := ?_) (a' := ?_) #[true, true, true, true, true, true, true, true, true, true, true, true, true, true, true, true, true, true, true, true, true, true, true, true, true, true, true, true, true, true, true, true, true, true, true, true, true, true, true, true, true, true, true, false, false, false] rfl rfl (any_of HT_.out (by kernel_rfl)) (fun _ _ _ h => h) (Or.inl ⟨by rfl, ?_⟩) ?_ ?_
          rotate_left
          ·intro w'
           go_simp
           with_reducible rfl
          rotate_left
          ·simp only [Act.put, List.setIfInBounds_toArray, List.set_cons_zero, List.set_cons_succ, i64_w, i32_w]
           rfl
          refine pure_ (i := 43) (N := some 68) (v := ?_) (a' := ?_) #[true, true, true, true, true, true, true, true, true, true, true, true, true, true, true, true, true, true, true, true, true, true, true, true, true, true, true, true, true, true, true, true, true, true, true, true, true, true, true, true, true, true, true, true, false, false] rfl rfl (any_of HT_.out (by kernel_rfl)) (fun _ _ _ h => h) (Or.inl ⟨by rfl, ?_⟩) ?_ ?_
          rotate_left
          ·intro w'
           go_simp
           with_reducible rfl
          rotate_left
          ·simp only [Act.put, List.setIfInBounds_toArray, List.set_cons_zero, List.set_cons_succ, i64_w, i32_w]
           rfl
          refine pure_ (i := 44) (N := some 69) (v := ?_) (a' := ?_) #[true, true, true, true, true, true, true, true, true, true, true, true, true, true, true, true, true, true, true, true, true, true, true, true, true, true, true, true, true, true, true, true, true, true, true, true, true, true, true, true, true, true, true, true, true, false] rfl rfl (any_of HT_.out (by kernel_rfl)) (fun _ _ _ h => h) (Or.inl ⟨by rfl, ?_⟩) ?_ ?_
          rotate_left
          ·intro w'
           go_simp
           with_reducible rfl
          rotate_left
          ·simp only [Act.put, List.setIfInBounds_toArray, List.set_cons_zero, List.set_cons_succ, i64_w, i32_w]
           rfl
          refine pure_ (i := 45) (N := some 0) (v := ?_) (a' := ?_) #[true, true, true, true, true, true, true, true, true, true, true, true, true, true, true, true, true, true, true, true, true, true, true, true, true, true, true, true, true, true, true, true, true, true, true, true, true, true, true, true, true, true, true, true, true, true] rfl rfl (any_of HT_.out (by kernel_rfl)) (fun _ _ _ h => h) (Or.inl ⟨by rfl, ?_⟩) ?_ ?_
          rotate_left
          ·intro w'
           go_simp
           with_reducible rfl
          rotate_left
          ·simp only [Act.put, List.setIfInBounds_toArray, List.set_cons_zero, List.set_cons_succ, i64_w, i32_w]
           rfl
          refine done_ (done_of HT_.out (by kernel_rfl)) ?_
          try go_wp2
          go_ret
          exact ⟨by first | rfl | (simp [errW_none, errW_some] <;> rfl) | (simp [*, errW_none, errW_some] <;> rfl), by repeat (first | (with_reducible first | exact HB.out | apply below_alloc | apply pw_below_drewN | apply below_drew1) | exact HB.out)⟩
         ·replace c21 := Bool.eq_false_iff.mpr c21
          subst c21
          have H1 : (some false) = some r := by rw [if_neg (show ¬ (false = true) by decide)] at H; exact H
          clear H
          have H := H1
          clear H1
          exact absurd (H.trans (congrArg some HRT.out)) (by simp)
        ·replace c18 := Bool.eq_false_iff.mpr c18
         subst c18
         have H1 : (some false) = some r := by rw [if_neg (show ¬ (false = true) by decide)] at H; exact H
         clear H
         have H := H1
         clear H1
         exact absurd (H.trans (congrArg some HRT.out)) (by simp)
       ·rw [if_neg c16] at H
        have c16b0 : (((rd_T65 t606 0).f1.f0) == t615 && (((rd_T65 t606 0).f1.f1) == t616 && ((((rd_T65 t606 0).f1.f2).toList) == t617.toList))) = false := by simpa using c16
        (try (have c16b1 : decide (((rd_T65 t606 0).f1.f0) = t615 && (((rd_T65 t606 0).f1.f1) == t616 && ((((rd_T65 t606 0).f1.f2).toList) == t617.toList))) = false := by simpa using c16))
        (try (have c16b2 : (((rd_T65 t606 0).f1.f0) == t615 && (((rd_T65 t606 0).f1.f1) == t616 && ((((rd_T65 t606 0).f1.f2).toList) == t617.toList))) = false := by simpa using c16))
        (try (have c16b3 : ¬ (((rd_T65 t606 0).f1.f0) = t615 && (((rd_T65 t606 0).f1.f1) == t616 && ((((rd_T65 t606 0).f1.f2).toList) == t617.toList))) := by simpa using c16))
        clear c16
        exact absurd (H.trans (congrArg some HRT.out)) (by simp)
      ·rw [if_neg c14] at H
       have c14b0 : (((rd_T65 t606 0).f0.f0) == t611 && (((rd_T65 t606 0).f0.f1) == t612 && ((((rd_T65 t606 0).f0.f2).toList) == t613.toList))) = false := by simpa using c14
       (try (have c14b1 : decide (((rd_T65 t606 0).f0.f0) = t611 && (((rd_T65 t606 0).f0.f1) == t612 && ((((rd_T65 t606 0).f0.f2).toList) == t613.toList))) = false := by simpa using c14))
       (try (have c14b2 : (((rd_T65 t606 0).f0.f0) == t611 && (((rd_T65 t606 0).f0.f1) == t612 && ((((rd_T65 t606 0).f0.f2).toList) == t613.toList))) = false := by simpa using c14))
       (try (have c14b3 : ¬ (((rd_T65 t606 0).f0.f0) = t611 && (((rd_T65 t606 0).f0.f1) == t612 && ((((rd_T65 t606 0).f0.f2).toList) == t613.toList))) := by simpa using c14))
       clear c14
       exact absurd (H.trans (congrArg some HRT.out)) (by simp)
     ·rw [if_neg c12] at H
      exact absurd H (by simp)
    ·rw [if_neg c11] at H
     have c11b0 : ((t606.length : Int) == 1) = false := beq_eq_false_iff_ne.mpr c11
     have c11b1 : ((t606.length : Int) != 1) = true := bne_iff_ne.mpr c11
     exact absurd (H.trans (congrArg some HRT.out)) (by simp)
   ·rw [if_neg c10] at H
    have c10b0 : (t607 == 0) = false := beq_eq_false_iff_ne.mpr c10
    have c10b1 : (t607 != 0) = true := bne_iff_ne.mpr c10
    exact absurd (H.trans (congrArg some HRT.out)) (by simp)
  ·rw [if_neg c9] at H
   have c9b0 : (t605 == 0) = false := beq_eq_false_iff_ne.mpr c9
   have c9b1 : (t605 != 0) = true := bne_iff_ne.mpr c9
   exact absurd (H.trans (congrArg some HRT.out)) (by simp)
 ·rw [if_neg c8] at H
  have c8b0 : (t595 == 0) = false := beq_eq_false_iff_ne.mpr c8
  have c8b1 : (t595 != 0) = true := bne_iff_ne.mpr c8
  exact absurd (H.trans (congrArg some HRT.out)) (by simp)
end Go.Proofs.Ytpjcdacnhalclaa.Q
