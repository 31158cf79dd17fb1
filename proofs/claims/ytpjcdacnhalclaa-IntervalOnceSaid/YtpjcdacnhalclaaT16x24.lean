/- A part of the proof of the law that the last part names: facts of the functions that the law calls. No condition beyond those that stand in them. -/
import Derived.Test.YtpjcdacnhalclaaT16x3
import Derived.Test.YtpjcdacnhalclaaT16x10
import Derived.Test.YtpjcdacnhalclaaT16x8
import Derived.Test.YtpjcdacnhalclaaT16x6
import Derived.Test.YtpjcdacnhalclaaT16x9
import Derived.Test.YtpjcdacnhalclaaT16x5
import Derived.Test.YtpjcdacnhalclaaT16x13
import Derived.Test.YtpjcdacnhalclaaT16x11
import Derived.Test.YtpjcdacnhalclaaT16x12
import Derived.Test.YtpjcdacnhalclaaT16x22
import Derived.Lib.Bytes
import Derived.Test.YtpjcdacnhalclaaT16x16
import Derived.Test.YtpjcdacnhalclaaT16x7
import Derived.Test.YtpjcdacnhalclaaT16x19
namespace Go.Proofs.Ytpjcdacnhalclaa.Q
open Go.RowKit Go.Proofs.YtpjcdacnhalclaaW.PrintWords Go.Proofs.YtpjcdacnhalclaaW.PrintLast Go.Proofs.YtpjcdacnhalclaaW.PrintMore
attribute [local go_sem] max2_int min2_int max_two min_two max_three min_three max_four min_four
set_option linter.unusedVariables false
set_option linter.unusedSimpArgs false
def interval_Minus.f (k : Nat) (l0 : List (S65)) (l1 : List (S65)) : Option ((List (S65)) × Int) := (interval_combine.f k l0 l1 kMinus).bind fun bt554 => (some (bt554.1, bt554.2))
set_option maxHeartbeats 8000000 in
set_option maxRecDepth 100000 in
theorem interval_Minus.calls (k : Nat) (A0 : Option Addr) (c0 : Nat) (l0 : List (S65)) (A1 : Option Addr) (c1 : Nat) (l1 : List (S65)) (r1 : List (S65)) (r2 : Int) (w : World) (hr0 : Kd.C k65 w A0 l0.length l0) (hc0 : l0.length ≤ c0) (hr1 : Kd.C k65 w A1 l1.length l1) (hc1 : l1.length ≤ c1) (h : interval_Minus.f k l0 l1 = some (r1, r2)) :
  Calls Try.prog 32 #[.slice A0 l0.length c0, .slice A1 l1.length c1] w fun e w' => ∃ v0_ : Value, e = .returned (.tuple #[v0_, .int .i64 r2]) ∧ Kd.R k65 65 w' w.heap.size (fun _ => True) v0_ r1 ∧ Below w.heap.size w w' := by
 have HR0 := Aside0.mk hr0
 have HC0 := Aside0.mk hc0
 clear hr0 hc0
 have HR1 := Aside0.mk hr1
 have HC1 := Aside0.mk hc1
 clear hr1 hc1
 have HB := Aside0.mk (Below.refl w.heap.size w)
 have H : ((interval_combine.f k l0 l1 kMinus).bind fun bt554 => (some (bt554.1, bt554.2))) = some (r1, r2) := h
 clear h
 obtain ⟨⟨t554, t555⟩, A3, H⟩ := oB H
 try dsimp only at H
 simp only [Option.some.injEq, Prod.mk.injEq] at H
 obtain ⟨rfl, rfl⟩ := H
 go_enter Try.func32, Try.ntmps32
 go_wp2_with (first | ((with_reducible refine gate_callee (f := 77) rfl ?_); refine gL (some 8) rfl Try.func77 #[.slice A0 l0.length c0, .slice A1 l1.length c1, .func (.func 80) #[] #[]] rfl ?_; (with_reducible refine (interval_combine.calls k _ _ l0 _ _ l1 kMinus 80 keep80 t554 t555 _ ?side1 ?side2 ?side3 ?side4 A3.out).mono ?_); (case side1 => exact cX HR0.out); (case side2 => exact HC0.out); (case side3 => exact cX HR1.out); (case side4 => exact HC1.out); rintro e w4 ⟨v556, rfl, ho0, hb⟩; refine ⟨_, rfl, ?_⟩; have n0_ := Aside0.mk (Kd.R_lower ho0 (below_size bO)); have n1_ := Aside0.mk (below_step bO hb); clear HB; have HO557 := n0_; have HB := n1_; clear n0_ n1_; (try clear hb ho0)))
 go_ret2
 exact ⟨_, eW, by (with_reducible repeat (first | apply Kd.R_alloc | apply Kd.R_drewN | apply Kd.R_drew)); exact HO557.out, bO⟩
end Go.Proofs.Ytpjcdacnhalclaa.Q
namespace Go.Proofs.Ytpjcdacnhalclaa.Q
open Go.RowKit Go.Proofs.YtpjcdacnhalclaaW.PrintWords Go.Proofs.YtpjcdacnhalclaaW.PrintLast Go.Proofs.YtpjcdacnhalclaaW.PrintMore
attribute [local go_sem] max2_int min2_int max_two min_two max_three min_three max_four min_four
set_option linter.unusedVariables false
set_option linter.unusedSimpArgs false
def interval_Covers.f (k : Nat) (l0 : List (S65)) (l1 : List (S65)) : Option (Bool × Int) := (interval_Valid.f k l0).bind fun t562 => (if t562 = true then ((interval_Valid.f k l1).bind fun t563 => (if t563 = true then ((interval_merge.f k l0 l1 kCov).bind fun t564 => (some (((t564.length : Int) == 0), 0))) else (some (false, 30)))) else (some (false, 30)))
set_option maxHeartbeats 8000000 in
set_option maxRecDepth 100000 in
theorem interval_Covers.calls (k : Nat) (A0 : Option Addr) (c0 : Nat) (l0 : List (S65)) (A1 : Option Addr) (c1 : Nat) (l1 : List (S65)) (r1 : Bool) (r2 : Int) (w : World) (hr0 : Kd.C k65 w A0 l0.length l0) (hc0 : l0.length ≤ c0) (hr1 : Kd.C k65 w A1 l1.length l1) (hc1 : l1.length ≤ c1) (h : interval_Covers.f k l0 l1 = some (r1, r2)) :
  Calls Try.prog 34 #[.slice A0 l0.length c0, .slice A1 l1.length c1] w fun e w' => e = .returned (.tuple #[.bool r1, .int .i64 r2]) ∧ Below w.heap.size w w' := by
 have HR0 := Aside0.mk hr0
 have HC0 := Aside0.mk hc0
 clear hr0 hc0
 have HR1 := Aside0.mk hr1
 have HC1 := Aside0.mk hc1
 clear hr1 hc1
 have HB := Aside0.mk (Below.refl w.heap.size w)
 have H : ((interval_Valid.f k l0).bind fun t562 => (if t562 = true then ((interval_Valid.f k l1).bind fun t563 => (if t563 = true then ((interval_merge.f k l0 l1 kCov).bind fun t564 => (some (((t564.length : Int) == 0), 0))) else (some (false, 30)))) else (some (false, 30)))) = some (r1, r2) := h
 clear h
 obtain ⟨t562, A3, H⟩ := oB H
 try dsimp only at H
 by_cases c4 : t562 = true
 rotate_left
 ·replace c4 := Bool.eq_false_iff.mpr c4
  subst c4
  rw [if_neg (show ¬ (false = true) by decide)] at H
  simp only [Option.some.injEq, Prod.mk.injEq] at H
  obtain ⟨rfl, rfl⟩ := H
  go_enter Try.func34, Try.ntmps34
  go_wp2_with (first | ((with_reducible refine gate_callee (f := 37) rfl ?_); refine gL (some 7) rfl Try.func37 #[.slice A0 l0.length c0] rfl ?_; (with_reducible refine (interval_Valid.calls k _ _ l0 false _ ?side1 ?side2 A3.out).mono ?_); (case side1 => exact cX HR0.out); (case side2 => exact HC0.out); rintro e w14 ⟨rfl, hb⟩; refine ⟨_, rfl, ?_⟩; have n0_ := Aside0.mk (below_step bO hb); clear HB; have HB := n0_; clear n0_; (try clear hb)))
  go_ret2
  exact ⟨eW, bO⟩
 subst c4
 rw [if_pos rfl] at H
 obtain ⟨t563, A5, H⟩ := oB H
 try dsimp only at H
 by_cases c6 : t563 = true
 rotate_left
 ·replace c6 := Bool.eq_false_iff.mpr c6
  subst c6
  rw [if_neg (show ¬ (false = true) by decide)] at H
  simp only [Option.some.injEq, Prod.mk.injEq] at H
  obtain ⟨rfl, rfl⟩ := H
  go_enter Try.func34, Try.ntmps34
  go_wp2_with (first | ((with_reducible refine gate_callee (f := 37) rfl ?_); refine gL (some 7) rfl Try.func37 #[.slice A0 l0.length c0] rfl ?_; (with_reducible refine (interval_Valid.calls k _ _ l0 true _ ?side1 ?side2 A3.out).mono ?_); (case side1 => exact cX HR0.out); (case side2 => exact HC0.out); rintro e w12 ⟨rfl, hb⟩; refine ⟨_, rfl, ?_⟩; have n0_ := Aside0.mk (below_step bO hb); clear HB; have HB := n0_; clear n0_; (try clear hb)) | (go_at_call 37; (with_reducible refine (interval_Valid.calls k _ _ l1 false _ ?side1 ?side2 A5.out).mono ?_); (case side1 => repeat (first | exact (Kd.C_below HR1.out HB.out) | (with_reducible refine Kd.C_alloc ?_ _) | (with_reducible refine Kd.C_drewN ?_ _) | (with_reducible refine Kd.C_drew ?_))); (case side2 => exact HC1.out); rintro e w13 ⟨rfl, hb⟩; have n0_ := Aside0.mk (below_step bO hb); clear HB; have HB := n0_; clear n0_; (try clear hb)))
  go_ret2
  exact ⟨eW, bO⟩
 subst c6
 rw [if_pos rfl] at H
 obtain ⟨t564, A7, H⟩ := oB H
 try dsimp only at H
 simp only [Option.some.injEq, Prod.mk.injEq] at H
 obtain ⟨rfl, rfl⟩ := H
 go_enter Try.func34, Try.ntmps34
 go_wp2_with (first | ((with_reducible refine gate_callee (f := 37) rfl ?_); refine gL (some 7) rfl Try.func37 #[.slice A0 l0.length c0] rfl ?_; (with_reducible refine (interval_Valid.calls k _ _ l0 true _ ?side1 ?side2 A3.out).mono ?_); (case side1 => exact cX HR0.out); (case side2 => exact HC0.out); rintro e w8 ⟨rfl, hb⟩; refine ⟨_, rfl, ?_⟩; have n0_ := Aside0.mk (below_step bO hb); clear HB; have HB := n0_; clear n0_; (try clear hb)) | (go_at_call 37; (with_reducible refine (interval_Valid.calls k _ _ l1 true _ ?side1 ?side2 A5.out).mono ?_); (case side1 => repeat (first | exact (Kd.C_below HR1.out HB.out) | (with_reducible refine Kd.C_alloc ?_ _) | (with_reducible refine Kd.C_drewN ?_ _) | (with_reducible refine Kd.C_drew ?_))); (case side2 => exact HC1.out); rintro e w9 ⟨rfl, hb⟩; have n0_ := Aside0.mk (below_step bO hb); clear HB; have HB := n0_; clear n0_; (try clear hb)) | ((with_reducible refine gate_callee (f := 82) rfl ?_); refine gL (some 16) rfl Try.func82 #[.slice A0 l0.length c0, .slice A1 l1.length c1, .func (.func 83) #[] #[]] rfl ?_; (with_reducible refine (interval_merge.calls k (fun k_ => k_ < w.heap.size) _ _ l0 (fun k_ => k_ < w.heap.size) _ _ l1 kCov 83 keep83 t564 _ ?side1 ?side2 A7.out).mono ?_); (case side1 => exact Kd.V_mk HC0.out (Kd.F_below (Kd.C_F k65_heap HR0.out) bO)); (case side2 => exact Kd.V_mk HC1.out (Kd.F_below (Kd.C_F k65_heap HR1.out) bO)); rintro e w10 ⟨v565, rfl, ho0, hb⟩; refine ⟨_, rfl, ?_⟩; have n0_ := Aside0.mk (Kd.R_lower (Kd.R_mono (ok' := fun k_ => True) ho0 (fun _ hk_ => trivial)) (below_size bO)); have n1_ := Aside0.mk (below_step bO hb); clear HB; have HO566 := n0_; have HB := n1_; clear n0_ n1_; (try clear hb ho0); obtain ⟨Ao11, co11, eo11⟩ := Kd.R_slice HO566.out; subst eo11))
 go_ret2
 exact ⟨eW, bO⟩
theorem eqA65 (d : Nat) (w : World) (x0 y0 : Int) (x1 y1 : Int) (x2 y2 : ByteArray) (x3 y3 : Int) (x4 y4 : Int) (x5 y5 : ByteArray) (x6 y6 : Bool) :
  (Op.equalIn (d + 3) 65 (.agg #[.int .i64 x0, .int .i64 x1, .string x2, .int .i64 x3, .int .i64 x4, .string x5, .bool x6]) (.agg #[.int .i64 y0, .int .i64 y1, .string y2, .int .i64 y3, .int .i64 y4, .string y5, .bool y6])).run Try.prog w = .ok ((x0 == y0 && (x1 == y1 && (x2.toList == y2.toList))) && ((x3 == y3 && (x4 == y4 && (x5.toList == y5.toList))) && (x6 == y6))) w := by
 refine eqA_of Try.underlying65 (by kernel_rfl) ?_
 refine eqf_cons (by rfl) (by go_simp) (by go_simp) (eqA24 (d + 0) w _ _ _ _ _ _) ?_
 refine eqf_cons (by rfl) (by go_simp) (by go_simp) (eqA24 (d + 0) w _ _ _ _ _ _) ?_
 exact eqf_last (by rfl) (by go_simp; rfl) (by go_simp; rfl) (by go_simp)
end Go.Proofs.Ytpjcdacnhalclaa.Q
namespace Go.Proofs.Ytpjcdacnhalclaa.Q
open Go.RowKit Go.Proofs.YtpjcdacnhalclaaW.PrintWords Go.Proofs.YtpjcdacnhalclaaW.PrintLast Go.Proofs.YtpjcdacnhalclaaW.PrintMore
attribute [local go_sem] max2_int min2_int max_two min_two max_three min_three max_four min_four
set_option linter.unusedVariables false
set_option linter.unusedSimpArgs false
attribute [local go_sem high] eqA65
def partsyncref03_Same.l0 : Nat → List (S65) → List (S65) → Int → Int → Option (Bool)
 | 0, _, _, _, _ => none
 | k + 1, x0, x1, x12, x13 => if x13 < x12 then (if 0 ≤ x13 then (if x13 < (x0.length : Int) then (if x13 < (x1.length : Int) then (if ((!(((rd_T65 x0 x13).f0.f0) == ((rd_T65 x1 x13).f0.f0)) || (!(((rd_T65 x0 x13).f0.f1) == ((rd_T65 x1 x13).f0.f1)) || (!((((rd_T65 x0 x13).f0.f2).toList) == (((rd_T65 x1 x13).f0.f2).toList))))) || ((!(((rd_T65 x0 x13).f1.f0) == ((rd_T65 x1 x13).f1.f0)) || (!(((rd_T65 x0 x13).f1.f1) == ((rd_T65 x1 x13).f1.f1)) || (!((((rd_T65 x0 x13).f1.f2).toList) == (((rd_T65 x1 x13).f1.f2).toList))))) || (!(((rd_T65 x0 x13).f2) == ((rd_T65 x1 x13).f2))))) = true then (some false) else (partsyncref03_Same.l0 k x0 x1 x12 (wrap64 (x13 + 1)))) else (none)) else (none)) else (none)) else (some true)
def partsyncref03_Same.f (k : Nat) (l0 : List (S65)) (l1 : List (S65)) : Option (Bool) := if (l0.length : Int) = (l1.length : Int) then (partsyncref03_Same.l0 k l0 l1 (l0.length : Int) 0) else (some false)
set_option maxHeartbeats 8000000 in
set_option maxRecDepth 100000 in
theorem partsyncref03_Same.calls (k : Nat) (A0 : Option Addr) (c0 : Nat) (l0 : List (S65)) (A1 : Option Addr) (c1 : Nat) (l1 : List (S65)) (r : Bool) (w : World) (hr0 : Kd.C k65 w A0 l0.length l0) (hc0 : l0.length ≤ c0) (hr1 : Kd.C k65 w A1 l1.length l1) (hc1 : l1.length ≤ c1) (h : partsyncref03_Same.f k l0 l1 = some r) :
  Calls Try.prog 40 #[.slice A0 l0.length c0, .slice A1 l1.length c1] w fun e w' => e = .returned (.bool r) ∧ Drawn0 w w' := by
 have hu65 := Try.underlying65
 have HR0 := Aside0.mk hr0
 have HC0 := Aside0.mk hc0
 clear hr0 hc0
 have HR1 := Aside0.mk hr1
 have HC1 := Aside0.mk hc1
 clear hr1 hc1
 have H : (if (l0.length : Int) = (l1.length : Int) then (partsyncref03_Same.l0 k l0 l1 (l0.length : Int) 0) else (some false)) = some r := h
 clear h
 by_cases c3 : (l0.length : Int) = (l1.length : Int)
 rotate_left
 ·rw [if_neg c3] at H
  have c3b0 : ((l0.length : Int) == (l1.length : Int)) = false := beq_eq_false_iff_ne.mpr c3
  have c3b1 : ((l0.length : Int) != (l1.length : Int)) = true := bne_iff_ne.mpr c3
  have c3b2 : (l0.length == l1.length) = false := by first | simpa using c3 | (simp at c3 ⊢; omega)
  obtain rfl := Option.some.inj H
  go_enter Try.func40, Try.ntmps40
  go_wp2
  repeat (go_quiet (fail); try go_wp2)
  go_ret
  exact ⟨by first | rfl | (simp; done) | (simp [*]; done), by repeat (first | exact Drawn0.refl _ | apply Drawn0.step)⟩
 rw [if_pos c3] at H
 have c3b0 : ((l0.length : Int) == (l1.length : Int)) = true := beq_iff_eq.mpr c3
 have c3b1 : ((l0.length : Int) != (l1.length : Int)) = false := bne_eq_false_iff_eq.mpr c3
 have c3b2 : (l0.length == l1.length) = true := by first | simpa using c3 | (simp at c3 ⊢; omega)
 clear c3
 have H' := Aside0.mk H
 clear H
 go_enter Try.func40, Try.ntmps40
 go_wp2
 repeat (go_quiet (fail); try go_wp2)
 go_loopg [13] k (fun kq v13 w' => ∃ (x13_1 : Int), v13 = .int .i64 x13_1 ∧ Aside0 (partsyncref03_Same.l0 kq l0 l1 (l0.length : Int) x13_1 = some r) ∧ Aside0 (kq ≤ k) ∧ Drawn0 w w')
 case atStart => exact ⟨(0), (by first | rfl | (simp; done) | (simp [*]; done)), H', ⟨Nat.le_refl _⟩, by repeat (first | exact Drawn0.refl _ | apply Drawn0.step)⟩
 case round =>
  clear H'
  try clear c1
  try clear p2
  try clear c3
  try clear c3b0
  try clear c3b1
  try clear c3b2
  obtain ⟨x13_1, rfl, HA, HK1, ⟨m1, rfl⟩⟩ := hrel
  cases gk with
  | zero => exact absurd HA.out (by simp [partsyncref03_Same.l0])
  | succ k1 =>
   have H := HA.out
   clear HA
   simp only [partsyncref03_Same.l0] at H
   by_cases c4 : x13_1 < (l0.length : Int)
   rotate_left
   ·rw [if_neg c4] at H
    have c4b0 : decide (x13_1 < (l0.length : Int)) = false := decide_eq_false c4
    clear c4
    obtain rfl := Option.some.inj H
    go_wp2
    repeat (go_quiet (fail); try go_wp2)
    go_ret
    exact ⟨by first | rfl | (simp; done) | (simp [*]; done), by repeat (first | exact Drawn0.refl _ | apply Drawn0.step)⟩
   rw [if_pos c4] at H
   have c4b0 : decide (x13_1 < (l0.length : Int)) = true := decide_eq_true c4
   clear c4
   by_cases c5 : 0 ≤ x13_1
   rotate_left
   ·rw [if_neg c5] at H
    exact absurd H (by simp)
   rw [if_pos c5] at H
   have c5b0 : decide (0 ≤ x13_1) = true := decide_eq_true c5
   clear c5
   by_cases c6 : x13_1 < (l0.length : Int)
   rotate_left
   ·rw [if_neg c6] at H
    exact absurd H (by simp)
   rw [if_pos c6] at H
   have c6b0 : decide (x13_1 < (l0.length : Int)) = true := decide_eq_true c6
   clear c6
   by_cases c7 : x13_1 < (l1.length : Int)
   rotate_left
   ·rw [if_neg c7] at H
    exact absurd H (by simp)
   rw [if_pos c7] at H
   have c7b0 : decide (x13_1 < (l1.length : Int)) = true := decide_eq_true c7
   clear c7
   by_cases c8 : ((!(((rd_T65 l0 x13_1).f0.f0) == ((rd_T65 l1 x13_1).f0.f0)) || (!(((rd_T65 l0 x13_1).f0.f1) == ((rd_T65 l1 x13_1).f0.f1)) || (!((((rd_T65 l0 x13_1).f0.f2).toList) == (((rd_T65 l1 x13_1).f0.f2).toList))))) || ((!(((rd_T65 l0 x13_1).f1.f0) == ((rd_T65 l1 x13_1).f1.f0)) || (!(((rd_T65 l0 x13_1).f1.f1) == ((rd_T65 l1 x13_1).f1.f1)) || (!((((rd_T65 l0 x13_1).f1.f2).toList) == (((rd_T65 l1 x13_1).f1.f2).toList))))) || (!(((rd_T65 l0 x13_1).f2) == ((rd_T65 l1 x13_1).f2))))) = true
   rotate_left
   ·rw [if_neg c8] at H
    have c8b0 : ((!(((rd_T65 l0 x13_1).f0.f0) == ((rd_T65 l1 x13_1).f0.f0)) || (!(((rd_T65 l0 x13_1).f0.f1) == ((rd_T65 l1 x13_1).f0.f1)) || (!((((rd_T65 l0 x13_1).f0.f2).toList) == (((rd_T65 l1 x13_1).f0.f2).toList))))) || ((!(((rd_T65 l0 x13_1).f1.f0) == ((rd_T65 l1 x13_1).f1.f0)) || (!(((rd_T65 l0 x13_1).f1.f1) == ((rd_T65 l1 x13_1).f1.f1)) || (!((((rd_T65 l0 x13_1).f1.f2).toList) == (((rd_T65 l1 x13_1).f1.f2).toList))))) || (!(((rd_T65 l0 x13_1).f2) == ((rd_T65 l1 x13_1).f2))))) = false := by simpa using c8
    clear c8
    have H' := Aside0.mk H
    clear H
    have p674 : 0 ≤ (x13_1 : Int) := of_decide_eq_true (by first | (with_reducible assumption) | assumption)
    have q674 : x13_1 < (l0.length : Int) := of_decide_eq_true (by first | (with_reducible assumption) | assumption)
    obtain ⟨ad674, e674, hx674_0, hx674_1, hx674_2, hx674_3, hx674_4, hx674_5, hx674_6⟩ := at_T65 HR0.out x13_1 p674 q674
    cases e674
    replace p674 := eq_true p674
    replace q674 := eq_true q674
    have p675 : 0 ≤ (x13_1 : Int) := of_decide_eq_true (by first | (with_reducible assumption) | assumption)
    have q675 : x13_1 < (l1.length : Int) := of_decide_eq_true (by first | (with_reducible assumption) | assumption)
    obtain ⟨ad675, e675, hx675_0, hx675_1, hx675_2, hx675_3, hx675_4, hx675_5, hx675_6⟩ := at_T65 HR1.out x13_1 p675 q675
    cases e675
    replace p675 := eq_true p675
    replace q675 := eq_true q675
    go_wp2
    repeat (go_quiet (fail); try go_wp2)
    go_roundg k1
    case measure => have := HK1.out; omega
    case rel => exact ⟨(wrap64 (x13_1 + 1)), (by first | rfl | (simp; done) | (simp [*]; done)), H', ⟨by have := HK1.out; omega⟩, by repeat (first | exact Drawn0.refl _ | apply Drawn0.step)⟩
   rw [if_pos c8] at H
   have c8b0 : ((!(((rd_T65 l0 x13_1).f0.f0) == ((rd_T65 l1 x13_1).f0.f0)) || (!(((rd_T65 l0 x13_1).f0.f1) == ((rd_T65 l1 x13_1).f0.f1)) || (!((((rd_T65 l0 x13_1).f0.f2).toList) == (((rd_T65 l1 x13_1).f0.f2).toList))))) || ((!(((rd_T65 l0 x13_1).f1.f0) == ((rd_T65 l1 x13_1).f1.f0)) || (!(((rd_T65 l0 x13_1).f1.f1) == ((rd_T65 l1 x13_1).f1.f1)) || (!((((rd_T65 l0 x13_1).f1.f2).toList) == (((rd_T65 l1 x13_1).f1.f2).toList))))) || (!(((rd_T65 l0 x13_1).f2) == ((rd_T65 l1 x13_1).f2))))) = true := c8
   clear c8
   obtain rfl := Option.some.inj H
   have p674 : 0 ≤ (x13_1 : Int) := of_decide_eq_true (by first | (with_reducible assumption) | assumption)
   have q674 : x13_1 < (l0.length : Int) := of_decide_eq_true (by first | (with_reducible assumption) | assumption)
   obtain ⟨ad674, e674, hx674_0, hx674_1, hx674_2, hx674_3, hx674_4, hx674_5, hx674_6⟩ := at_T65 HR0.out x13_1 p674 q674
   cases e674
   replace p674 := eq_true p674
   replace q674 := eq_true q674
   have p675 : 0 ≤ (x13_1 : Int) := of_decide_eq_true (by first | (with_reducible assumption) | assumption)
   have q675 : x13_1 < (l1.length : Int) := of_decide_eq_true (by first | (with_reducible assumption) | assumption)
   obtain ⟨ad675, e675, hx675_0, hx675_1, hx675_2, hx675_3, hx675_4, hx675_5, hx675_6⟩ := at_T65 HR1.out x13_1 p675 q675
   cases e675
   replace p675 := eq_true p675
   replace q675 := eq_true q675
   go_wp2
   repeat (go_quiet (fail); try go_wp2)
   go_ret
   exact ⟨by first | rfl | (simp; done) | (simp [*]; done), by repeat (first | exact Drawn0.refl _ | apply Drawn0.step)⟩
end Go.Proofs.Ytpjcdacnhalclaa.Q
namespace Go.Proofs.Ytpjcdacnhalclaa.Q
open Go.RowKit Go.Proofs.YtpjcdacnhalclaaW.PrintWords Go.Proofs.YtpjcdacnhalclaaW.PrintLast Go.Proofs.YtpjcdacnhalclaaW.PrintMore
attribute [local go_sem] max2_int min2_int max_two min_two max_three min_three max_four min_four
set_option linter.unusedVariables false
set_option linter.unusedSimpArgs false
def value_First.j0 : Nat → Int → Int → Bool → Option (Int × Int × ByteArray × Bool)
 | 0, _, _, _ => none
 | k + 1, x0, x4, x5 => if x5 = true then (some (x0, 0, (⟨#[]⟩ : ByteArray), true)) else (if x4 = 4 then (some (x0, (-9223372036854775808), (⟨#[]⟩ : ByteArray), true)) else (some (0, 0, (⟨#[]⟩ : ByteArray), false)))
def value_First.f (k : Nat) (a0 : Int) : Option (Int × Int × ByteArray × Bool) := if a0 = 1 then (value_First.j0 k a0 a0 (a0 == 1)) else (if a0 = 2 then (value_First.j0 k a0 a0 (a0 == 2)) else (if a0 = 3 then (value_First.j0 k a0 a0 (a0 == 3)) else (value_First.j0 k a0 a0 (a0 == 5))))
theorem value_First.mono_l : ∀ k, (∀ y0 y1 y2, LeO (value_First.j0 k y0 y1 y2) (value_First.j0 (k + 1) y0 y1 y2))
 | 0 => fun _ _ _ r h => by simp [value_First.j0] at h
 | k + 1 => by
  have ih0 := value_First.mono_l k
  ·intro y0 y1 y2
   unfold value_First.j0
   repeat' first
   | (with_reducible exact ih0 _ _ _)
   | (with_reducible exact LeO.refl _)
   | (with_reducible exact LeO.none _)
   | (with_reducible refine LeO.ite ?_ ?_)
   | (with_reducible refine LeO.bind ?_ (fun _ => ?_))
   | exact ih0 _ _ _
   | exact LeO.none _
   | refine LeO.ite ?_ ?_
   | refine LeO.bind ?_ (fun _ => ?_)
theorem value_First.mono : ∀ a0 k, LeO (value_First.f k a0) (value_First.f (k + 1) a0) := by
 intro a0 k
 have ih0 := value_First.mono_l k
 unfold value_First.f
 repeat' first
   | (with_reducible exact ih0 _ _ _)
   | (with_reducible exact LeO.refl _)
   | (with_reducible exact LeO.none _)
   | (with_reducible refine LeO.ite ?_ ?_)
   | (with_reducible refine LeO.bind ?_ (fun _ => ?_))
   | exact ih0 _ _ _
   | exact LeO.none _
   | refine LeO.ite ?_ ?_
   | refine LeO.bind ?_ (fun _ => ?_)
def value_Next.l0 : Nat → Int → Int → Int → ByteArray → Option (Int × Int × ByteArray × Bool)
 | 0, _, _, _, _ => none
 | k + 1, x4, x127000, x127001, x127002 => if x4 > 0 then (if 0 ≤ (wrap64 (x4 - 1)) then (if (wrap64 (x4 - 1)) < (x127002.size : Int) then (if (bt x127002 (wrap64 (x4 - 1))) = 255 then (value_Next.l0 k (wrap64 (x4 - 1)) x127000 x127001 x127002) else (if x4 = 0 then (some (0, 0, (⟨#[]⟩ : ByteArray), false)) else (if (wrap64 (x4 - 1)) ≤ (x127002.size : Int) then ((some (([((bt x127002 (wrap64 (x4 - 1))) + 1) % 256] : List Int) : List Int)).bind fun y145 => (if (x127002.extract 0 ((wrap64 (x4 - 1)) : Int).toNat).size + (strOfNums y145).size ≤ 9223372036854775807 then (some (5, 0, (x127002.extract 0 ((wrap64 (x4 - 1)) : Int).toNat) ++ (strOfNums y145), true)) else (none))) else (none)))) else (none)) else (none)) else (if x4 = 0 then (some (0, 0, (⟨#[]⟩ : ByteArray), false)) else (if 0 ≤ (wrap64 (x4 - 1)) then (if (wrap64 (x4 - 1)) ≤ (x127002.size : Int) then (if (wrap64 (x4 - 1)) < (x127002.size : Int) then ((some (([((bt x127002 (wrap64 (x4 - 1))) + 1) % 256] : List Int) : List Int)).bind fun y148 => (if (x127002.extract 0 ((wrap64 (x4 - 1)) : Int).toNat).size + (strOfNums y148).size ≤ 9223372036854775807 then (some (5, 0, (x127002.extract 0 ((wrap64 (x4 - 1)) : Int).toNat) ++ (strOfNums y148), true)) else (none))) else (none)) else (none)) else (none)))
def value_Next.f (k : Nat) (a0_0 : Int) (a0_1 : Int) (a0_2 : ByteArray) : Option (Int × Int × ByteArray × Bool) := (value_Valid.f k a0_0 a0_1 a0_2).bind fun t128 => (if t128 = true then (if a0_0 = 1 then ((value_First.f k 2).bind fun bt129 => (some (bt129.1, bt129.2.1, bt129.2.2.1, bt129.2.2.2))) else (if a0_0 = 2 then ((value_First.f k 3).bind fun bt133 => (some (bt133.1, bt133.2.1, bt133.2.2.1, bt133.2.2.2))) else (if a0_0 = 3 then (if a0_1 = 0 then (some (3, 1, (⟨#[]⟩ : ByteArray), true)) else ((value_First.f k 4).bind fun bt137 => (some (bt137.1, bt137.2.1, bt137.2.2.1, bt137.2.2.2)))) else (if a0_0 = 4 then (if a0_1 = 9223372036854775807 then ((value_First.f k 5).bind fun bt141 => (some (bt141.1, bt141.2.1, bt141.2.2.1, bt141.2.2.2))) else (some (4, wrap64 (a0_1 + 1), (⟨#[]⟩ : ByteArray), true))) else (if (a0_2.size : Int) < 64 then (if a0_2.size + 1 ≤ 9223372036854775807 then (some (5, 0, a0_2 ++ (⟨#[0]⟩ : ByteArray), true)) else (none)) else (value_Next.l0 k (a0_2.size : Int) a0_0 a0_1 a0_2)))))) else (some (0, 0, (⟨#[]⟩ : ByteArray), false)))
theorem value_Next.mono_l : ∀ k, (∀ y0 y1 y2 y3, LeO (value_Next.l0 k y0 y1 y2 y3) (value_Next.l0 (k + 1) y0 y1 y2 y3))
 | 0 => fun _ _ _ _ r h => by simp [value_Next.l0] at h
 | k + 1 => by
  have ih0 := value_Next.mono_l k
  ·intro y0 y1 y2 y3
   unfold value_Next.l0
   repeat' first
   | (with_reducible exact ih0 _ _ _ _)
   | (with_reducible exact value_First.mono _ _)
   | (with_reducible exact value_Valid.mono _ _ _ _)
   | (with_reducible exact LeO.refl _)
   | (with_reducible exact LeO.none _)
   | (with_reducible refine LeO.ite ?_ ?_)
   | (with_reducible refine LeO.bind ?_ (fun _ => ?_))
   | exact ih0 _ _ _ _
   | exact value_First.mono _ _
   | exact value_Valid.mono _ _ _ _
   | exact LeO.none _
   | refine LeO.ite ?_ ?_
   | refine LeO.bind ?_ (fun _ => ?_)
def interval_One.f (k : Nat) (a0_0 : Int) (a0_1 : Int) (a0_2 : ByteArray) : Option ((List (S65)) × Int) := (value_Valid.f k a0_0 a0_1 a0_2).bind fun t677 => (if t677 = true then ((value_Next.f k a0_0 a0_1 a0_2).bind fun bt678 => (if bt678.2.2.2 = true then (some ((([(⟨(⟨a0_0, a0_1, a0_2⟩ : S24), (⟨bt678.1, bt678.2.1, bt678.2.2.1⟩ : S24), false⟩ : S65)] : List (S65))), 0)) else (some ((([(⟨(⟨a0_0, a0_1, a0_2⟩ : S24), (⟨0, 0, (⟨#[]⟩ : ByteArray)⟩ : S24), true⟩ : S65)] : List (S65))), 0)))) else (some (([] : List (S65)), 10)))
end Go.Proofs.Ytpjcdacnhalclaa.Q
namespace Go.Proofs.Ytpjcdacnhalclaa.Q
open Go.RowKit Go.Proofs.YtpjcdacnhalclaaW.PrintWords Go.Proofs.YtpjcdacnhalclaaW.PrintLast Go.Proofs.YtpjcdacnhalclaaW.PrintMore
attribute [local go_sem] max2_int min2_int max_two min_two max_three min_three max_four min_four
set_option linter.unusedVariables false
set_option linter.unusedSimpArgs false
def validV (a b : Int) (c : ByteArray) : Bool := if a = 1 ∨ a = 2 then (b == 0 && (c.toList == ([] : List UInt8))) else if a = 3 then ((b == 0 || b == 1) && (c.toList == ([] : List UInt8))) else if a = 4 then (c.toList == ([] : List UInt8)) else if a = 5 then (b == 0 && decide ((c.size : Int) ≤ 64)) else false
theorem value_Valid.some_ (k : Nat) (a b : Int) (c : ByteArray) : value_Valid.f (k + 1) a b c = some (validV a b c) := by
  unfold value_Valid.f validV
  by_cases h1 : a = 1
  · subst h1; simp [value_Valid.j0]
  · rw [if_neg h1]
    by_cases h2 : a = 2
    · subst h2; simp [value_Valid.j0]
    · have h2b : (a == 2) = false := beq_eq_false_iff_ne.2 h2
      simp only [value_Valid.j0, h2b, h1, h2, or_self, if_false]
      by_cases h3 : a = 3
      · subst h3
        by_cases hb : b = 0
        · simp [hb]
        · by_cases hb1 : b = 1
          · simp [hb1]
          · simp [hb, hb1]
      · by_cases h4 : a = 4
        · subst h4; simp
        · by_cases h5 : a = 5
          · subst h5
            by_cases hb : b = 0
            · simp [hb]
            · simp [hb]
          · simp [h3, h4, h5]
theorem partsyncref01_Valid.some_ (k : Nat) (a b : Int) (c : ByteArray) : partsyncref01_Valid.f (k + 1) a b c = some (validV a b c) := by
  unfold partsyncref01_Valid.f validV
  by_cases h1 : a = 1
  · subst h1
    by_cases hb : b = 0
    · simp [partsyncref01_Valid.j0, hb]
    · simp [partsyncref01_Valid.j0, hb]
  · rw [if_neg h1]
    by_cases h2 : a = 2
    · subst h2
      by_cases hb : b = 0
      · simp [partsyncref01_Valid.j0, hb]
      · simp [partsyncref01_Valid.j0, hb]
    · have h2b : (a == 2) = false := beq_eq_false_iff_ne.2 h2
      simp only [partsyncref01_Valid.j0, h2b, h1, h2, or_self, if_false]
      by_cases h3 : a = 3
      · subst h3
        by_cases hb : b = 0
        · simp [hb]
        · by_cases hb1 : b = 1
          · simp [hb1]
          · simp [hb, hb1]
      · by_cases h4 : a = 4
        · subst h4; simp
        · by_cases h5 : a = 5
          · subst h5
            by_cases hb : b = 0
            · simp [hb]
            · simp [hb]
          · simp [h3, h4, h5]
theorem ev_of_succ {α : Type} {g : Nat → Option α} {r : α} (h : ∀ k, g (k + 1) = some r) : Ev g r := ⟨1, fun k hk => by obtain ⟨j, rfl⟩ : ∃ j, k = j + 1 := ⟨k - 1, by omega⟩; exact h j⟩
theorem value_Valid.ev (a b : Int) (c : ByteArray) : Ev (fun k => value_Valid.f k a b c) (validV a b c) := ev_of_succ fun k => value_Valid.some_ k a b c
theorem partsyncref01_Valid.ev (a b : Int) (c : ByteArray) : Ev (fun k => partsyncref01_Valid.f k a b c) (validV a b c) := ev_of_succ fun k => partsyncref01_Valid.some_ k a b c
def firstV (a : Int) : Int × Int × ByteArray × Bool := if a = 1 ∨ a = 2 ∨ a = 3 ∨ a = 5 then (a, 0, ⟨#[]⟩, true) else if a = 4 then (a, -9223372036854775808, ⟨#[]⟩, true) else (0, 0, ⟨#[]⟩, false)
theorem value_First.some_ (k : Nat) (a : Int) : value_First.f (k + 1) a = some (firstV a) := by
  unfold value_First.f firstV
  by_cases h1 : a = 1
  · subst h1; simp [value_First.j0]
  · by_cases h2 : a = 2
    · subst h2; simp [value_First.j0]
    · by_cases h3 : a = 3
      · subst h3; simp [value_First.j0]
      · by_cases h5 : a = 5
        · subst h5; simp [value_First.j0]
        · have h5b : (a == 5) = false := beq_eq_false_iff_ne.2 h5
          by_cases h4 : a = 4
          · subst h4; simp [value_First.j0]
          · simp [value_First.j0, h1, h2, h3, h4, h5, h5b]
theorem value_First.ev (a : Int) : Ev (fun k => value_First.f k a) (firstV a) := ev_of_succ fun k => value_First.some_ k a
structure StOk (l : List Int) (i : Int) : Prop where
  byte : ∀ x ∈ l, 0 ≤ x ∧ x ≤ 255
  len : l.length ≤ 4096
  lo : 0 ≤ i
  hi : i ≤ l.length
theorem rd_byte {l : List Int} (h : ∀ x ∈ l, 0 ≤ x ∧ x ≤ 255) (i : Int) : 0 ≤ rd l i ∧ rd l i ≤ 255 := by
  unfold rd
  rw [List.getD_eq_getElem?_getD]
  cases he : l[i.toNat]? with
  | none => simp
  | some x => exact h x (List.mem_of_getElem? he)
theorem partsynccase_Case_Int.ok {l : List Int} {i : Int} (h : StOk l i) (n : Int) (hn : n ≤ 4096) : ∃ r j, partsynccase_Case_Int.f l i n = some (r, j) ∧ StOk l j ∧ 0 ≤ r ∧ r ≤ 4096 ∧ (1 ≤ n → r < n) := by
  obtain ⟨hb, hl, h0, h1⟩ := h
  unfold partsynccase_Case_Int.f
  by_cases c1 : i ≥ (l.length : Int)
  · rw [if_pos c1]; exact ⟨0, i, rfl, ⟨hb, hl, h0, h1⟩, by omega, by omega, by omega⟩
  · rw [if_neg c1]
    by_cases c2 : n < 1
    · rw [if_pos c2]; exact ⟨0, i, rfl, ⟨hb, hl, h0, h1⟩, by omega, by omega, by omega⟩
    · rw [if_neg c2]
      have e1 : wrap64 (i + 1) = i + 1 := by unfold wrap64; omega
      have e2 : wrap64 (i + 1 - 1) = i := by unfold wrap64; omega
      obtain ⟨b0, b1⟩ := rd_byte hb i
      have e3 : wrap64 (rd l i) = rd l i := by unfold wrap64; omega
      rw [e1, e2, if_pos h0, if_pos (by omega), if_neg (by omega), e3]
      have e4 : Int.tmod (rd l i) n = rd l i % n := Int.tmod_eq_emod_of_nonneg b0
      have m0 := Int.emod_nonneg (rd l i) (show n ≠ 0 by omega)
      have m1 := Int.emod_lt_of_pos (rd l i) (show 0 < n by omega)
      exact ⟨_, _, rfl, ⟨hb, hl, by omega, by omega⟩, by rw [e4]; exact m0, by rw [e4]; omega, fun _ => by rw [e4]; exact m1⟩
theorem partsynccase_Case_Bool.ok {l : List Int} {i : Int} (h : StOk l i) (n : Int) (h1 : 1 ≤ n) (hn : n ≤ 4096) : ∃ r j, partsynccase_Case_Bool.f l i n = some (r, j) ∧ StOk l j := by
  obtain ⟨r, j, hf, hj, _⟩ := partsynccase_Case_Int.ok h n hn
  unfold partsynccase_Case_Bool.f
  rw [hf]
  exact ⟨_, _, rfl, hj⟩
theorem partsynccase_Case_Number.ok {l : List Int} {i : Int} (h : StOk l i) : ∃ r j, partsynccase_Case_Number.f l i = some (r, j) ∧ StOk l j ∧ -9223372036854775808 ≤ r ∧ r ≤ 9223372036854775807 := by
  obtain ⟨r, j, hf, hj, h0, h1, h2⟩ := partsynccase_Case_Int.ok h 12 (by omega)
  unfold partsynccase_Case_Number.f
  rw [hf, Option.bind_some]
  have e4 : Int.tmod r 4 = r % 4 := Int.tmod_eq_emod_of_nonneg h0
  dsimp only
  split
  · exact ⟨_, _, rfl, hj, by omega, by omega⟩
  · split
    · exact ⟨_, _, rfl, hj, by omega, by omega⟩
    · split
      · exact ⟨_, _, rfl, hj, by omega, by omega⟩
      · exact ⟨_, _, rfl, hj, by omega, by omega⟩
theorem size_push_ (x : ByteArray) (b : UInt8) : (x ++ (⟨#[b]⟩ : ByteArray)).size = x.size + 1 := by rw [ByteArray.size_append]; rfl
theorem partsynccase_Case_Text.l0_ok (l : List Int) (j : Int) : ∀ (m : Nat) (i : Int) (x : ByteArray) (k : Nat), 0 ≤ i → 64 - i = m → x.size = i → m < k → ∃ t, partsynccase_Case_Text.l0 k x i l j = some (t, j) ∧ t.size = 64 := by
  intro m
  induction m with
  | zero =>
    intro i x k h0 h1 h2 hk
    obtain ⟨k, rfl⟩ : ∃ q, k = q + 1 := ⟨k - 1, by omega⟩
    simp only [partsynccase_Case_Text.l0]
    rw [if_neg (by omega)]
    exact ⟨_, rfl, by omega⟩
  | succ m ih =>
    intro i x k h0 h1 h2 hk
    obtain ⟨k, rfl⟩ : ∃ q, k = q + 1 := ⟨k - 1, by omega⟩
    simp only [partsynccase_Case_Text.l0]
    have e : wrap64 (i + 1) = i + 1 := by unfold wrap64; omega
    rw [if_pos (by omega), if_pos (by omega), e]
    exact ih (i + 1) _ k (by omega) (by omega) (by rw [size_push_]; omega) (by omega)
theorem partsynccase_Case_Text.l1_ok (l : List Int) (j : Int) : ∀ (m : Nat) (i : Int) (x : ByteArray) (k : Nat), 0 ≤ i → 64 - i = m → x.size = i → m < k → ∃ t, partsynccase_Case_Text.l1 k x i l j = some (t, j) ∧ t.size = 64 := by
  intro m
  induction m with
  | zero =>
    intro i x k h0 h1 h2 hk
    obtain ⟨k, rfl⟩ : ∃ q, k = q + 1 := ⟨k - 1, by omega⟩
    simp only [partsynccase_Case_Text.l1]
    rw [if_neg (by omega)]
    exact ⟨_, rfl, by omega⟩
  | succ m ih =>
    intro i x k h0 h1 h2 hk
    obtain ⟨k, rfl⟩ : ∃ q, k = q + 1 := ⟨k - 1, by omega⟩
    simp only [partsynccase_Case_Text.l1]
    have e : wrap64 (i + 1) = i + 1 := by unfold wrap64; omega
    rw [if_pos (by omega), if_pos (by omega), e]
    exact ih (i + 1) _ k (by omega) (by omega) (by rw [size_push_]; omega) (by omega)
theorem partsynccase_Case_Text.j1_ok (l : List Int) (j : Int) (q : Int) (b : Bool) : ∃ t, partsynccase_Case_Text.j1 70 ⟨#[]⟩ q b l j = some (t, j) ∧ t.size ≤ 64 := by
  simp only [partsynccase_Case_Text.j1]
  split
  · exact ⟨_, rfl, by decide⟩
  · split
    · exact ⟨_, rfl, by decide⟩
    · split
      · exact ⟨_, rfl, by decide⟩
      · split
        · exact ⟨_, rfl, by decide⟩
        · split
          · obtain ⟨t, h1, h2⟩ := partsynccase_Case_Text.l0_ok l j 64 0 ⟨#[]⟩ 69 (by omega) (by omega) rfl (by omega)
            exact ⟨t, h1, by omega⟩
          · obtain ⟨t, h1, h2⟩ := partsynccase_Case_Text.l1_ok l j 64 0 ⟨#[]⟩ 69 (by omega) (by omega) rfl (by omega)
            exact ⟨t, h1, by omega⟩
theorem partsynccase_Case_Text.j0_ok (l : List Int) (j : Int) (q : Int) (b : Bool) : ∃ t, partsynccase_Case_Text.j0 71 ⟨#[]⟩ q b l j = some (t, j) ∧ t.size ≤ 64 := by
  simp only [partsynccase_Case_Text.j0]
  split
  · exact ⟨_, rfl, by decide⟩
  · split
    · exact partsynccase_Case_Text.j1_ok _ _ _ _
    · exact partsynccase_Case_Text.j1_ok _ _ _ _
theorem partsynccase_Case_Text.ok {l : List Int} {i : Int} (h : StOk l i) : ∃ t j, Ev (fun k => partsynccase_Case_Text.f k l i) (t, j) ∧ StOk l j ∧ t.size ≤ 64 := by
  obtain ⟨r, j, hf, hj, _⟩ := partsynccase_Case_Int.ok h 10 (by omega)
  have hm : ∀ k, LeO (partsynccase_Case_Text.f k l i) (partsynccase_Case_Text.f (k + 1) l i) := fun k => partsynccase_Case_Text.mono _ _ _
  have hx : ∃ t, partsynccase_Case_Text.f 71 l i = some (t, j) ∧ t.size ≤ 64 := by
    unfold partsynccase_Case_Text.f
    rw [hf, Option.bind_some]
    dsimp only
    split
    · exact partsynccase_Case_Text.j0_ok _ _ _ _
    · split
      · exact partsynccase_Case_Text.j0_ok _ _ _ _
      · exact partsynccase_Case_Text.j0_ok _ _ _ _
  obtain ⟨t, h1, h2⟩ := hx
  exact ⟨t, j, Ev.of hm h1, hj, h2⟩
theorem toListE : (⟨#[]⟩ : ByteArray).toList = [] := by rw [Go.Lib.toList_data]
theorem partsynccase_Case_Any.ok {l : List Int} {i : Int} (h : StOk l i) : ∃ a b c j, Ev (fun k => partsynccase_Case_Any.f k l i) (a, b, c, j) ∧ StOk l j ∧ validV a b c = true ∧ -9223372036854775808 ≤ b ∧ b ≤ 9223372036854775807 := by
  obtain ⟨r, j, hf, hj, h0, _, h2⟩ := partsynccase_Case_Int.ok h 5 (by omega)
  have h2 := h2 (by omega)
  have e : wrap64 (1 + r) = 1 + r := by unfold wrap64; omega
  unfold partsynccase_Case_Any.f
  rw [hf]
  simp only [Option.bind_some, e]
  by_cases c1 : 1 + r < 3
  · simp only [if_pos c1]
    refine ⟨_, _, _, _, Ev.now _, hj, ?_, by omega, by omega⟩
    have : 1 + r = 1 ∨ 1 + r = 2 := by omega
    unfold validV
    rw [if_pos this, toListE]
    decide
  · simp only [if_neg c1]
    unfold partsynccase_Case_Value.f
    by_cases c3 : 1 + r = 3
    · simp only [if_pos c3]
      obtain ⟨r2, j2, hf2, hj2, h20, _, h22⟩ := partsynccase_Case_Int.ok hj 2 (by omega)
      have h22 := h22 (by omega)
      rw [hf2]
      simp only [Option.bind_some]
      refine ⟨_, _, _, _, Ev.now _, hj2, ?_, by omega, by omega⟩
      rw [c3]
      have : r2 = 0 ∨ r2 = 1 := by omega
      rcases this with rfl | rfl <;> simp [validV, toListE]
    · simp only [if_neg c3]
      by_cases c4 : 1 + r = 4
      · simp only [if_pos c4]
        obtain ⟨r2, j2, hf2, hj2, h20, h21⟩ := partsynccase_Case_Number.ok hj
        rw [hf2]
        simp only [Option.bind_some]
        refine ⟨_, _, _, _, Ev.now _, hj2, ?_, h20, h21⟩
        rw [c4]
        simp [validV, toListE]
      · simp only [if_neg c4]
        obtain ⟨t, j2, hev, hj2, ht⟩ := partsynccase_Case_Text.ok hj
        refine ⟨5, 0, t, j2, ?_, hj2, ?_, by omega, by omega⟩
        · refine Ev.bind (f := fun _ (bt118 : Int × Int × ByteArray × Int) => some (bt118.1, bt118.2.1, bt118.2.2.1, bt118.2.2.2)) (a := ((5 : Int), (0 : Int), t, j2)) (r := (5, 0, t, j2)) ?_ ⟨0, fun _ _ => rfl⟩
          exact Ev.bind (f := fun _ (bt113 : ByteArray × Int) => some ((5 : Int), (0 : Int), bt113.1, bt113.2)) (r := (5, 0, t, j2)) hev ⟨0, fun _ _ => rfl⟩
        · unfold validV
          simp
          omega
theorem partsynccase_New.ok {l : List Int} (h : ∀ x ∈ l, 0 ≤ x ∧ x ≤ 255) (n : Int) (h0 : 0 ≤ n) (h1 : n ≤ 4096) : partsynccase_New.f l n = some (l.take n.toNat, 0) ∧ StOk (l.take n.toNat) 0 := by
  unfold partsynccase_New.f
  rw [if_pos h0, if_pos h1]
  exact ⟨rfl, fun x hx => h x (List.mem_of_mem_take hx), by rw [List.length_take]; omega, by omega, by omega⟩
theorem rd_T65_nat (x : List S65) (i : Nat) (h : i < x.length) : rd_T65 x (i : Int) = x[i] := by
  unfold rd_T65
  rw [List.getD_eq_getElem?_getD, Int.toNat_natCast, List.getElem?_eq_getElem h]
  rfl
def validS (x : S24) : Bool := validV x.f0 x.f1 x.f2
def oneI (x : S65) (v : S24) : Bool := decide (cmpV x.f0 v ≤ 0) && (x.f2 || decide (cmpV v x.f1 < 0))
def inI (l : List S65) (v : S24) : Bool := l.any fun x => oneI x v
theorem interval_contains.at_ (l : List S65) (hl : l.length < 4611686018427387904) (v : S24) : ∀ (m i : Nat), l.length - i = m → i ≤ l.length → Ev (fun k => interval_contains.l0 k l l.length i v.f0 v.f1 v.f2) (inI (l.drop i) v) := by
  intro m
  induction m with
  | zero =>
    intro i hm hi
    have : l.drop i = [] := List.drop_eq_nil_iff.2 (by omega)
    rw [this]
    exact Ev.step (f := fun _ => some false) (fun k => by rw [interval_contains.l0, if_neg (by omega)]) (Ev.now _)
  | succ m ih =>
    intro i hm hi
    have hil : i < l.length := by omega
    have hw : wrap64 ((i : Int) + 1) = ((i + 1 : Nat) : Int) := wrap64_succ (by omega)
    have hd : inI (l.drop i) v = (oneI l[i] v || inI (l.drop (i + 1)) v) := by rw [List.drop_eq_getElem_cons hil]; rfl
    have ih' := ih (i + 1) (by omega) (by omega)
    rw [hd]
    have hst : ∀ k, interval_contains.l0 (k + 1) l l.length i v.f0 v.f1 v.f2 = if cmpV l[i].f0 v ≤ 0 then (if l[i].f2 = true then some true else if cmpV v l[i].f1 < 0 then some true else interval_contains.l0 k l l.length ((i + 1 : Nat) : Int) v.f0 v.f1 v.f2) else interval_contains.l0 k l l.length ((i + 1 : Nat) : Int) v.f0 v.f1 v.f2 := by
      intro k
      rw [interval_contains.l0, if_pos (by omega), if_pos (by omega), if_pos (by omega), rd_T65_nat l i hil, hw]
      simp only [value_Compare.some_, Option.bind_some]
    refine Ev.step hst ?_
    unfold oneI
    by_cases h1 : cmpV l[i].f0 v ≤ 0
    · by_cases h2 : l[i].f2 = true
      · simp only [h1, h2, if_true, decide_true, Bool.true_or, Bool.and_self]
        exact Ev.now _
      · have h2 := Bool.eq_false_iff.2 h2
        by_cases h3 : cmpV v l[i].f1 < 0
        · simp only [h1, h2, h3, if_true, decide_true, Bool.false_or, Bool.and_self, Bool.true_or, Bool.false_eq_true, if_false]
          exact Ev.now _
        · simp only [h1, h2, h3, if_true, decide_true, decide_false, Bool.false_or, Bool.and_false, Bool.false_eq_true, if_false]
          exact ih'
    · simp only [h1, if_false, decide_false, Bool.false_and, Bool.false_or]
      exact ih'
theorem interval_contains.ev (l : List S65) (hl : l.length < 4611686018427387904) (v : S24) : Ev (fun k => interval_contains.f k l v.f0 v.f1 v.f2) (inI l v) := by
  have := interval_contains.at_ l hl v l.length 0 rfl (Nat.zero_le _)
  exact this
theorem partsyncref03_In.same : ∀ (k : Nat) (l : List S65) (n i a b : Int) (c : ByteArray), partsyncref03_In.l0 k l n i a b c = interval_contains.l0 k l n i a b c
  | 0, _, _, _, _, _, _ => rfl
  | k + 1, l, n, i, a, b, c => by
    have e1 : ∀ x : S24, partsyncref01_Compare.f x.f0 x.f1 x.f2 a b c = value_Compare.f x.f0 x.f1 x.f2 a b c := fun x => (partsyncref01_Compare.some_ x ⟨a, b, c⟩).trans (value_Compare.some_ x ⟨a, b, c⟩).symm
    have e2 : ∀ x : S24, partsyncref01_Compare.f a b c x.f0 x.f1 x.f2 = value_Compare.f a b c x.f0 x.f1 x.f2 := fun x => (partsyncref01_Compare.some_ ⟨a, b, c⟩ x).trans (value_Compare.some_ ⟨a, b, c⟩ x).symm
    rw [partsyncref03_In.l0, interval_contains.l0]
    simp only [e1, e2, partsyncref03_In.same k]
theorem partsyncref03_In.ev (l : List S65) (hl : l.length < 4611686018427387904) (v : S24) : Ev (fun k => partsyncref03_In.f k l v.f0 v.f1 v.f2) (inI l v) := by
  have := interval_contains.ev l hl v
  refine Ev.congr (fun k => ?_) this
  unfold partsyncref03_In.f interval_contains.f
  exact partsyncref03_In.same _ _ _ _ _ _ _
def headOk (x : S65) (rest : List S65) : Bool := validS x.f0 && (if x.f2 = true then rest.isEmpty && (x.f1.f0 == 0 && (x.f1.f1 == 0 && (x.f1.f2.toList == ([] : List UInt8)))) else validS x.f1 && decide (cmpV x.f0 x.f1 < 0))
def gapOk (x : S65) : List S65 → Bool
  | [] => true
  | y :: _ => decide (cmpV x.f1 y.f0 < 0)
def ordI : List S65 → Bool
  | [] => true
  | x :: rest => headOk x rest && (if x.f2 = true then true else gapOk x rest) && ordI rest
end Go.Proofs.Ytpjcdacnhalclaa.Q
