/- A part of a proof: facts of functions that the law calls; conditions stand in each. -/
import Derived.Test.YtpjcdacnhalclaaM17x3
import Derived.Test.YtpjcdacnhalclaaM17x10
import Derived.Test.YtpjcdacnhalclaaM17x8
import Derived.Test.YtpjcdacnhalclaaM17x6
import Derived.Test.YtpjcdacnhalclaaM17x9
import Derived.Test.YtpjcdacnhalclaaM17x5
import Derived.Test.YtpjcdacnhalclaaM17x13
import Derived.Test.YtpjcdacnhalclaaM17x11
import Derived.Test.YtpjcdacnhalclaaM17x12
import Derived.Test.YtpjcdacnhalclaaM17x21
import Derived.Lib.Bytes
import Derived.Test.YtpjcdacnhalclaaM17x15
import Derived.Test.YtpjcdacnhalclaaM17x7
import Derived.Test.YtpjcdacnhalclaaM17x17
import Derived.Test.YtpjcdacnhalclaaM17x14
set_option linter.unusedVariables false
set_option linter.unusedSimpArgs false
namespace Go.Proofs.Ytpjcdacnhalclaa.Q
open Go.RowKit Go.Proofs.YtpjcdacnhalclaaW.PrintWords Go.Proofs.YtpjcdacnhalclaaW.PrintLast Go.Proofs.YtpjcdacnhalclaaW.PrintMore
attribute [local go_sem] max2_int min2_int max_two min_two max_three min_three max_four min_four
def i_Complement.f (k : Nat) (l0 : List (S65)) : Option ((List (S65)) × Int) := (i_combine.f k l0 ([] : List (S65)) kNot).bind fun bt558 => (some (bt558.1, bt558.2))
set_option maxHeartbeats 8000000 in
set_option maxRecDepth 100000 in
theorem i_Complement.calls (k : Nat) (A0 : Option Addr) (c0 : Nat) (l0 : List (S65)) (r1 : List (S65)) (r2 : Int) (w : World) (hr0 : Kd.C k65 w A0 l0.length l0) (hc0 : l0.length ≤ c0) (h : i_Complement.f k l0 = some (r1, r2)) :
  Calls Try.prog 33 #[.slice A0 l0.length c0] w fun e w' => ∃ v0_ : Value, e = .returned (.tuple #[v0_, .int .i64 r2]) ∧ Kd.R k65 65 w' w.heap.size (fun _ => True) v0_ r1 ∧ Below w.heap.size w w' := by
 have HR0 := Aside0.mk hr0
 have HC0 := Aside0.mk hc0
 clear hr0 hc0
 have HB := aK (Below.refl w.heap.size w)
 have H : ((i_combine.f k l0 ([] : List (S65)) kNot).bind fun bt558 => (some (bt558.1, bt558.2))) = some (r1, r2) := h
 clear h
 obtain ⟨⟨t558, t559⟩, A2, H⟩ := oB H
 try dsimp only at H
 simp only [Option.some.injEq, Prod.mk.injEq] at H
 obtain ⟨rfl, rfl⟩ := H
 go_enter Try.func33, Try.ntmps33
 go_wp2_with (first | ((with_reducible refine gate_callee (f := 77) rfl ?_); refine gL (some 5) rfl Try.func77 #[.slice A0 l0.length c0, .slice none 0 0, .func (.func 81) #[] #[]] rfl ?_; (refine (i_combine.calls k _ _ l0 _ _ ([] : List (S65)) kNot 81 keep81 t558 t559 _ ?side1 ?side2 ?side3 ?side4 A2.out).mono ?_); (case side1 => exact cX HR0.out); (case side2 => exact HC0.out); (case side3 => exact Kd.C_nil _ _); (case side4 => exact Nat.le_refl _); rintro e w3 ⟨v560, rfl, ho0, hb⟩; refine ⟨_, rfl, ?_⟩; have n0_ := aK (Kd.R_lower ho0 (below_size bO)); have n1_ := aK (below_step bO hb); clear HB; have HO561 := n0_; have HB := n1_; clear n0_ n1_; (try clear hb ho0)))
 go_ret2
 exact ⟨_, eW, rX HO561.out, bO⟩
def i_Covers.f (k : Nat) (l0 : List (S65)) (l1 : List (S65)) : Option (Bool × Int) := (i_Valid.f k l0).bind fun t562 => (if t562 = true then ((i_Valid.f k l1).bind fun t563 => (if t563 = true then ((i_merge.f k l0 l1 kCov).bind fun t564 => (some (((t564.length : Int) == 0), 0))) else (some (false, 30)))) else (some (false, 30)))
set_option maxHeartbeats 8000000 in
set_option maxRecDepth 100000 in
theorem i_Covers.calls (k : Nat) (A0 : Option Addr) (c0 : Nat) (l0 : List (S65)) (A1 : Option Addr) (c1 : Nat) (l1 : List (S65)) (r1 : Bool) (r2 : Int) (w : World) (hr0 : Kd.C k65 w A0 l0.length l0) (hc0 : l0.length ≤ c0) (hr1 : Kd.C k65 w A1 l1.length l1) (hc1 : l1.length ≤ c1) (h : i_Covers.f k l0 l1 = some (r1, r2)) :
  Calls Try.prog 34 #[.slice A0 l0.length c0, .slice A1 l1.length c1] w fun e w' => e = .returned (.tuple #[.bool r1, .int .i64 r2]) ∧ Below w.heap.size w w' := by
 have HR0 := Aside0.mk hr0
 have HC0 := Aside0.mk hc0
 clear hr0 hc0
 have HR1 := Aside0.mk hr1
 have HC1 := Aside0.mk hc1
 clear hr1 hc1
 have HB := aK (Below.refl w.heap.size w)
 have H : ((i_Valid.f k l0).bind fun t562 => (if t562 = true then ((i_Valid.f k l1).bind fun t563 => (if t563 = true then ((i_merge.f k l0 l1 kCov).bind fun t564 => (some (((t564.length : Int) == 0), 0))) else (some (false, 30)))) else (some (false, 30)))) = some (r1, r2) := h
 clear h
 obtain ⟨t562, A3, H⟩ := oB H
 try dsimp only at H
 by_cases c4 : t562 = true
 rotate_left
 ·replace c4 := Bool.eq_false_iff.mpr c4
  subst c4
  rw [if_neg (show ¬ (false = true) by decide)] at H
  simp only [Option.some.injEq, Prod.mk.injEq] at H
  obtain ⟨rfl, rfl⟩ := H
  go_enter Try.func34, Try.ntmps34
  go_wp2_with (first | ((with_reducible refine gate_callee (f := 37) rfl ?_); refine gL (some 7) rfl Try.func37 #[.slice A0 l0.length c0] rfl ?_; (with_reducible refine (i_Valid.calls k _ _ l0 false _ ?side1 ?side2 A3.out).mono ?_); (case side1 => exact cX HR0.out); (case side2 => exact HC0.out); rintro e w14 ⟨rfl, hb⟩; refine ⟨_, rfl, ?_⟩; have n0_ := aK (below_step bO hb); clear HB; have HB := n0_; clear n0_; (try clear hb)))
  go_ret2
  exact ⟨eW, bO⟩
 subst c4
 rw [if_pos rfl] at H
 obtain ⟨t563, A5, H⟩ := oB H
 try dsimp only at H
 by_cases c6 : t563 = true
 rotate_left
 ·replace c6 := Bool.eq_false_iff.mpr c6
  subst c6
  rw [if_neg (show ¬ (false = true) by decide)] at H
  simp only [Option.some.injEq, Prod.mk.injEq] at H
  obtain ⟨rfl, rfl⟩ := H
  go_enter Try.func34, Try.ntmps34
  go_wp2_with (first | ((with_reducible refine gate_callee (f := 37) rfl ?_); refine gL (some 7) rfl Try.func37 #[.slice A0 l0.length c0] rfl ?_; (with_reducible refine (i_Valid.calls k _ _ l0 true _ ?side1 ?side2 A3.out).mono ?_); (case side1 => exact cX HR0.out); (case side2 => exact HC0.out); rintro e w12 ⟨rfl, hb⟩; refine ⟨_, rfl, ?_⟩; have n0_ := aK (below_step bO hb); clear HB; have HB := n0_; clear n0_; (try clear hb)) | (go_at_call 37; (with_reducible refine (i_Valid.calls k _ _ l1 false _ ?side1 ?side2 A5.out).mono ?_); (case side1 => repeat (first | exact (Kd.C_below HR1.out HB.out) | (with_reducible refine Kd.C_alloc ?_ _) | (with_reducible refine Kd.C_drewN ?_ _) | (with_reducible refine Kd.C_drew ?_))); (case side2 => exact HC1.out); rintro e w13 ⟨rfl, hb⟩; have n0_ := aK (below_step bO hb); clear HB; have HB := n0_; clear n0_; (try clear hb)))
  go_ret2
  exact ⟨eW, bO⟩
 subst c6
 rw [if_pos rfl] at H
 obtain ⟨t564, A7, H⟩ := oB H
 try dsimp only at H
 simp only [Option.some.injEq, Prod.mk.injEq] at H
 obtain ⟨rfl, rfl⟩ := H
 go_enter Try.func34, Try.ntmps34
 go_wp2_with (first | ((with_reducible refine gate_callee (f := 37) rfl ?_); refine gL (some 7) rfl Try.func37 #[.slice A0 l0.length c0] rfl ?_; (with_reducible refine (i_Valid.calls k _ _ l0 true _ ?side1 ?side2 A3.out).mono ?_); (case side1 => exact cX HR0.out); (case side2 => exact HC0.out); rintro e w8 ⟨rfl, hb⟩; refine ⟨_, rfl, ?_⟩; have n0_ := aK (below_step bO hb); clear HB; have HB := n0_; clear n0_; (try clear hb)) | (go_at_call 37; (with_reducible refine (i_Valid.calls k _ _ l1 true _ ?side1 ?side2 A5.out).mono ?_); (case side1 => repeat (first | exact (Kd.C_below HR1.out HB.out) | (with_reducible refine Kd.C_alloc ?_ _) | (with_reducible refine Kd.C_drewN ?_ _) | (with_reducible refine Kd.C_drew ?_))); (case side2 => exact HC1.out); rintro e w9 ⟨rfl, hb⟩; have n0_ := aK (below_step bO hb); clear HB; have HB := n0_; clear n0_; (try clear hb)) | ((with_reducible refine gate_callee (f := 82) rfl ?_); refine gL (some 16) rfl Try.func82 #[.slice A0 l0.length c0, .slice A1 l1.length c1, .func (.func 83) #[] #[]] rfl ?_; (with_reducible refine (i_merge.calls k (fun k_ => k_ < w.heap.size) _ _ l0 (fun k_ => k_ < w.heap.size) _ _ l1 kCov 83 keep83 t564 _ ?side1 ?side2 A7.out).mono ?_); (case side1 => exact Kd.V_mk HC0.out (Kd.F_below (Kd.C_F k65_heap HR0.out) bO)); (case side2 => exact Kd.V_mk HC1.out (Kd.F_below (Kd.C_F k65_heap HR1.out) bO)); rintro e w10 ⟨v565, rfl, ho0, hb⟩; refine ⟨_, rfl, ?_⟩; have n0_ := aK (Kd.R_lower (Kd.R_mono (ok' := fun k_ => True) ho0 (fun _ hk_ => trivial)) (below_size bO)); have n1_ := aK (below_step bO hb); clear HB; have HO566 := n0_; have HB := n1_; clear n0_ n1_; (try clear hb ho0); obtain ⟨Ao11, co11, eo11⟩ := Kd.R_slice HO566.out; subst eo11))
 go_ret2
 exact ⟨eW, bO⟩
theorem eqA65 (d : Nat) (w : World) (x0 y0 : Int) (x1 y1 : Int) (x2 y2 : ByteArray) (x3 y3 : Int) (x4 y4 : Int) (x5 y5 : ByteArray) (x6 y6 : Bool) :
  (Op.equalIn (d + 3) 65 (.agg #[.int .i64 x0, .int .i64 x1, .string x2, .int .i64 x3, .int .i64 x4, .string x5, .bool x6]) (.agg #[.int .i64 y0, .int .i64 y1, .string y2, .int .i64 y3, .int .i64 y4, .string y5, .bool y6])).run Try.prog w = .ok ((x0 == y0 && (x1 == y1 && (x2.toList == y2.toList))) && ((x3 == y3 && (x4 == y4 && (x5.toList == y5.toList))) && (x6 == y6))) w := by
 refine eqA_of Try.underlying65 (by kernel_rfl) ?_
 refine eqf_cons (by rfl) (by go_simp) (by go_simp) (eqA24 (d + 0) w _ _ _ _ _ _) ?_
 refine eqf_cons (by rfl) (by go_simp) (by go_simp) (eqA24 (d + 0) w _ _ _ _ _ _) ?_
 exact eqf_last (by rfl) (by go_simp; rfl) (by go_simp; rfl) (by go_simp)
end Go.Proofs.Ytpjcdacnhalclaa.Q
namespace Go.Proofs.Ytpjcdacnhalclaa.Q
open Go.RowKit Go.Proofs.YtpjcdacnhalclaaW.PrintWords Go.Proofs.YtpjcdacnhalclaaW.PrintLast Go.Proofs.YtpjcdacnhalclaaW.PrintMore
attribute [local go_sem] max2_int min2_int max_two min_two max_three min_three max_four min_four
attribute [local go_sem high] eqA65
def r3_Same.l0 : Nat → List (S65) → List (S65) → Int → Int → Option (Bool)
 | 0, _, _, _, _ => none
 | k + 1, x0, x1, x12, x13 => if x13 < x12 then (if 0 ≤ x13 then (if x13 < (x0.length : Int) then (if x13 < (x1.length : Int) then (if ((!(((rd_T65 x0 x13).f0.f0) == ((rd_T65 x1 x13).f0.f0)) || (!(((rd_T65 x0 x13).f0.f1) == ((rd_T65 x1 x13).f0.f1)) || (!((((rd_T65 x0 x13).f0.f2).toList) == (((rd_T65 x1 x13).f0.f2).toList))))) || ((!(((rd_T65 x0 x13).f1.f0) == ((rd_T65 x1 x13).f1.f0)) || (!(((rd_T65 x0 x13).f1.f1) == ((rd_T65 x1 x13).f1.f1)) || (!((((rd_T65 x0 x13).f1.f2).toList) == (((rd_T65 x1 x13).f1.f2).toList))))) || (!(((rd_T65 x0 x13).f2) == ((rd_T65 x1 x13).f2))))) = true then (some false) else (r3_Same.l0 k x0 x1 x12 (wrap64 (x13 + 1)))) else (none)) else (none)) else (none)) else (some true)
def r3_Same.f (k : Nat) (l0 : List (S65)) (l1 : List (S65)) : Option (Bool) := if (l0.length : Int) = (l1.length : Int) then (r3_Same.l0 k l0 l1 (l0.length : Int) 0) else (some false)
set_option maxHeartbeats 8000000 in
set_option maxRecDepth 100000 in
theorem r3_Same.calls (k : Nat) (A0 : Option Addr) (c0 : Nat) (l0 : List (S65)) (A1 : Option Addr) (c1 : Nat) (l1 : List (S65)) (r : Bool) (w : World) (hr0 : Kd.C k65 w A0 l0.length l0) (hc0 : l0.length ≤ c0) (hr1 : Kd.C k65 w A1 l1.length l1) (hc1 : l1.length ≤ c1) (h : r3_Same.f k l0 l1 = some r) :
  Calls Try.prog 40 #[.slice A0 l0.length c0, .slice A1 l1.length c1] w fun e w' => e = .returned (.bool r) ∧ Drawn0 w w' := by
 have hu65 := Try.underlying65
 have HR0 := Aside0.mk hr0
 have HC0 := Aside0.mk hc0
 clear hr0 hc0
 have HR1 := Aside0.mk hr1
 have HC1 := Aside0.mk hc1
 clear hr1 hc1
 have H : (if (l0.length : Int) = (l1.length : Int) then (r3_Same.l0 k l0 l1 (l0.length : Int) 0) else (some false)) = some r := h
 clear h
 by_cases c3 : (l0.length : Int) = (l1.length : Int)
 rotate_left
 ·rw [if_neg c3] at H
  have c3b0 : ((l0.length : Int) == (l1.length : Int)) = false := beq_eq_false_iff_ne.mpr c3
  have c3b1 : ((l0.length : Int) != (l1.length : Int)) = true := bne_iff_ne.mpr c3
  have c3b2 : (l0.length == l1.length) = false := by first | simpa using c3 | (simp at c3 ⊢; omega)
  obtain rfl := Option.some.inj H
  go_enter Try.func40, Try.ntmps40
  go_wp2
  repeat (go_quiet (fail); try go_wp2)
  go_ret
  exact ⟨by first | rfl | (simp; done) | (simp [*]; done), by repeat (first | exact Drawn0.refl _ | apply Drawn0.step)⟩
 rw [if_pos c3] at H
 have c3b0 : ((l0.length : Int) == (l1.length : Int)) = true := beq_iff_eq.mpr c3
 have c3b1 : ((l0.length : Int) != (l1.length : Int)) = false := bne_eq_false_iff_eq.mpr c3
 have c3b2 : (l0.length == l1.length) = true := by first | simpa using c3 | (simp at c3 ⊢; omega)
 clear c3
 have H' := Aside0.mk H
 clear H
 go_enter Try.func40, Try.ntmps40
 go_wp2
 repeat (go_quiet (fail); try go_wp2)
 go_loopg [13] k (fun kq v13 w' => ∃ (x13_1 : Int), v13 = .int .i64 x13_1 ∧ Aside0 (r3_Same.l0 kq l0 l1 (l0.length : Int) x13_1 = some r) ∧ Aside0 (kq ≤ k) ∧ Drawn0 w w')
 case atStart => exact ⟨(0), (by first | rfl | (simp; done) | (simp [*]; done)), H', ⟨Nat.le_refl _⟩, by repeat (first | exact Drawn0.refl _ | apply Drawn0.step)⟩
 case round =>
  clear H'
  try clear c1
  try clear p2
  try clear c3
  try clear c3b0
  try clear c3b1
  try clear c3b2
  obtain ⟨x13_1, rfl, HA, HK1, ⟨m1, rfl⟩⟩ := hrel
  cases gk with
  | zero => exact absurd HA.out (by simp [r3_Same.l0])
  | succ k1 =>
   have H := HA.out
   clear HA
   simp only [r3_Same.l0] at H
   by_cases c4 : x13_1 < (l0.length : Int)
   rotate_left
   ·rw [if_neg c4] at H
    have c4b0 : decide (x13_1 < (l0.length : Int)) = false := decide_eq_false c4
    clear c4
    obtain rfl := Option.some.inj H
    go_wp2
    repeat (go_quiet (fail); try go_wp2)
    go_ret
    exact ⟨by first | rfl | (simp; done) | (simp [*]; done), by repeat (first | exact Drawn0.refl _ | apply Drawn0.step)⟩
   rw [if_pos c4] at H
   have c4b0 : decide (x13_1 < (l0.length : Int)) = true := decide_eq_true c4
   clear c4
   by_cases c5 : 0 ≤ x13_1
   rotate_left
   ·rw [if_neg c5] at H
    exact absurd H (by simp)
   rw [if_pos c5] at H
   have c5b0 : decide (0 ≤ x13_1) = true := decide_eq_true c5
   clear c5
   by_cases c6 : x13_1 < (l0.length : Int)
   rotate_left
   ·rw [if_neg c6] at H
    exact absurd H (by simp)
   rw [if_pos c6] at H
   have c6b0 : decide (x13_1 < (l0.length : Int)) = true := decide_eq_true c6
   clear c6
   by_cases c7 : x13_1 < (l1.length : Int)
   rotate_left
   ·rw [if_neg c7] at H
    exact absurd H (by simp)
   rw [if_pos c7] at H
   have c7b0 : decide (x13_1 < (l1.length : Int)) = true := decide_eq_true c7
   clear c7
   by_cases c8 : ((!(((rd_T65 l0 x13_1).f0.f0) == ((rd_T65 l1 x13_1).f0.f0)) || (!(((rd_T65 l0 x13_1).f0.f1) == ((rd_T65 l1 x13_1).f0.f1)) || (!((((rd_T65 l0 x13_1).f0.f2).toList) == (((rd_T65 l1 x13_1).f0.f2).toList))))) || ((!(((rd_T65 l0 x13_1).f1.f0) == ((rd_T65 l1 x13_1).f1.f0)) || (!(((rd_T65 l0 x13_1).f1.f1) == ((rd_T65 l1 x13_1).f1.f1)) || (!((((rd_T65 l0 x13_1).f1.f2).toList) == (((rd_T65 l1 x13_1).f1.f2).toList))))) || (!(((rd_T65 l0 x13_1).f2) == ((rd_T65 l1 x13_1).f2))))) = true
   rotate_left
   ·rw [if_neg c8] at H
    have c8b0 : ((!(((rd_T65 l0 x13_1).f0.f0) == ((rd_T65 l1 x13_1).f0.f0)) || (!(((rd_T65 l0 x13_1).f0.f1) == ((rd_T65 l1 x13_1).f0.f1)) || (!((((rd_T65 l0 x13_1).f0.f2).toList) == (((rd_T65 l1 x13_1).f0.f2).toList))))) || ((!(((rd_T65 l0 x13_1).f1.f0) == ((rd_T65 l1 x13_1).f1.f0)) || (!(((rd_T65 l0 x13_1).f1.f1) == ((rd_T65 l1 x13_1).f1.f1)) || (!((((rd_T65 l0 x13_1).f1.f2).toList) == (((rd_T65 l1 x13_1).f1.f2).toList))))) || (!(((rd_T65 l0 x13_1).f2) == ((rd_T65 l1 x13_1).f2))))) = false := by simpa using c8
    clear c8
    have H' := Aside0.mk H
    clear H
    have p674 : 0 ≤ (x13_1 : Int) := of_decide_eq_true (aA)
    have q674 : x13_1 < (l0.length : Int) := of_decide_eq_true (aA)
    obtain ⟨ad674, e674, hx674_0, hx674_1, hx674_2, hx674_3, hx674_4, hx674_5, hx674_6⟩ := at_T65 HR0.out x13_1 p674 q674
    cases e674
    replace p674 := eq_true p674
    replace q674 := eq_true q674
    have p675 : 0 ≤ (x13_1 : Int) := of_decide_eq_true (aA)
    have q675 : x13_1 < (l1.length : Int) := of_decide_eq_true (aA)
    obtain ⟨ad675, e675, hx675_0, hx675_1, hx675_2, hx675_3, hx675_4, hx675_5, hx675_6⟩ := at_T65 HR1.out x13_1 p675 q675
    cases e675
    replace p675 := eq_true p675
    replace q675 := eq_true q675
    go_wp2
    repeat (go_quiet (fail); try go_wp2)
    go_roundg k1
    case measure => have := HK1.out; omega
    case rel => exact ⟨(wrap64 (x13_1 + 1)), (by first | rfl | (simp; done) | (simp [*]; done)), H', ⟨by have := HK1.out; omega⟩, by repeat (first | exact Drawn0.refl _ | apply Drawn0.step)⟩
   rw [if_pos c8] at H
   have c8b0 : ((!(((rd_T65 l0 x13_1).f0.f0) == ((rd_T65 l1 x13_1).f0.f0)) || (!(((rd_T65 l0 x13_1).f0.f1) == ((rd_T65 l1 x13_1).f0.f1)) || (!((((rd_T65 l0 x13_1).f0.f2).toList) == (((rd_T65 l1 x13_1).f0.f2).toList))))) || ((!(((rd_T65 l0 x13_1).f1.f0) == ((rd_T65 l1 x13_1).f1.f0)) || (!(((rd_T65 l0 x13_1).f1.f1) == ((rd_T65 l1 x13_1).f1.f1)) || (!((((rd_T65 l0 x13_1).f1.f2).toList) == (((rd_T65 l1 x13_1).f1.f2).toList))))) || (!(((rd_T65 l0 x13_1).f2) == ((rd_T65 l1 x13_1).f2))))) = true := c8
   clear c8
   obtain rfl := Option.some.inj H
   have p674 : 0 ≤ (x13_1 : Int) := of_decide_eq_true (aA)
   have q674 : x13_1 < (l0.length : Int) := of_decide_eq_true (aA)
   obtain ⟨ad674, e674, hx674_0, hx674_1, hx674_2, hx674_3, hx674_4, hx674_5, hx674_6⟩ := at_T65 HR0.out x13_1 p674 q674
   cases e674
   replace p674 := eq_true p674
   replace q674 := eq_true q674
   have p675 : 0 ≤ (x13_1 : Int) := of_decide_eq_true (aA)
   have q675 : x13_1 < (l1.length : Int) := of_decide_eq_true (aA)
   obtain ⟨ad675, e675, hx675_0, hx675_1, hx675_2, hx675_3, hx675_4, hx675_5, hx675_6⟩ := at_T65 HR1.out x13_1 p675 q675
   cases e675
   replace p675 := eq_true p675
   replace q675 := eq_true q675
   go_wp2
   repeat (go_quiet (fail); try go_wp2)
   go_ret
   exact ⟨by first | rfl | (simp; done) | (simp [*]; done), by repeat (first | exact Drawn0.refl _ | apply Drawn0.step)⟩
end Go.Proofs.Ytpjcdacnhalclaa.Q
namespace Go.Proofs.Ytpjcdacnhalclaa.Q
open Go.RowKit Go.Proofs.YtpjcdacnhalclaaW.PrintWords Go.Proofs.YtpjcdacnhalclaaW.PrintLast Go.Proofs.YtpjcdacnhalclaaW.PrintMore
attribute [local go_sem] max2_int min2_int max_two min_two max_three min_three max_four min_four
def v_First.j0 : Nat → Int → Int → Bool → Option (Int × Int × ByteArray × Bool)
 | 0, _, _, _ => none
 | k + 1, x0, x4, x5 => if x5 = true then (some (x0, 0, (⟨#[]⟩ : ByteArray), true)) else (if x4 = 4 then (some (x0, (-9223372036854775808), (⟨#[]⟩ : ByteArray), true)) else (some (0, 0, (⟨#[]⟩ : ByteArray), false)))
def v_First.f (k : Nat) (a0 : Int) : Option (Int × Int × ByteArray × Bool) := if a0 = 1 then (v_First.j0 k a0 a0 (a0 == 1)) else (if a0 = 2 then (v_First.j0 k a0 a0 (a0 == 2)) else (if a0 = 3 then (v_First.j0 k a0 a0 (a0 == 3)) else (v_First.j0 k a0 a0 (a0 == 5))))
theorem v_First.mono_l : ∀ k, (∀ y0 y1 y2, LeO (v_First.j0 k y0 y1 y2) (v_First.j0 (k + 1) y0 y1 y2))
 | 0 => fun _ _ _ r h => by simp [v_First.j0] at h
 | k + 1 => by
  have ih0 := v_First.mono_l k
  ·intro y0 y1 y2
   unfold v_First.j0
   repeat' first
   | (with_reducible exact ih0 _ _ _)
   | (with_reducible exact LeO.refl _)
   | (with_reducible exact LeO.none _)
   | (with_reducible refine LeO.ite ?_ ?_)
   | (with_reducible refine LeO.bind ?_ (fun _ => ?_))
   | exact ih0 _ _ _
   | exact LeO.none _
   | refine LeO.ite ?_ ?_
   | refine LeO.bind ?_ (fun _ => ?_)
theorem v_First.mono : ∀ a0 k, LeO (v_First.f k a0) (v_First.f (k + 1) a0) := by
 intro a0 k
 have ih0 := v_First.mono_l k
 unfold v_First.f
 repeat' first
   | (with_reducible exact ih0 _ _ _)
   | (with_reducible exact LeO.refl _)
   | (with_reducible exact LeO.none _)
   | (with_reducible refine LeO.ite ?_ ?_)
   | (with_reducible refine LeO.bind ?_ (fun _ => ?_))
   | exact ih0 _ _ _
   | exact LeO.none _
   | refine LeO.ite ?_ ?_
   | refine LeO.bind ?_ (fun _ => ?_)
def v_Next.l0 : Nat → Int → Int → Int → ByteArray → Option (Int × Int × ByteArray × Bool)
 | 0, _, _, _, _ => none
 | k + 1, x4, x127000, x127001, x127002 => if x4 > 0 then (if 0 ≤ (wrap64 (x4 - 1)) then (if (wrap64 (x4 - 1)) < (x127002.size : Int) then (if (bt x127002 (wrap64 (x4 - 1))) = 255 then (v_Next.l0 k (wrap64 (x4 - 1)) x127000 x127001 x127002) else (if x4 = 0 then (some (0, 0, (⟨#[]⟩ : ByteArray), false)) else (if (wrap64 (x4 - 1)) ≤ (x127002.size : Int) then ((some (([((bt x127002 (wrap64 (x4 - 1))) + 1) % 256] : List Int) : List Int)).bind fun y145 => (if (x127002.extract 0 ((wrap64 (x4 - 1)) : Int).toNat).size + (strOfNums y145).size ≤ 9223372036854775807 then (some (5, 0, (x127002.extract 0 ((wrap64 (x4 - 1)) : Int).toNat) ++ (strOfNums y145), true)) else (none))) else (none)))) else (none)) else (none)) else (if x4 = 0 then (some (0, 0, (⟨#[]⟩ : ByteArray), false)) else (if 0 ≤ (wrap64 (x4 - 1)) then (if (wrap64 (x4 - 1)) ≤ (x127002.size : Int) then (if (wrap64 (x4 - 1)) < (x127002.size : Int) then ((some (([((bt x127002 (wrap64 (x4 - 1))) + 1) % 256] : List Int) : List Int)).bind fun y148 => (if (x127002.extract 0 ((wrap64 (x4 - 1)) : Int).toNat).size + (strOfNums y148).size ≤ 9223372036854775807 then (some (5, 0, (x127002.extract 0 ((wrap64 (x4 - 1)) : Int).toNat) ++ (strOfNums y148), true)) else (none))) else (none)) else (none)) else (none)))
def v_Next.f (k : Nat) (a0_0 : Int) (a0_1 : Int) (a0_2 : ByteArray) : Option (Int × Int × ByteArray × Bool) := (v_Valid.f k a0_0 a0_1 a0_2).bind fun t128 => (if t128 = true then (if a0_0 = 1 then ((v_First.f k 2).bind fun bt129 => (some (bt129.1, bt129.2.1, bt129.2.2.1, bt129.2.2.2))) else (if a0_0 = 2 then ((v_First.f k 3).bind fun bt133 => (some (bt133.1, bt133.2.1, bt133.2.2.1, bt133.2.2.2))) else (if a0_0 = 3 then (if a0_1 = 0 then (some (3, 1, (⟨#[]⟩ : ByteArray), true)) else ((v_First.f k 4).bind fun bt137 => (some (bt137.1, bt137.2.1, bt137.2.2.1, bt137.2.2.2)))) else (if a0_0 = 4 then (if a0_1 = 9223372036854775807 then ((v_First.f k 5).bind fun bt141 => (some (bt141.1, bt141.2.1, bt141.2.2.1, bt141.2.2.2))) else (some (4, wrap64 (a0_1 + 1), (⟨#[]⟩ : ByteArray), true))) else (if (a0_2.size : Int) < 64 then (if a0_2.size + 1 ≤ 9223372036854775807 then (some (5, 0, a0_2 ++ (⟨#[0]⟩ : ByteArray), true)) else (none)) else (v_Next.l0 k (a0_2.size : Int) a0_0 a0_1 a0_2)))))) else (some (0, 0, (⟨#[]⟩ : ByteArray), false)))
theorem v_Next.mono_l : ∀ k, (∀ y0 y1 y2 y3, LeO (v_Next.l0 k y0 y1 y2 y3) (v_Next.l0 (k + 1) y0 y1 y2 y3))
 | 0 => fun _ _ _ _ r h => by simp [v_Next.l0] at h
 | k + 1 => by
  have ih0 := v_Next.mono_l k
  ·intro y0 y1 y2 y3
   unfold v_Next.l0
   repeat' first
   | (with_reducible exact ih0 _ _ _ _)
   | (with_reducible exact v_First.mono _ _)
   | (with_reducible exact v_Valid.mono _ _ _ _)
   | (with_reducible exact LeO.refl _)
   | (with_reducible exact LeO.none _)
   | (with_reducible refine LeO.ite ?_ ?_)
   | (with_reducible refine LeO.bind ?_ (fun _ => ?_))
   | exact ih0 _ _ _ _
   | exact v_First.mono _ _
   | exact v_Valid.mono _ _ _ _
   | exact LeO.none _
   | refine LeO.ite ?_ ?_
   | refine LeO.bind ?_ (fun _ => ?_)
def i_One.f (k : Nat) (a0_0 : Int) (a0_1 : Int) (a0_2 : ByteArray) : Option ((List (S65)) × Int) := (v_Valid.f k a0_0 a0_1 a0_2).bind fun t677 => (if t677 = true then ((v_Next.f k a0_0 a0_1 a0_2).bind fun bt678 => (if bt678.2.2.2 = true then (some ((([(⟨(⟨a0_0, a0_1, a0_2⟩ : S24), (⟨bt678.1, bt678.2.1, bt678.2.2.1⟩ : S24), false⟩ : S65)] : List (S65))), 0)) else (some ((([(⟨(⟨a0_0, a0_1, a0_2⟩ : S24), (⟨0, 0, (⟨#[]⟩ : ByteArray)⟩ : S24), true⟩ : S65)] : List (S65))), 0)))) else (some (([] : List (S65)), 10)))
end Go.Proofs.Ytpjcdacnhalclaa.Q
namespace Go.Proofs.Ytpjcdacnhalclaa.Q
open Go.RowKit Go.Proofs.YtpjcdacnhalclaaW.PrintWords Go.Proofs.YtpjcdacnhalclaaW.PrintLast Go.Proofs.YtpjcdacnhalclaaW.PrintMore
attribute [local go_sem] max2_int min2_int max_two min_two max_three min_three max_four min_four
def validV (a b : Int) (c : ByteArray) : Bool := if a = 1 ∨ a = 2 then (b == 0 && (c.toList == ([] : List UInt8))) else if a = 3 then ((b == 0 || b == 1) && (c.toList == ([] : List UInt8))) else if a = 4 then (c.toList == ([] : List UInt8)) else if a = 5 then (b == 0 && decide ((c.size : Int) ≤ 64)) else false
theorem v_Valid.some_ (k : Nat) (a b : Int) (c : ByteArray) : v_Valid.f (k + 1) a b c = some (validV a b c) := by
 unfold v_Valid.f validV
 by_cases h1 : a = 1
 ·subst h1; simp [v_Valid.j0]
 ·rw [if_neg h1]
  by_cases h2 : a = 2
  ·subst h2; simp [v_Valid.j0]
  ·have h2b : (a == 2) = false := beq_eq_false_iff_ne.2 h2
   simp only [v_Valid.j0, h2b, h1, h2, or_self, if_false]
   by_cases h3 : a = 3
   ·subst h3
    by_cases hb : b = 0
    ·simp [hb]
    ·by_cases hb1 : b = 1
     ·simp [hb1]
     ·simp [hb, hb1]
   ·by_cases h4 : a = 4
    ·subst h4; simp
    ·by_cases h5 : a = 5
     ·subst h5
      by_cases hb : b = 0
      ·simp [hb]
      ·simp [hb]
     ·simp [h3, h4, h5]
theorem r1_Valid.some_ (k : Nat) (a b : Int) (c : ByteArray) : r1_Valid.f (k + 1) a b c = some (validV a b c) := by
 unfold r1_Valid.f validV
 by_cases h1 : a = 1
 ·subst h1
  by_cases hb : b = 0
  ·simp [r1_Valid.j0, hb]
  ·simp [r1_Valid.j0, hb]
 ·rw [if_neg h1]
  by_cases h2 : a = 2
  ·subst h2
   by_cases hb : b = 0
   ·simp [r1_Valid.j0, hb]
   ·simp [r1_Valid.j0, hb]
  ·have h2b : (a == 2) = false := beq_eq_false_iff_ne.2 h2
   simp only [r1_Valid.j0, h2b, h1, h2, or_self, if_false]
   by_cases h3 : a = 3
   ·subst h3
    by_cases hb : b = 0
    ·simp [hb]
    ·by_cases hb1 : b = 1
     ·simp [hb1]
     ·simp [hb, hb1]
   ·by_cases h4 : a = 4
    ·subst h4; simp
    ·by_cases h5 : a = 5
     ·subst h5
      by_cases hb : b = 0
      ·simp [hb]
      ·simp [hb]
     ·simp [h3, h4, h5]
theorem ev_of_succ {α : Type} {g : Nat → Option α} {r : α} (h : ∀ k, g (k + 1) = some r) : Ev g r := ⟨1, fun k hk => by obtain ⟨j, rfl⟩ : ∃ j, k = j + 1 := ⟨k - 1, by omega⟩; exact h j⟩
theorem v_Valid.ev (a b : Int) (c : ByteArray) : Ev (fun k => v_Valid.f k a b c) (validV a b c) := ev_of_succ fun k => v_Valid.some_ k a b c
theorem r1_Valid.ev (a b : Int) (c : ByteArray) : Ev (fun k => r1_Valid.f k a b c) (validV a b c) := ev_of_succ fun k => r1_Valid.some_ k a b c
def firstV (a : Int) : Int × Int × ByteArray × Bool := if a = 1 ∨ a = 2 ∨ a = 3 ∨ a = 5 then (a, 0, ⟨#[]⟩, true) else if a = 4 then (a, -9223372036854775808, ⟨#[]⟩, true) else (0, 0, ⟨#[]⟩, false)
theorem v_First.some_ (k : Nat) (a : Int) : v_First.f (k + 1) a = some (firstV a) := by
 unfold v_First.f firstV
 by_cases h1 : a = 1
 ·subst h1; simp [v_First.j0]
 ·by_cases h2 : a = 2
  ·subst h2; simp [v_First.j0]
  ·by_cases h3 : a = 3
   ·subst h3; simp [v_First.j0]
   ·by_cases h5 : a = 5
    ·subst h5; simp [v_First.j0]
    ·have h5b : (a == 5) = false := beq_eq_false_iff_ne.2 h5
     by_cases h4 : a = 4
     ·subst h4; simp [v_First.j0]
     ·simp [v_First.j0, h1, h2, h3, h4, h5, h5b]
theorem v_First.ev (a : Int) : Ev (fun k => v_First.f k a) (firstV a) := ev_of_succ fun k => v_First.some_ k a
structure StOk (l : List Int) (i : Int) : Prop where
 byte : ∀ x ∈ l, 0 ≤ x ∧ x ≤ 255
 len : l.length ≤ 4096
 lo : 0 ≤ i
 hi : i ≤ l.length
theorem rd_byte {l : List Int} (h : ∀ x ∈ l, 0 ≤ x ∧ x ≤ 255) (i : Int) : 0 ≤ rd l i ∧ rd l i ≤ 255 := by
 unfold rd
 rw [List.getD_eq_getElem?_getD]
 cases he : l[i.toNat]? with
 | none => simp
 | some x => exact h x (List.mem_of_getElem? he)
theorem cc_Int.ok {l : List Int} {i : Int} (h : StOk l i) (n : Int) (hn : n ≤ 4096) : ∃ r j, cc_Int.f l i n = some (r, j) ∧ StOk l j ∧ 0 ≤ r ∧ r ≤ 4096 ∧ (1 ≤ n → r < n) := by
 obtain ⟨hb, hl, h0, h1⟩ := h
 unfold cc_Int.f
 by_cases c1 : i ≥ (l.length : Int)
 ·rw [if_pos c1]; exact ⟨0, i, rfl, ⟨hb, hl, h0, h1⟩, by omega, by omega, by omega⟩
 ·rw [if_neg c1]
  by_cases c2 : n < 1
  ·rw [if_pos c2]; exact ⟨0, i, rfl, ⟨hb, hl, h0, h1⟩, by omega, by omega, by omega⟩
  ·rw [if_neg c2]
   have e1 : wrap64 (i + 1) = i + 1 := by unfold wrap64; omega
   have e2 : wrap64 (i + 1 - 1) = i := by unfold wrap64; omega
   obtain ⟨b0, b1⟩ := rd_byte hb i
   have e3 : wrap64 (rd l i) = rd l i := by unfold wrap64; omega
   rw [e1, e2, if_pos h0, if_pos (by omega), if_neg (by omega), e3]
   have e4 : Int.tmod (rd l i) n = rd l i % n := Int.tmod_eq_emod_of_nonneg b0
   have m0 := Int.emod_nonneg (rd l i) (show n ≠ 0 by omega)
   have m1 := Int.emod_lt_of_pos (rd l i) (show 0 < n by omega)
   exact ⟨_, _, rfl, ⟨hb, hl, by omega, by omega⟩, by rw [e4]; exact m0, by rw [e4]; omega, fun _ => by rw [e4]; exact m1⟩
theorem cc_Bool.ok {l : List Int} {i : Int} (h : StOk l i) (n : Int) (h1 : 1 ≤ n) (hn : n ≤ 4096) : ∃ r j, cc_Bool.f l i n = some (r, j) ∧ StOk l j := by
 obtain ⟨r, j, hf, hj, _⟩ := cc_Int.ok h n hn
 unfold cc_Bool.f
 rw [hf]
 exact ⟨_, _, rfl, hj⟩
theorem cc_Number.ok {l : List Int} {i : Int} (h : StOk l i) : ∃ r j, cc_Number.f l i = some (r, j) ∧ StOk l j ∧ -9223372036854775808 ≤ r ∧ r ≤ 9223372036854775807 := by
 obtain ⟨r, j, hf, hj, h0, h1, h2⟩ := cc_Int.ok h 12 (by omega)
 unfold cc_Number.f
 rw [hf, Option.bind_some]
 have e4 : Int.tmod r 4 = r % 4 := Int.tmod_eq_emod_of_nonneg h0
 dsimp only
 split
 ·exact ⟨_, _, rfl, hj, by omega, by omega⟩
 ·split
  ·exact ⟨_, _, rfl, hj, by omega, by omega⟩
  ·split
   ·exact ⟨_, _, rfl, hj, by omega, by omega⟩
   ·exact ⟨_, _, rfl, hj, by omega, by omega⟩
theorem size_push_ (x : ByteArray) (b : UInt8) : (x ++ (⟨#[b]⟩ : ByteArray)).size = x.size + 1 := by rw [ByteArray.size_append]; rfl
theorem cc_Text.l0_ok (l : List Int) (j : Int) : ∀ (m : Nat) (i : Int) (x : ByteArray) (k : Nat), 0 ≤ i → 64 - i = m → x.size = i → m < k → ∃ t, cc_Text.l0 k x i l j = some (t, j) ∧ t.size = 64 := by
 intro m
 induction m with
 | zero =>
  intro i x k h0 h1 h2 hk
  obtain ⟨k, rfl⟩ : ∃ q, k = q + 1 := ⟨k - 1, by omega⟩
  simp only [cc_Text.l0]
  rw [if_neg (by omega)]
  exact ⟨_, rfl, by omega⟩
 | succ m ih =>
  intro i x k h0 h1 h2 hk
  obtain ⟨k, rfl⟩ : ∃ q, k = q + 1 := ⟨k - 1, by omega⟩
  simp only [cc_Text.l0]
  have e : wrap64 (i + 1) = i + 1 := by unfold wrap64; omega
  rw [if_pos (by omega), if_pos (by omega), e]
  exact ih (i + 1) _ k (by omega) (by omega) (by rw [size_push_]; omega) (by omega)
theorem cc_Text.l1_ok (l : List Int) (j : Int) : ∀ (m : Nat) (i : Int) (x : ByteArray) (k : Nat), 0 ≤ i → 64 - i = m → x.size = i → m < k → ∃ t, cc_Text.l1 k x i l j = some (t, j) ∧ t.size = 64 := by
 intro m
 induction m with
 | zero =>
  intro i x k h0 h1 h2 hk
  obtain ⟨k, rfl⟩ : ∃ q, k = q + 1 := ⟨k - 1, by omega⟩
  simp only [cc_Text.l1]
  rw [if_neg (by omega)]
  exact ⟨_, rfl, by omega⟩
 | succ m ih =>
  intro i x k h0 h1 h2 hk
  obtain ⟨k, rfl⟩ : ∃ q, k = q + 1 := ⟨k - 1, by omega⟩
  simp only [cc_Text.l1]
  have e : wrap64 (i + 1) = i + 1 := by unfold wrap64; omega
  rw [if_pos (by omega), if_pos (by omega), e]
  exact ih (i + 1) _ k (by omega) (by omega) (by rw [size_push_]; omega) (by omega)
theorem cc_Text.j1_ok (l : List Int) (j : Int) (q : Int) (b : Bool) : ∃ t, cc_Text.j1 70 ⟨#[]⟩ q b l j = some (t, j) ∧ t.size ≤ 64 := by
 simp only [cc_Text.j1]
 split
 ·exact ⟨_, rfl, by decide⟩
 ·split
  ·exact ⟨_, rfl, by decide⟩
  ·split
   ·exact ⟨_, rfl, by decide⟩
   ·split
    ·exact ⟨_, rfl, by decide⟩
    ·split
     ·obtain ⟨t, h1, h2⟩ := cc_Text.l0_ok l j 64 0 ⟨#[]⟩ 69 (by omega) (by omega) rfl (by omega)
      exact ⟨t, h1, by omega⟩
     ·obtain ⟨t, h1, h2⟩ := cc_Text.l1_ok l j 64 0 ⟨#[]⟩ 69 (by omega) (by omega) rfl (by omega)
      exact ⟨t, h1, by omega⟩
theorem cc_Text.j0_ok (l : List Int) (j : Int) (q : Int) (b : Bool) : ∃ t, cc_Text.j0 71 ⟨#[]⟩ q b l j = some (t, j) ∧ t.size ≤ 64 := by
 simp only [cc_Text.j0]
 split
 ·exact ⟨_, rfl, by decide⟩
 ·split
  ·exact cc_Text.j1_ok _ _ _ _
  ·exact cc_Text.j1_ok _ _ _ _
theorem cc_Text.ok {l : List Int} {i : Int} (h : StOk l i) : ∃ t j, Ev (fun k => cc_Text.f k l i) (t, j) ∧ StOk l j ∧ t.size ≤ 64 := by
 obtain ⟨r, j, hf, hj, _⟩ := cc_Int.ok h 10 (by omega)
 have hm : ∀ k, LeO (cc_Text.f k l i) (cc_Text.f (k + 1) l i) := fun k => cc_Text.mono _ _ _
 have hx : ∃ t, cc_Text.f 71 l i = some (t, j) ∧ t.size ≤ 64 := by
  unfold cc_Text.f
  rw [hf, Option.bind_some]
  dsimp only
  split
  ·exact cc_Text.j0_ok _ _ _ _
  ·split
   ·exact cc_Text.j0_ok _ _ _ _
   ·exact cc_Text.j0_ok _ _ _ _
 obtain ⟨t, h1, h2⟩ := hx
 exact ⟨t, j, Ev.of hm h1, hj, h2⟩
theorem toListE : (⟨#[]⟩ : ByteArray).toList = [] := by rw [Go.Lib.toList_data]
theorem cc_Any.ok {l : List Int} {i : Int} (h : StOk l i) : ∃ a b c j, Ev (fun k => cc_Any.f k l i) (a, b, c, j) ∧ StOk l j ∧ validV a b c = true ∧ -9223372036854775808 ≤ b ∧ b ≤ 9223372036854775807 := by
 obtain ⟨r, j, hf, hj, h0, _, h2⟩ := cc_Int.ok h 5 (by omega)
 have h2 := h2 (by omega)
 have e : wrap64 (1 + r) = 1 + r := by unfold wrap64; omega
 unfold cc_Any.f
 rw [hf]
 simp only [Option.bind_some, e]
 by_cases c1 : 1 + r < 3
 ·simp only [if_pos c1]
  refine ⟨_, _, _, _, Ev.now _, hj, ?_, by omega, by omega⟩
  have : 1 + r = 1 ∨ 1 + r = 2 := by omega
  unfold validV
  rw [if_pos this, toListE]
  decide
 ·simp only [if_neg c1]
  unfold cc_Value.f
  by_cases c3 : 1 + r = 3
  ·simp only [if_pos c3]
   obtain ⟨r2, j2, hf2, hj2, h20, _, h22⟩ := cc_Int.ok hj 2 (by omega)
   have h22 := h22 (by omega)
   rw [hf2]
   simp only [Option.bind_some]
   refine ⟨_, _, _, _, Ev.now _, hj2, ?_, by omega, by omega⟩
   rw [c3]
   have : r2 = 0 ∨ r2 = 1 := by omega
   rcases this with rfl | rfl <;> simp [validV, toListE]
  ·simp only [if_neg c3]
   by_cases c4 : 1 + r = 4
   ·simp only [if_pos c4]
    obtain ⟨r2, j2, hf2, hj2, h20, h21⟩ := cc_Number.ok hj
    rw [hf2]
    simp only [Option.bind_some]
    refine ⟨_, _, _, _, Ev.now _, hj2, ?_, h20, h21⟩
    rw [c4]
    simp [validV, toListE]
   ·simp only [if_neg c4]
    obtain ⟨t, j2, hev, hj2, ht⟩ := cc_Text.ok hj
    refine ⟨5, 0, t, j2, ?_, hj2, ?_, by omega, by omega⟩
    ·refine Ev.bind (f := fun _ (bt118 : Int × Int × ByteArray × Int) => some (bt118.1, bt118.2.1, bt118.2.2.1, bt118.2.2.2)) (a := ((5 : Int), (0 : Int), t, j2)) (r := (5, 0, t, j2)) ?_ ⟨0, fun _ _ => rfl⟩
     exact Ev.bind (f := fun _ (bt113 : ByteArray × Int) => some ((5 : Int), (0 : Int), bt113.1, bt113.2)) (r := (5, 0, t, j2)) hev ⟨0, fun _ _ => rfl⟩
    ·unfold validV
     simp
     omega
theorem cs_New.ok {l : List Int} (h : ∀ x ∈ l, 0 ≤ x ∧ x ≤ 255) (n : Int) (h0 : 0 ≤ n) (h1 : n ≤ 4096) : cs_New.f l n = some (l.take n.toNat, 0) ∧ StOk (l.take n.toNat) 0 := by
 unfold cs_New.f
 rw [if_pos h0, if_pos h1]
 exact ⟨rfl, fun x hx => h x (List.mem_of_mem_take hx), by rw [List.length_take]; omega, by omega, by omega⟩
theorem rd_T65_nat (x : List S65) (i : Nat) (h : i < x.length) : rd_T65 x (i : Int) = x[i] := by
 unfold rd_T65
 rw [List.getD_eq_getElem?_getD, Int.toNat_natCast, List.getElem?_eq_getElem h]
 rfl
def validS (x : S24) : Bool := validV x.f0 x.f1 x.f2
def oneI (x : S65) (v : S24) : Bool := decide (cmpV x.f0 v ≤ 0) && (x.f2 || decide (cmpV v x.f1 < 0))
def inI (l : List S65) (v : S24) : Bool := l.any fun x => oneI x v
theorem i_contains.at_ (l : List S65) (hl : l.length < 4611686018427387904) (v : S24) : ∀ (m i : Nat), l.length - i = m → i ≤ l.length → Ev (fun k => i_contains.l0 k l l.length i v.f0 v.f1 v.f2) (inI (l.drop i) v) := by
 intro m
 induction m with
 | zero =>
  intro i hm hi
  have : l.drop i = [] := List.drop_eq_nil_iff.2 (by omega)
  rw [this]
  exact Ev.step (f := fun _ => some false) (fun k => by rw [i_contains.l0, if_neg (by omega)]) (Ev.now _)
 | succ m ih =>
  intro i hm hi
  have hil : i < l.length := by omega
  have hw : wrap64 ((i : Int) + 1) = ((i + 1 : Nat) : Int) := wrap64_succ (by omega)
  have hd : inI (l.drop i) v = (oneI l[i] v || inI (l.drop (i + 1)) v) := by rw [List.drop_eq_getElem_cons hil]; rfl
  have ih' := ih (i + 1) (by omega) (by omega)
  rw [hd]
  have hst : ∀ k, i_contains.l0 (k + 1) l l.length i v.f0 v.f1 v.f2 = if cmpV l[i].f0 v ≤ 0 then (if l[i].f2 = true then some true else if cmpV v l[i].f1 < 0 then some true else i_contains.l0 k l l.length ((i + 1 : Nat) : Int) v.f0 v.f1 v.f2) else i_contains.l0 k l l.length ((i + 1 : Nat) : Int) v.f0 v.f1 v.f2 := by
   intro k
   rw [i_contains.l0, if_pos (by omega), if_pos (by omega), if_pos (by omega), rd_T65_nat l i hil, hw]
   simp only [v_Compare.some_, Option.bind_some]
  refine Ev.step hst ?_
  unfold oneI
  by_cases h1 : cmpV l[i].f0 v ≤ 0
  ·by_cases h2 : l[i].f2 = true
   ·simp only [h1, h2, if_true, decide_true, Bool.true_or, Bool.and_self]
    exact Ev.now _
   ·have h2 := Bool.eq_false_iff.2 h2
    by_cases h3 : cmpV v l[i].f1 < 0
    ·simp only [h1, h2, h3, if_true, decide_true, Bool.false_or, Bool.and_self, Bool.true_or, Bool.false_eq_true, if_false]
     exact Ev.now _
    ·simp only [h1, h2, h3, if_true, decide_true, decide_false, Bool.false_or, Bool.and_false, Bool.false_eq_true, if_false]
     exact ih'
  ·simp only [h1, if_false, decide_false, Bool.false_and, Bool.false_or]
   exact ih'
theorem i_contains.ev (l : List S65) (hl : l.length < 4611686018427387904) (v : S24) : Ev (fun k => i_contains.f k l v.f0 v.f1 v.f2) (inI l v) := by
 have := i_contains.at_ l hl v l.length 0 rfl (Nat.zero_le _)
 exact this
theorem r3_In.same : ∀ (k : Nat) (l : List S65) (n i a b : Int) (c : ByteArray), r3_In.l0 k l n i a b c = i_contains.l0 k l n i a b c
 | 0, _, _, _, _, _, _ => rfl
 | k + 1, l, n, i, a, b, c => by
  have e1 : ∀ x : S24, r1_Compare.f x.f0 x.f1 x.f2 a b c = v_Compare.f x.f0 x.f1 x.f2 a b c := fun x => (r1_Compare.some_ x ⟨a, b, c⟩).trans (v_Compare.some_ x ⟨a, b, c⟩).symm
  have e2 : ∀ x : S24, r1_Compare.f a b c x.f0 x.f1 x.f2 = v_Compare.f a b c x.f0 x.f1 x.f2 := fun x => (r1_Compare.some_ ⟨a, b, c⟩ x).trans (v_Compare.some_ ⟨a, b, c⟩ x).symm
  rw [r3_In.l0, i_contains.l0]
  simp only [e1, e2, r3_In.same k]
theorem r3_In.ev (l : List S65) (hl : l.length < 4611686018427387904) (v : S24) : Ev (fun k => r3_In.f k l v.f0 v.f1 v.f2) (inI l v) := by
 have := i_contains.ev l hl v
 refine Ev.congr (fun k => ?_) this
 unfold r3_In.f i_contains.f
 exact r3_In.same _ _ _ _ _ _ _
def headOk (x : S65) (rest : List S65) : Bool := validS x.f0 && (if x.f2 = true then rest.isEmpty && (x.f1.f0 == 0 && (x.f1.f1 == 0 && (x.f1.f2.toList == ([] : List UInt8)))) else validS x.f1 && decide (cmpV x.f0 x.f1 < 0))
def gapOk (x : S65) : List S65 → Bool
 | [] => true
 | y :: _ => decide (cmpV x.f1 y.f0 < 0)
def ordI : List S65 → Bool
 | [] => true
 | x :: rest => headOk x rest && (if x.f2 = true then true else gapOk x rest) && ordI rest
theorem lt_succ0 : ∀ c q : List UInt8, c < q → q < c ++ [0] → False
 | [], [], h, _ => absurd h (by simp)
 | [], y :: ys, _, h => by
  rw [List.nil_append, List.cons_lt_cons_iff] at h
  rcases h with h | ⟨_, h⟩
  ·have := UInt8.lt_iff_toNat_lt.1 h
   have e0 : (0 : UInt8).toNat = 0 := rfl
   omega
  ·exact absurd h (List.not_lt_nil _)
 | x :: c, [], h, _ => absurd h (List.not_lt_nil _)
 | x :: c, y :: q, h, k => by
  rw [List.cons_append, List.cons_lt_cons_iff] at k
  rw [List.cons_lt_cons_iff] at h
  rcases h with h | ⟨e, h⟩
  ·have h1 := UInt8.lt_iff_toNat_lt.1 h
   rcases k with k | ⟨e', k⟩
   ·have h2 := UInt8.lt_iff_toNat_lt.1 k
    omega
   ·subst e'; omega
  ·subst e
   rcases k with k | ⟨_, k⟩
   ·exact absurd (UInt8.lt_iff_toNat_lt.1 k) (Nat.lt_irrefl _)
   ·exact lt_succ0 c q h k
theorem lt_rep : ∀ (m : Nat) (q : List UInt8), q.length ≤ m → List.replicate m 255 < q → False
 | m, [], _, h => List.not_lt_nil _ h
 | 0, _ :: _, hl, _ => by simp at hl
 | m + 1, y :: q, hl, h => by
  rw [List.replicate_succ, List.cons_lt_cons_iff] at h
  rcases h with h | ⟨_, h⟩
  ·have h1 := UInt8.lt_iff_toNat_lt.1 h
   have h2 := y.toNat_lt
   have e : (255 : UInt8).toNat = 255 := rfl
   omega
  ·exact lt_rep m q (by simpa using hl) h
theorem toNat_succ {v : UInt8} (h : v ≠ 255) : (v + 1).toNat = v.toNat + 1 := by
 have h1 : v.toNat ≠ 255 := fun e => h (UInt8.toNat_inj.1 e)
 have h2 := v.toNat_lt
 rw [UInt8.toNat_add]
 have e : (1 : UInt8).toNat = 1 := rfl
 omega
theorem lt_stop (v : UInt8) (hv : v ≠ 255) (m : Nat) : ∀ (p q : List UInt8), q.length ≤ p.length + (m + 1) → p ++ v :: List.replicate m 255 < q → q < p ++ [v + 1] → False
 | p, [], _, h, _ => List.not_lt_nil _ h
 | [], y :: q, hl, h, k => by
  rw [List.nil_append, List.cons_lt_cons_iff] at h k
  have hs := toNat_succ hv
  rcases k with k | ⟨_, k⟩
  ·have h2 := UInt8.lt_iff_toNat_lt.1 k
   rcases h with h | ⟨_, h⟩
   ·have h1 := UInt8.lt_iff_toNat_lt.1 h
    omega
   ·exact lt_rep m q (by simp only [List.length_cons, List.length_nil] at hl; omega) h
  ·exact List.not_lt_nil _ k
 | x :: p, y :: q, hl, h, k => by
  rw [List.cons_append, List.cons_lt_cons_iff] at h k
  rcases h with h | ⟨e, h⟩
  ·have h1 := UInt8.lt_iff_toNat_lt.1 h
   rcases k with k | ⟨e', k⟩
   ·have h2 := UInt8.lt_iff_toNat_lt.1 k
    omega
   ·subst e'; omega
  ·subst e
   rcases k with k | ⟨_, k⟩
   ·exact absurd (UInt8.lt_iff_toNat_lt.1 k) (Nat.lt_irrefl _)
   ·exact lt_stop v hv m p q (by simp only [List.length_cons] at hl; omega) h k
theorem lt_app (p : List UInt8) (a b : List UInt8) (h : a < b) : p ++ a < p ++ b := by
 induction p with
 | nil => exact h
 | cons x p ih => exact List.cons_lt_cons_iff.2 (.inr ⟨rfl, ih⟩)
theorem lt_snoc (c : List UInt8) : c < c ++ [0] := by
 have := lt_app c [] [0] (by decide)
 rwa [List.append_nil] at this
theorem bt_data (c : ByteArray) (n : Nat) (h : n < c.size) : bt c (n : Int) = ((c.toList[n]'(by rw [Go.Lib.toList_data]; exact h)).toNat : Int) := by
 have hh : ((n : Int)).toNat < c.size := by simpa using h
 rw [← bt_at c n hh]
 simp only [Go.Lib.toList_data]
 rfl
theorem toList_len (c : ByteArray) : c.toList.length = c.size := by rw [Go.Lib.toList_data]; rfl
theorem v_Next.l0_is (a b : Int) (c : ByteArray) (hc : c.size < 4611686018427387904) : ∀ (n k : Nat), n ≤ c.size → n < k → c.toList.drop n = List.replicate (c.size - n) 255 →
  (v_Next.l0 k n a b c = some (0, 0, ⟨#[]⟩, false) ∧ c.toList = List.replicate c.size 255) ∨
  ∃ p v m t, c.toList = p ++ v :: List.replicate m 255 ∧ v ≠ 255 ∧ ByteArray.toList t = p ++ [v + 1] ∧ v_Next.l0 k n a b c = some (5, 0, t, true) := by
 intro n
 induction n with
 | zero =>
  intro k _ hk hd
  obtain ⟨k, rfl⟩ : ∃ j, k = j + 1 := ⟨k - 1, by omega⟩
  left
  refine ⟨?_, by simpa using hd⟩
  rw [v_Next.l0]
  rw [if_neg (by omega), if_pos (by omega)]
 | succ n ih =>
  intro k hn hk hd
  obtain ⟨k, rfl⟩ : ∃ j, k = j + 1 := ⟨k - 1, by omega⟩
  have hw : wrap64 (((n + 1 : Nat) : Int) - 1) = (n : Int) := by unfold wrap64; omega
  have hl : n < c.toList.length := by rw [toList_len]; omega
  have hdn : c.toList.drop n = c.toList[n] :: c.toList.drop (n + 1) := List.drop_eq_getElem_cons hl
  have hb := bt_data c n (by omega)
  rw [v_Next.l0, hw, if_pos (by omega), if_pos (by omega), if_pos (by omega)]
  by_cases hv : c.toList[n] = 255
  ·have e255 : (255 : UInt8).toNat = 255 := rfl
   rw [if_pos (by rw [hb, hv, e255]; rfl)]
   refine ih k (by omega) (by omega) ?_
   rw [hdn, hv, hd, show c.size - n = (c.size - (n + 1)) + 1 by omega, List.replicate_succ]
  ·have hv' : ¬ bt c (n : Int) = 255 := by
    rw [hb]
    intro e
    exact hv (UInt8.toNat_inj.1 (show _ = (255 : UInt8).toNat from by have e255 : (255 : UInt8).toNat = 255 := rfl; omega))
   rw [if_neg hv', if_neg (by omega), if_pos (by omega)]
   right
   have hsz : (c.extract 0 ((n : Int)).toNat).size = n := by rw [ByteArray.size_extract]; simp; omega
   have hst : (strOfNums [((bt c (n : Int)) + 1) % 256]).size = 1 := rfl
   refine ⟨c.toList.take n, c.toList[n], c.size - (n + 1), c.extract 0 ((n : Int)).toNat ++ strOfNums [((bt c (n : Int)) + 1) % 256], ?_, hv, ?_, ?_⟩
   ·rw [← hd, ← hdn, List.take_append_drop]
   ·have h1 : (c.extract 0 ((n : Int)).toNat ++ strOfNums [((bt c (n : Int)) + 1) % 256]).toList = (c.extract 0 ((n : Int)).toNat).toList ++ (strOfNums [((bt c (n : Int)) + 1) % 256]).toList := by
     simp only [Go.Lib.toList_data, ByteArray.data_append, Array.toList_append]
    rw [h1, Go.Lib.strOfNums_toList]
    congr 1
    ·simp only [Go.Lib.toList_data, ByteArray.data_extract, Array.toList_extract]
     simp
    ·rw [hb]
     show [UInt8.ofNat _] = _
     congr 1
     apply UInt8.toNat_inj.1
     rw [toNat_succ hv, UInt8.toNat_ofNat']
     have h2 := (c.toList[n]).toNat_lt
     have h3 : (c.toList[n]).toNat ≠ 255 := fun e => hv (UInt8.toNat_inj.1 e)
     omega
   ·simp only [Option.bind_some]
    rw [if_pos (by omega)]
theorem r1_Next.l0_same : ∀ (k : Nat) (n a b : Int) (c : ByteArray), r1_Next.l0 k n a b c = v_Next.l0 k n a b c
 | 0, _, _, _, _ => rfl
 | k + 1, n, a, b, c => by
  rw [r1_Next.l0, v_Next.l0]
  simp only [r1_Next.l0_same k]
structure NextOk (x y : S24) : Prop where
 valid : validV y.f0 y.f1 y.f2 = true
 lo : -9223372036854775808 ≤ y.f1
 hi : y.f1 ≤ 9223372036854775807
 up : ltV x y
 none : ∀ q : S24, validV q.f0 q.f1 q.f2 = true → -9223372036854775808 ≤ q.f1 → q.f1 ≤ 9223372036854775807 → ltV x q → ltV q y → False
theorem validV_kind {x : S24} (h : validV x.f0 x.f1 x.f2 = true) : 1 ≤ x.f0 ∧ x.f0 ≤ 5 := by
 unfold validV at h
 by_cases h1 : x.f0 = 1 ∨ x.f0 = 2
 ·omega
 ·rw [if_neg h1] at h
  by_cases h3 : x.f0 = 3
  ·omega
  ·rw [if_neg h3] at h
   by_cases h4 : x.f0 = 4
   ·omega
   ·rw [if_neg h4] at h
    by_cases h5 : x.f0 = 5
    ·omega
    ·rw [if_neg h5] at h; exact absurd h (by decide)
theorem nil_of_toList {c : ByteArray} (h : c.toList = []) : c = ⟨#[]⟩ := by
 rw [Go.Lib.toList_data] at h
 cases c with | mk d => cases d with | mk l => cases h; rfl
theorem validV_cases {a b : Int} {c : ByteArray} (h : validV a b c = true) : ((a = 1 ∨ a = 2) ∧ b = 0 ∧ c = ⟨#[]⟩) ∨ (a = 3 ∧ (b = 0 ∨ b = 1) ∧ c = ⟨#[]⟩) ∨ (a = 4 ∧ c = ⟨#[]⟩) ∨ (a = 5 ∧ b = 0 ∧ c.size ≤ 64) := by
 unfold validV at h
 by_cases h1 : a = 1 ∨ a = 2
 ·rw [if_pos h1] at h
  simp only [Bool.and_eq_true, beq_iff_eq] at h
  exact .inl ⟨h1, h.1, nil_of_toList h.2⟩
 ·rw [if_neg h1] at h
  by_cases h3 : a = 3
  ·rw [if_pos h3] at h
   simp only [Bool.and_eq_true, Bool.or_eq_true, beq_iff_eq] at h
   exact .inr (.inl ⟨h3, h.1, nil_of_toList h.2⟩)
  ·rw [if_neg h3] at h
   by_cases h4 : a = 4
   ·rw [if_pos h4] at h
    simp only [beq_iff_eq] at h
    exact .inr (.inr (.inl ⟨h4, nil_of_toList h⟩))
   ·rw [if_neg h4] at h
    by_cases h5 : a = 5
    ·rw [if_pos h5] at h
     simp only [Bool.and_eq_true, beq_iff_eq, decide_eq_true_eq] at h
     exact .inr (.inr (.inr ⟨h5, h.1, by omega⟩))
    ·rw [if_neg h5] at h; exact absurd h (by decide)
theorem validV_low {a b : Int} (h : ((a = 1 ∨ a = 2) ∧ b = 0) ∨ (a = 3 ∧ (b = 0 ∨ b = 1)) ∨ a = 4 ∨ (a = 5 ∧ b = 0)) : validV a b ⟨#[]⟩ = true := by
 unfold validV
 rw [toListE]
 rcases h with ⟨h1 | h1, h2⟩ | ⟨h1, h2 | h2⟩ | h1 | ⟨h1, h2⟩ <;> subst h1 <;> (try subst h2) <;> first | (simp; done) | (simp; decide)
theorem validV_text {c : ByteArray} (h : c.size ≤ 64) : validV 5 0 c = true := by
 unfold validV
 simp; omega
theorem ltV_top {q y : S24} (hy : y.f2 = ⟨#[]⟩) (h : ltV q y) : q.f0 < y.f0 ∨ (q.f0 = y.f0 ∧ q.f1 < y.f1) := by
 rcases h with h | ⟨e, h | ⟨e', h⟩⟩
 ·exact .inl h
 ·exact .inr ⟨e, h⟩
 ·rw [hy, toListE] at h
  exact absurd h (List.not_lt_nil _)
theorem NextOk.low {x y : S24} (hx : x.f0 ≤ 4) (hy : y.f2 = ⟨#[]⟩) (hv : validV y.f0 y.f1 y.f2 = true) (lo : -9223372036854775808 ≤ y.f1) (hi : y.f1 ≤ 9223372036854775807) (up : x.f0 < y.f0 ∨ (x.f0 = y.f0 ∧ x.f1 < y.f1))
  (no : ∀ a b : Int, (((a = 1 ∨ a = 2) ∧ b = 0) ∨ (a = 3 ∧ (b = 0 ∨ b = 1)) ∨ a = 4 ∨ (a = 5 ∧ b = 0)) → -9223372036854775808 ≤ b → b ≤ 9223372036854775807 → (x.f0 < a ∨ (x.f0 = a ∧ x.f1 < b)) → (a < y.f0 ∨ (a = y.f0 ∧ b < y.f1)) → False) : NextOk x y where
 valid := hv
 lo := lo
 hi := hi
 up := by rcases up with h | ⟨e, h⟩; exact .inl h; exact .inr ⟨e, .inl h⟩
 none := by
  intro q hq l h h1 h2
  have h2 := ltV_top hy h2
  rcases validV_cases hq with hc | hc | hc | hc
  ·exact no q.f0 q.f1 (.inl ⟨hc.1, hc.2.1⟩) l h (ltV_top hc.2.2 h1) h2
  ·exact no q.f0 q.f1 (.inr (.inl ⟨hc.1, hc.2.1⟩)) l h (ltV_top hc.2.2 h1) h2
  ·exact no q.f0 q.f1 (.inr (.inr (.inl hc.1))) l h (ltV_top hc.2 h1) h2
  ·exact no q.f0 q.f1 (.inr (.inr (.inr ⟨hc.1, hc.2.1⟩))) l h (.inl (by omega)) h2
theorem NextOk.text {c d : ByteArray} (hd : d.size ≤ 64) (up : c.toList < d.toList) (no : ∀ q : List UInt8, q.length ≤ 64 → c.toList < q → q < d.toList → False) : NextOk ⟨5, 0, c⟩ ⟨5, 0, d⟩ where
 valid := validV_text hd
 lo := by show (-9223372036854775808 : Int) ≤ 0; omega
 hi := by show (0 : Int) ≤ _; omega
 up := .inr ⟨rfl, .inr ⟨rfl, up⟩⟩
 none := by
  intro q hq l h h1 h2
  rcases h1 with h1 | ⟨e, h1⟩
  ·have h3 := validV_kind hq
   have : (5 : Int) < q.f0 := h1
   omega
  ·have e : (5 : Int) = q.f0 := e
   rcases validV_cases hq with hc | hc | hc | hc
   ·omega
   ·omega
   ·omega
   ·rcases h1 with h1 | ⟨_, h1⟩
    ·have : (0 : Int) < q.f1 := h1
     omega
    ·rcases h2 with h2 | ⟨_, h2⟩
     ·have : q.f0 < (5 : Int) := h2
      omega
     ·rcases h2 with h2 | ⟨_, h2⟩
      ·have : q.f1 < (0 : Int) := h2
       omega
      ·exact no q.f2.toList (by rw [toList_len]; exact hc.2.2) h1 h2
theorem firstEv (g : Int) {a b : Int} {c : ByteArray} {d : Bool} (h : firstV g = (a, b, c, d)) : Ev (fun k => (v_First.f k g).bind fun bt => some (bt.1, bt.2.1, bt.2.2.1, bt.2.2.2)) (a, b, c, d) := by
 refine Ev.bind (v_First.ev g) ?_
 rw [h]
 exact Ev.now _
theorem v_Next.ok (x : S24) (hv : validV x.f0 x.f1 x.f2 = true) (lo : -9223372036854775808 ≤ x.f1) (hi : x.f1 ≤ 9223372036854775807) :
  (∃ y, NextOk x y ∧ Ev (fun k => v_Next.f k x.f0 x.f1 x.f2) (y.f0, y.f1, y.f2, true) ∧ Ev (fun k => r1_Next.f k x.f0 x.f1 x.f2) (y.f0, y.f1, y.f2, true)) ∨
  ((x.f0 = 5 ∧ x.f1 = 0 ∧ x.f2.toList = List.replicate 64 255) ∧ Ev (fun k => v_Next.f k x.f0 x.f1 x.f2) (0, 0, ⟨#[]⟩, false) ∧ Ev (fun k => r1_Next.f k x.f0 x.f1 x.f2) (0, 0, ⟨#[]⟩, false)) := by
 obtain ⟨a, b, c⟩ := x
 dsimp only at hv lo hi ⊢
 have evV : ∀ {f : Nat → Bool → Option (Int × Int × ByteArray × Bool)} {r}, Ev (fun n => f n true) r → Ev (fun k => (v_Valid.f k a b c).bind (f k)) r := fun hf => Ev.bind (v_Valid.ev a b c) (by rw [hv]; exact hf)
 have evR : ∀ {f : Nat → Bool → Option (Int × Int × ByteArray × Bool)} {r}, Ev (fun n => f n true) r → Ev (fun k => (r1_Valid.f k a b c).bind (f k)) r := fun hf => Ev.bind (r1_Valid.ev a b c) (by rw [hv]; exact hf)
 rcases validV_cases hv with ⟨h1 | h1, h2, h3⟩ | ⟨h1, h2 | h2, h3⟩ | ⟨h1, h3⟩ | ⟨h1, h2, h3⟩
 ·subst h1 h2 h3
  refine .inl ⟨⟨2, 0, ⟨#[]⟩⟩, NextOk.low (by simp) rfl (validV_low (by dsimp only; omega)) (by simp) (by simp) (by simp) (by intro a b; dsimp only; omega), evV ?_, evR ?_⟩
  ·exact firstEv 2 rfl
  ·exact Ev.now _
 ·subst h1 h2 h3
  refine .inl ⟨⟨3, 0, ⟨#[]⟩⟩, NextOk.low (by simp) rfl (validV_low (by dsimp only; omega)) (by simp) (by simp) (by simp) (by intro a b; dsimp only; omega), evV ?_, evR ?_⟩
  ·exact firstEv 3 rfl
  ·exact Ev.now _
 ·subst h1 h2 h3
  refine .inl ⟨⟨3, 1, ⟨#[]⟩⟩, NextOk.low (by simp) rfl (validV_low (by dsimp only; omega)) (by simp) (by simp) (by simp) (by intro a b; dsimp only; omega), evV ?_, evR ?_⟩
  ·exact Ev.now _
  ·exact Ev.now _
 ·subst h1 h2 h3
  refine .inl ⟨⟨4, -9223372036854775808, ⟨#[]⟩⟩, NextOk.low (by simp) rfl (validV_low (by dsimp only; omega)) (by simp) (by simp) (by simp) (by intro a b; dsimp only; omega), evV ?_, evR ?_⟩
  ·exact firstEv 4 rfl
  ·exact Ev.now _
 ·subst h1 h3
  by_cases hm : b = 9223372036854775807
  ·subst hm
   refine .inl ⟨⟨5, 0, ⟨#[]⟩⟩, NextOk.low (by simp) rfl (validV_low (by dsimp only; omega)) (by simp) (by simp) (by simp) (by intro a b; dsimp only; omega), evV ?_, evR ?_⟩
   ·exact firstEv 5 rfl
   ·exact Ev.now _
  ·have hw : wrap64 (b + 1) = b + 1 := by unfold wrap64; omega
   refine .inl ⟨⟨4, b + 1, ⟨#[]⟩⟩, NextOk.low (by simp) rfl (validV_low (by dsimp only; omega)) (by dsimp only; omega) (by dsimp only; omega) (by dsimp only; omega) (by intro a b'; dsimp only; omega), evV ?_, evR ?_⟩
   ·simp only [hm, hw]
    exact Ev.now _
   ·have hm' : b < 9223372036854775807 := by omega
    simp only [hm', hw]
    exact Ev.now _
 ·subst h1 h2
  by_cases hs : c.size < 64
  ·have e0 : (c ++ (⟨#[0]⟩ : ByteArray)).toList = c.toList ++ [0] := by simp only [Go.Lib.toList_data, ByteArray.data_append, Array.toList_append]
   have hsz := size_push_ c 0
   refine .inl ⟨⟨5, 0, c ++ ⟨#[0]⟩⟩, NextOk.text (by omega) (by rw [e0]; exact lt_snoc _) (by rw [e0]; exact fun q _ h1 h2 => lt_succ0 _ _ h1 h2), evV ?_, evR ?_⟩
   ·have c1 : (c.size : Int) < 64 := by omega
    have c2 : c.size + 1 ≤ 9223372036854775807 := by omega
    simp only [c1, c2]
    exact Ev.now _
   ·have c1 : (c.size : Int) < 64 := by omega
    have c2 : c.size + 1 ≤ 9223372036854775807 := by omega
    simp only [c1, c2]
    exact Ev.now _
  ·have hs64 : c.size = 64 := by omega
   have c1 : ¬ (c.size : Int) < 64 := by omega
   have hlen := toList_len c
   have red : ∀ {r}, (∀ k, c.size < k → v_Next.l0 k (c.size : Int) 5 0 c = some r) → Ev (fun k => v_Next.f k 5 0 c) r ∧ Ev (fun k => r1_Next.f k 5 0 c) r := by
    intro r hr
    refine ⟨evV ?_, evR ?_⟩
    ·simp only [c1]
     exact ⟨c.size + 1, fun k hk => hr k (by omega)⟩
    ·simp only [c1, r1_Next.l0_same]
     exact ⟨c.size + 1, fun k hk => hr k (by omega)⟩
   have hst : c.toList.drop c.size = List.replicate (c.size - c.size) 255 := by
    rw [Nat.sub_self, List.replicate_zero, List.drop_eq_nil_iff, hlen]
    exact Nat.le_refl _
   rcases v_Next.l0_is 5 0 c (by omega) c.size (c.size + 1) (Nat.le_refl _) (by omega) hst with ⟨hr, hl⟩ | ⟨p, v, m, t, hl, hv, ht, hr⟩
   ·refine .inr ⟨⟨rfl, rfl, by rw [hl, hs64]⟩, red ?_⟩
    intro k hk
    exact at_rounds (fun k => v_Next.mono_l k _ _ _ _) hk hr
   ·have hlp : p.length + (m + 1) = 64 := by
     have := congrArg List.length hl
     rw [hlen, List.length_append, List.length_cons, List.length_replicate] at this
     omega
    refine .inl ⟨⟨5, 0, t⟩, NextOk.text ?_ ?_ ?_, red ?_⟩
    ·rw [← toList_len, ht]; simp; omega
    ·rw [hl, ht]
     refine lt_app p _ _ (List.cons_lt_cons_iff.2 (.inl ?_))
     apply UInt8.lt_iff_toNat_lt.2
     rw [toNat_succ hv]; omega
    ·rw [hl, ht]
     intro q hq h1 h2
     exact lt_stop v hv m p q (by omega) h1 h2
    ·intro k hk
     exact at_rounds (fun k => v_Next.mono_l k _ _ _ _) hk hr
end Go.Proofs.Ytpjcdacnhalclaa.Q
