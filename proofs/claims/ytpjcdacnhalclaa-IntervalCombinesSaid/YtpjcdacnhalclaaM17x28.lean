/- A part of a proof: facts of functions that the law calls; conditions stand in each. -/
import Derived.Test.YtpjcdacnhalclaaM17x3
import Derived.Test.YtpjcdacnhalclaaM17x27
import Derived.Test.YtpjcdacnhalclaaM17x26
import Derived.Test.YtpjcdacnhalclaaM17x21
import Derived.Test.YtpjcdacnhalclaaM17x15
set_option linter.unusedVariables false
set_option linter.unusedSimpArgs false
namespace Go.Proofs.Ytpjcdacnhalclaa.Q
open Go.RowKit Go.Proofs.YtpjcdacnhalclaaW.PrintWords Go.Proofs.YtpjcdacnhalclaaW.PrintLast Go.Proofs.YtpjcdacnhalclaaW.PrintMore
attribute [local go_sem] max2_int min2_int max_two min_two max_three min_three max_four min_four
def r3_Valid.f (k : Nat) (l0 : List (S65)) : Option (Bool) := if (l0.length : Int) ≤ 64 then ((r3_Ordered.f k l0).bind fun t973 => (some t973)) else (some false)
set_option maxHeartbeats 8000000 in
set_option maxRecDepth 100000 in
theorem r3_Valid.calls (k : Nat) (A0 : Option Addr) (c0 : Nat) (l0 : List (S65)) (r : Bool) (w : World) (hr0 : Kd.C k65 w A0 l0.length l0) (hc0 : l0.length ≤ c0) (h : r3_Valid.f k l0 = some r) :
  Calls Try.prog 61 #[.slice A0 l0.length c0] w fun e w' => e = .returned (.bool r) ∧ Below w.heap.size w w' := by
 have HR0 := Aside0.mk hr0
 have HC0 := Aside0.mk hc0
 clear hr0 hc0
 have HB := aK (Below.refl w.heap.size w)
 have H : (if (l0.length : Int) ≤ 64 then ((r3_Ordered.f k l0).bind fun t973 => (some t973)) else (some false)) = some r := h
 clear h
 by_cases c2 : (l0.length : Int) ≤ 64
 rotate_left
 ·rw [if_neg c2] at H
  have c2b0 : decide ((l0.length : Int) ≤ 64) = false := decide_eq_false c2
  have c2b1 : decide (l0.length ≤ 64) = false := decide_eq_false (by omega)
  clear c2
  obtain rfl := Option.some.inj H
  go_enter Try.func61, Try.ntmps61
  go_wp2
  go_ret
  exact ⟨eW, bO⟩
 rw [if_pos c2] at H
 have c2b0 : decide ((l0.length : Int) ≤ 64) = true := decide_eq_true c2
 have c2b1 : decide (l0.length ≤ 64) = true := decide_eq_true (by omega)
 clear c2
 obtain ⟨t973, A3, H⟩ := oB H
 try dsimp only at H
 obtain rfl := Option.some.inj H
 go_enter Try.func61, Try.ntmps61
 go_wp2_with (first | (go_at_call 91; (with_reducible refine (r3_Ordered.calls k _ _ l0 t973 _ ?side1 ?side2 A3.out).mono ?_); (case side1 => exact cX HR0.out); (case side2 => exact HC0.out); rintro e w4 ⟨rfl, hb⟩; have n0_ := aK (below_step bO hb); clear HB; have HB := n0_; clear n0_; (try clear hb)))
 go_ret
 exact ⟨eW, bO⟩
def r3_Do.j0 : Nat → Int → List (S65) → List (S65) → Bool → Option ((List (S65)) × Int)
 | 0, _, _, _, _ => none
 | k + 1, x0, x1, x2, x15 => if x15 = true then (some (([] : List (S65)), 30)) else ((r3_Combine.f k x0 x1 x2).bind fun t1154 => ((partsyncref03_limited.f t1154).bind fun bt1157 => (some (bt1157.1, bt1157.2))))
def r3_Do.f (k : Nat) (a0 : Int) (l1 : List (S65)) (l2 : List (S65)) : Option ((List (S65)) × Int) := (r3_Valid.f k l1).bind fun t1152 => (if t1152 = true then ((r3_Valid.f k l2).bind fun t1153 => (r3_Do.j0 k a0 l1 l2 (!t1153))) else (r3_Do.j0 k a0 l1 l2 true))
set_option maxHeartbeats 8000000 in
set_option maxRecDepth 100000 in
theorem r3_Do.calls (k : Nat) (a0 : Int) (A1 : Option Addr) (c1 : Nat) (l1 : List (S65)) (A2 : Option Addr) (c2 : Nat) (l2 : List (S65)) (r1 : List (S65)) (r2 : Int) (w : World) (hr1 : Kd.C k65 w A1 l1.length l1) (hc1 : l1.length ≤ c1) (hr2 : Kd.C k65 w A2 l2.length l2) (hc2 : l2.length ≤ c2) (h : r3_Do.f k a0 l1 l2 = some (r1, r2)) :
  Calls Try.prog 93 #[.int .i64 a0, .slice A1 l1.length c1, .slice A2 l2.length c2] w fun e w' => ∃ v0_ : Value, e = .returned (.tuple #[v0_, .int .i64 r2]) ∧ Kd.R k65 65 w' w.heap.size (fun _ => True) v0_ r1 ∧ Below w.heap.size w w' := by
 have HR1 := Aside0.mk hr1
 have HC1 := Aside0.mk hc1
 clear hr1 hc1
 have HR2 := Aside0.mk hr2
 have HC2 := Aside0.mk hc2
 clear hr2 hc2
 have HB := aK (Below.refl w.heap.size w)
 have H : ((r3_Valid.f k l1).bind fun t1152 => (if t1152 = true then ((r3_Valid.f k l2).bind fun t1153 => (r3_Do.j0 k a0 l1 l2 (!t1153))) else (r3_Do.j0 k a0 l1 l2 true))) = some (r1, r2) := h
 clear h
 have HC4 := Aside0.mk H
 clear H
 go_enter Try.func93, Try.ntmps93
 go_upto_region 1 with (fail)
 go_cut [15] (fun v15 wc => ∃ (kq : Nat) (x15_3 : Bool), v15 = .bool x15_3 ∧ Aside0 (r3_Do.j0 kq a0 l1 l2 x15_3 = some (r1, r2)) ∧ Aside0 (kq ≤ k) ∧ Aside0 (Below w.heap.size w wc))
 case first =>
  have H := HC4.out
  clear HC4
  obtain ⟨t1152, A5, H⟩ := oB H
  try dsimp only at H
  by_cases c6 : t1152 = true
  rotate_left
  ·replace c6 := Bool.eq_false_iff.mpr c6
   subst c6
   rw [if_neg (show ¬ (false = true) by decide)] at H
   have H' := Aside0.mk H
   clear H
   go_wp2_with (first | ((with_reducible refine gate_callee (f := 61) rfl ?_); refine gL (some 9) rfl Try.func61 #[.slice A1 l1.length c1] rfl ?_; (with_reducible refine (r3_Valid.calls k _ _ l1 false _ ?side1 ?side2 A5.out).mono ?_); (case side1 => repeat (first | exact (Kd.C_below HR1.out HB.out) | (with_reducible refine Kd.C_alloc ?_ _) | (with_reducible refine Kd.C_drewN ?_ _) | (with_reducible refine Kd.C_drew ?_))); (case side2 => exact HC1.out); rintro e w10 ⟨rfl, hb⟩; refine ⟨_, rfl, ?_⟩; have n0_ := aK (below_step bO hb); clear HB; have HB := n0_; clear n0_; (try clear hb)))
   go_meet
   case rel => exact ⟨_, (true), (by first | rfl | (simp; done) | (simp [*]; done)), H', ⟨by first | omega | exact Nat.le_refl _⟩, ⟨bO⟩⟩
  subst c6
  rw [if_pos rfl] at H
  obtain ⟨t1153, A7, H⟩ := oB H
  try dsimp only at H
  have H' := Aside0.mk H
  clear H
  go_wp2_with (first | ((with_reducible refine gate_callee (f := 61) rfl ?_); refine gL (some 9) rfl Try.func61 #[.slice A1 l1.length c1] rfl ?_; (with_reducible refine (r3_Valid.calls k _ _ l1 true _ ?side1 ?side2 A5.out).mono ?_); (case side1 => repeat (first | exact (Kd.C_below HR1.out HB.out) | (with_reducible refine Kd.C_alloc ?_ _) | (with_reducible refine Kd.C_drewN ?_ _) | (with_reducible refine Kd.C_drew ?_))); (case side2 => exact HC1.out); rintro e w8 ⟨rfl, hb⟩; refine ⟨_, rfl, ?_⟩; have n0_ := aK (below_step bO hb); clear HB; have HB := n0_; clear n0_; (try clear hb)) | (go_at_call 61; (with_reducible refine (r3_Valid.calls k _ _ l2 t1153 _ ?side1 ?side2 A7.out).mono ?_); (case side1 => repeat (first | exact (Kd.C_below HR2.out HB.out) | (with_reducible refine Kd.C_alloc ?_ _) | (with_reducible refine Kd.C_drewN ?_ _) | (with_reducible refine Kd.C_drew ?_))); (case side2 => exact HC2.out); rintro e w9 ⟨rfl, hb⟩; have n0_ := aK (below_step bO hb); clear HB; have HB := n0_; clear n0_; (try clear hb)))
  go_meet
  case rel => exact ⟨_, (!t1153), (by first | rfl | (simp; done) | (simp [*]; done)), H', ⟨by first | omega | exact Nat.le_refl _⟩, ⟨bO⟩⟩
 case rest =>
  clear HC4
  try clear c1
  try clear c2
  try clear p2
  try clear c6
  try clear c9
  obtain ⟨kq, x15_3, rfl, HA, HJ3, HB⟩ := hcut
  cases kq with
  | zero => exact absurd HA.out (by simp [r3_Do.j0])
  | succ kj3 =>
   have H := HA.out
   clear HA
   simp only [r3_Do.j0] at H
   by_cases c11 : x15_3 = true
   rotate_left
   ·replace c11 := Bool.eq_false_iff.mpr c11
    subst c11
    rw [if_neg (show ¬ (false = true) by decide)] at H
    obtain ⟨t1154, A12, H⟩ := oB H
    try dsimp only at H
    obtain ⟨⟨t1157, t1160⟩, A13, H⟩ := oB H
    try dsimp only at H
    simp only [Option.some.injEq, Prod.mk.injEq] at H
    obtain ⟨rfl, rfl⟩ := H
    go_wp2_with (first | ((with_reducible refine gate_callee (f := 75) rfl ?_); refine gL (some 19) rfl Try.func75 #[.int .i64 a0, .slice A1 l1.length c1, .slice A2 l2.length c2] rfl ?_; (with_reducible refine (r3_Combine.calls kj3 a0 (fun k_ => k_ < w.heap.size) _ _ l1 (fun k_ => k_ < w.heap.size) _ _ l2 t1154 _ ?side1 ?side2 A12.out).mono ?_); (case side1 => exact Kd.V_mk HC1.out (Kd.F_below (Kd.C_F k65_heap HR1.out) bO)); (case side2 => exact Kd.V_mk HC2.out (Kd.F_below (Kd.C_F k65_heap HR2.out) bO)); rintro e w14 ⟨v1155, rfl, ho0, hb⟩; refine ⟨_, rfl, ?_⟩; have n0_ := aK (Kd.R_lower (Kd.R_mono (ok' := fun k_ => True) ho0 (fun _ hk_ => trivial)) (below_size bO)); have n1_ := aK (below_step bO hb); clear HB; have HO1156 := n0_; have HB := n1_; clear n0_ n1_; (try clear hb ho0); obtain ⟨Ao15, co15, eo15⟩ := Kd.R_slice HO1156.out; subst eo15) | ((with_reducible refine gate_callee (f := 103) rfl ?_); refine gL (some 20) rfl Try.func103 #[.slice Ao15 t1154.length co15] rfl ?_; (with_reducible refine (partsyncref03_limited.calls (fun k_ => some k_ = (.slice Ao15 t1154.length co15 : Value).ownBlock) (.slice Ao15 t1154.length co15) t1154 t1157 t1160 w _ ?side1 ?side2 A13.out).mono ?_); (case side1 => exact bO); (case side2 => exact Kd.R_tight rfl HO1156.out); rintro e w16 ⟨v1158, rfl, ho0, hb, hkp⟩; refine ⟨_, rfl, ?_⟩; have n0_ := aK (Kd.R_mono (ok' := fun k_ => True) ho0 (fun k_ hk_ => trivial)); have n1_ := aK (hb); clear HB HO1156; have HO1159 := n0_; have HB := n1_; clear n0_ n1_; (try clear hb hkp ho0)))
    go_ret2
    exact ⟨_, eW, rX HO1159.out, bO⟩
   subst c11
   rw [if_pos rfl] at H
   simp only [Option.some.injEq, Prod.mk.injEq] at H
   obtain ⟨rfl, rfl⟩ := H
   go_wp2
   go_ret2
   exact ⟨_, eW, by first | exact Kd.R_nil _ _ _ _ _ | exact Kd.N_nil _ _ _ _ _ | exact Kd.V_nil _ _ _ _ _ | exact Kd.Q_nil _ _ _ _ _ | exact Kd.S_nil _ _ _ _ _, bO⟩
def r3_Complement.f (k : Nat) (l0 : List (S65)) : Option ((List (S65)) × Int) := (r3_All.f).bind fun t1161 => ((r3_Do.f k 3 t1161 l0).bind fun bt1164 => (some (bt1164.1, bt1164.2)))
set_option maxHeartbeats 8000000 in
set_option maxRecDepth 100000 in
theorem r3_Complement.calls (k : Nat) (A0 : Option Addr) (c0 : Nat) (l0 : List (S65)) (r1 : List (S65)) (r2 : Int) (w : World) (hr0 : Kd.C k65 w A0 l0.length l0) (hc0 : l0.length ≤ c0) (h : r3_Complement.f k l0 = some (r1, r2)) :
  Calls Try.prog 68 #[.slice A0 l0.length c0] w fun e w' => ∃ v0_ : Value, e = .returned (.tuple #[v0_, .int .i64 r2]) ∧ Kd.R k65 65 w' w.heap.size (fun _ => True) v0_ r1 ∧ Below w.heap.size w w' := by
 have HR0 := Aside0.mk hr0
 have HC0 := Aside0.mk hc0
 clear hr0 hc0
 have HB := aK (Below.refl w.heap.size w)
 have H : ((r3_All.f).bind fun t1161 => ((r3_Do.f k 3 t1161 l0).bind fun bt1164 => (some (bt1164.1, bt1164.2)))) = some (r1, r2) := h
 clear h
 obtain ⟨t1161, A2, H⟩ := oB H
 try dsimp only at H
 obtain ⟨⟨t1164, t1165⟩, A3, H⟩ := oB H
 try dsimp only at H
 simp only [Option.some.injEq, Prod.mk.injEq] at H
 obtain ⟨rfl, rfl⟩ := H
 go_enter Try.func68, Try.ntmps68
 go_wp2_with (first | ((with_reducible refine gate_callee (f := 48) rfl ?_); refine gL (some 4) rfl Try.func48 #[] rfl ?_; (with_reducible refine (r3_All.calls  t1161 _ A2.out).mono ?_); rintro e w4 ⟨v1162, rfl, ho0, hb⟩; refine ⟨_, rfl, ?_⟩; have n0_ := aK (Kd.R_lower ho0 (below_size bO)); have n1_ := aK (below_step bO hb); clear HB; have HO1163 := n0_; have HB := n1_; clear n0_ n1_; (try clear hb ho0); obtain ⟨Ao5, co5, eo5⟩ := Kd.R_slice HO1163.out; subst eo5) | ((with_reducible refine gate_callee (f := 93) rfl ?_); refine gL (some 6) rfl Try.func93 #[.int .i64 3, .slice Ao5 t1161.length co5, .slice A0 l0.length c0] rfl ?_; (with_reducible refine (r3_Do.calls k 3 _ _ t1161 _ _ l0 t1164 t1165 _ ?side1 ?side2 ?side3 ?side4 A3.out).mono ?_); (case side1 => exact cX (Kd.R_reads' HO1163.out).2.2); (case side2 => exact (Kd.R_reads' HO1163.out).2.1); (case side3 => repeat (first | exact (Kd.C_below HR0.out HB.out) | (with_reducible refine Kd.C_alloc ?_ _) | (with_reducible refine Kd.C_drewN ?_ _) | (with_reducible refine Kd.C_drew ?_))); (case side4 => exact HC0.out); rintro e w6 ⟨v1166, rfl, ho0, hb⟩; refine ⟨_, rfl, ?_⟩; have n0_ := aK (Kd.R_elder' (rX HO1163.out) (Kd.R_base ho0) hb); have n1_ := aK (Kd.R_lower (Kd.R_new' ho0 (Kd.R_lt (rX HO1163.out))) (below_size bO)); have n2_ := aK (below_step bO hb); clear HO1163 HB; have HO1163 := n0_; have HO1167 := n1_; have HB := n2_; clear n0_ n1_ n2_; (try clear hb ho0)))
 go_ret2
 exact ⟨_, eW, by (with_reducible repeat (first | apply Kd.R_alloc | apply Kd.R_drewN | apply Kd.R_drew)); exact Kd.R_mono HO1167.out (fun _ hk => trivial), bO⟩
def r3_Union.f (k : Nat) (l0 : List (S65)) (l1 : List (S65)) : Option ((List (S65)) × Int) := (r3_Do.f k 1 l0 l1).bind fun bt1168 => (some (bt1168.1, bt1168.2))
set_option maxHeartbeats 8000000 in
set_option maxRecDepth 100000 in
theorem r3_Union.calls (k : Nat) (A0 : Option Addr) (c0 : Nat) (l0 : List (S65)) (A1 : Option Addr) (c1 : Nat) (l1 : List (S65)) (r1 : List (S65)) (r2 : Int) (w : World) (hr0 : Kd.C k65 w A0 l0.length l0) (hc0 : l0.length ≤ c0) (hr1 : Kd.C k65 w A1 l1.length l1) (hc1 : l1.length ≤ c1) (h : r3_Union.f k l0 l1 = some (r1, r2)) :
  Calls Try.prog 69 #[.slice A0 l0.length c0, .slice A1 l1.length c1] w fun e w' => ∃ v0_ : Value, e = .returned (.tuple #[v0_, .int .i64 r2]) ∧ Kd.R k65 65 w' w.heap.size (fun _ => True) v0_ r1 ∧ Below w.heap.size w w' := by
 have HR0 := Aside0.mk hr0
 have HC0 := Aside0.mk hc0
 clear hr0 hc0
 have HR1 := Aside0.mk hr1
 have HC1 := Aside0.mk hc1
 clear hr1 hc1
 have HB := aK (Below.refl w.heap.size w)
 have H : ((r3_Do.f k 1 l0 l1).bind fun bt1168 => (some (bt1168.1, bt1168.2))) = some (r1, r2) := h
 clear h
 obtain ⟨⟨t1168, t1169⟩, A3, H⟩ := oB H
 try dsimp only at H
 simp only [Option.some.injEq, Prod.mk.injEq] at H
 obtain ⟨rfl, rfl⟩ := H
 go_enter Try.func69, Try.ntmps69
 go_wp2_with (first | ((with_reducible refine gate_callee (f := 93) rfl ?_); refine gL (some 8) rfl Try.func93 #[.int .i64 1, .slice A0 l0.length c0, .slice A1 l1.length c1] rfl ?_; (with_reducible refine (r3_Do.calls k 1 _ _ l0 _ _ l1 t1168 t1169 _ ?side1 ?side2 ?side3 ?side4 A3.out).mono ?_); (case side1 => exact cX HR0.out); (case side2 => exact HC0.out); (case side3 => exact cX HR1.out); (case side4 => exact HC1.out); rintro e w4 ⟨v1170, rfl, ho0, hb⟩; refine ⟨_, rfl, ?_⟩; have n0_ := aK (Kd.R_lower ho0 (below_size bO)); have n1_ := aK (below_step bO hb); clear HB; have HO1171 := n0_; have HB := n1_; clear n0_ n1_; (try clear hb ho0)))
 go_ret2
 exact ⟨_, eW, rX HO1171.out, bO⟩
def r3_Intersect.f (k : Nat) (l0 : List (S65)) (l1 : List (S65)) : Option ((List (S65)) × Int) := (r3_Do.f k 2 l0 l1).bind fun bt1172 => (some (bt1172.1, bt1172.2))
set_option maxHeartbeats 8000000 in
set_option maxRecDepth 100000 in
theorem r3_Intersect.calls (k : Nat) (A0 : Option Addr) (c0 : Nat) (l0 : List (S65)) (A1 : Option Addr) (c1 : Nat) (l1 : List (S65)) (r1 : List (S65)) (r2 : Int) (w : World) (hr0 : Kd.C k65 w A0 l0.length l0) (hc0 : l0.length ≤ c0) (hr1 : Kd.C k65 w A1 l1.length l1) (hc1 : l1.length ≤ c1) (h : r3_Intersect.f k l0 l1 = some (r1, r2)) :
  Calls Try.prog 70 #[.slice A0 l0.length c0, .slice A1 l1.length c1] w fun e w' => ∃ v0_ : Value, e = .returned (.tuple #[v0_, .int .i64 r2]) ∧ Kd.R k65 65 w' w.heap.size (fun _ => True) v0_ r1 ∧ Below w.heap.size w w' := by
 have HR0 := Aside0.mk hr0
 have HC0 := Aside0.mk hc0
 clear hr0 hc0
 have HR1 := Aside0.mk hr1
 have HC1 := Aside0.mk hc1
 clear hr1 hc1
 have HB := aK (Below.refl w.heap.size w)
 have H : ((r3_Do.f k 2 l0 l1).bind fun bt1172 => (some (bt1172.1, bt1172.2))) = some (r1, r2) := h
 clear h
 obtain ⟨⟨t1172, t1173⟩, A3, H⟩ := oB H
 try dsimp only at H
 simp only [Option.some.injEq, Prod.mk.injEq] at H
 obtain ⟨rfl, rfl⟩ := H
 go_enter Try.func70, Try.ntmps70
 go_wp2_with (first | ((with_reducible refine gate_callee (f := 93) rfl ?_); refine gL (some 8) rfl Try.func93 #[.int .i64 2, .slice A0 l0.length c0, .slice A1 l1.length c1] rfl ?_; (with_reducible refine (r3_Do.calls k 2 _ _ l0 _ _ l1 t1172 t1173 _ ?side1 ?side2 ?side3 ?side4 A3.out).mono ?_); (case side1 => exact cX HR0.out); (case side2 => exact HC0.out); (case side3 => exact cX HR1.out); (case side4 => exact HC1.out); rintro e w4 ⟨v1174, rfl, ho0, hb⟩; refine ⟨_, rfl, ?_⟩; have n0_ := aK (Kd.R_lower ho0 (below_size bO)); have n1_ := aK (below_step bO hb); clear HB; have HO1175 := n0_; have HB := n1_; clear n0_ n1_; (try clear hb ho0)))
 go_ret2
 exact ⟨_, eW, rX HO1175.out, bO⟩
def r3_Minus.f (k : Nat) (l0 : List (S65)) (l1 : List (S65)) : Option ((List (S65)) × Int) := (r3_Do.f k 3 l0 l1).bind fun bt1176 => (some (bt1176.1, bt1176.2))
set_option maxHeartbeats 8000000 in
set_option maxRecDepth 100000 in
theorem r3_Minus.calls (k : Nat) (A0 : Option Addr) (c0 : Nat) (l0 : List (S65)) (A1 : Option Addr) (c1 : Nat) (l1 : List (S65)) (r1 : List (S65)) (r2 : Int) (w : World) (hr0 : Kd.C k65 w A0 l0.length l0) (hc0 : l0.length ≤ c0) (hr1 : Kd.C k65 w A1 l1.length l1) (hc1 : l1.length ≤ c1) (h : r3_Minus.f k l0 l1 = some (r1, r2)) :
  Calls Try.prog 71 #[.slice A0 l0.length c0, .slice A1 l1.length c1] w fun e w' => ∃ v0_ : Value, e = .returned (.tuple #[v0_, .int .i64 r2]) ∧ Kd.R k65 65 w' w.heap.size (fun _ => True) v0_ r1 ∧ Below w.heap.size w w' := by
 have HR0 := Aside0.mk hr0
 have HC0 := Aside0.mk hc0
 clear hr0 hc0
 have HR1 := Aside0.mk hr1
 have HC1 := Aside0.mk hc1
 clear hr1 hc1
 have HB := aK (Below.refl w.heap.size w)
 have H : ((r3_Do.f k 3 l0 l1).bind fun bt1176 => (some (bt1176.1, bt1176.2))) = some (r1, r2) := h
 clear h
 obtain ⟨⟨t1176, t1177⟩, A3, H⟩ := oB H
 try dsimp only at H
 simp only [Option.some.injEq, Prod.mk.injEq] at H
 obtain ⟨rfl, rfl⟩ := H
 go_enter Try.func71, Try.ntmps71
 go_wp2_with (first | ((with_reducible refine gate_callee (f := 93) rfl ?_); refine gL (some 8) rfl Try.func93 #[.int .i64 3, .slice A0 l0.length c0, .slice A1 l1.length c1] rfl ?_; (with_reducible refine (r3_Do.calls k 3 _ _ l0 _ _ l1 t1176 t1177 _ ?side1 ?side2 ?side3 ?side4 A3.out).mono ?_); (case side1 => exact cX HR0.out); (case side2 => exact HC0.out); (case side3 => exact cX HR1.out); (case side4 => exact HC1.out); rintro e w4 ⟨v1178, rfl, ho0, hb⟩; refine ⟨_, rfl, ?_⟩; have n0_ := aK (Kd.R_lower ho0 (below_size bO)); have n1_ := aK (below_step bO hb); clear HB; have HO1179 := n0_; have HB := n1_; clear n0_ n1_; (try clear hb ho0)))
 go_ret2
 exact ⟨_, eW, rX HO1179.out, bO⟩
def r3_Covers.f (k : Nat) (l0 : List (S65)) (l1 : List (S65)) : Option (Bool × Int) := (r3_Valid.f k l0).bind fun t1180 => (if t1180 = true then ((r3_Valid.f k l1).bind fun t1181 => (if t1181 = true then ((r3_Combine.f k 3 l1 l0).bind fun t1182 => (some (((t1182.length : Int) == 0), 0))) else (some (false, 30)))) else (some (false, 30)))
set_option maxHeartbeats 8000000 in
set_option maxRecDepth 100000 in
theorem r3_Covers.calls (k : Nat) (A0 : Option Addr) (c0 : Nat) (l0 : List (S65)) (A1 : Option Addr) (c1 : Nat) (l1 : List (S65)) (r1 : Bool) (r2 : Int) (w : World) (hr0 : Kd.C k65 w A0 l0.length l0) (hc0 : l0.length ≤ c0) (hr1 : Kd.C k65 w A1 l1.length l1) (hc1 : l1.length ≤ c1) (h : r3_Covers.f k l0 l1 = some (r1, r2)) :
  Calls Try.prog 72 #[.slice A0 l0.length c0, .slice A1 l1.length c1] w fun e w' => e = .returned (.tuple #[.bool r1, .int .i64 r2]) ∧ Below w.heap.size w w' := by
 have HR0 := Aside0.mk hr0
 have HC0 := Aside0.mk hc0
 clear hr0 hc0
 have HR1 := Aside0.mk hr1
 have HC1 := Aside0.mk hc1
 clear hr1 hc1
 have HB := aK (Below.refl w.heap.size w)
 have H : ((r3_Valid.f k l0).bind fun t1180 => (if t1180 = true then ((r3_Valid.f k l1).bind fun t1181 => (if t1181 = true then ((r3_Combine.f k 3 l1 l0).bind fun t1182 => (some (((t1182.length : Int) == 0), 0))) else (some (false, 30)))) else (some (false, 30)))) = some (r1, r2) := h
 clear h
 obtain ⟨t1180, A3, H⟩ := oB H
 try dsimp only at H
 by_cases c4 : t1180 = true
 rotate_left
 ·replace c4 := Bool.eq_false_iff.mpr c4
  subst c4
  rw [if_neg (show ¬ (false = true) by decide)] at H
  simp only [Option.some.injEq, Prod.mk.injEq] at H
  obtain ⟨rfl, rfl⟩ := H
  go_enter Try.func72, Try.ntmps72
  go_wp2_with (first | ((with_reducible refine gate_callee (f := 61) rfl ?_); refine gL (some 7) rfl Try.func61 #[.slice A0 l0.length c0] rfl ?_; (with_reducible refine (r3_Valid.calls k _ _ l0 false _ ?side1 ?side2 A3.out).mono ?_); (case side1 => exact cX HR0.out); (case side2 => exact HC0.out); rintro e w14 ⟨rfl, hb⟩; refine ⟨_, rfl, ?_⟩; have n0_ := aK (below_step bO hb); clear HB; have HB := n0_; clear n0_; (try clear hb)))
  go_ret2
  exact ⟨eW, bO⟩
 subst c4
 rw [if_pos rfl] at H
 obtain ⟨t1181, A5, H⟩ := oB H
 try dsimp only at H
 by_cases c6 : t1181 = true
 rotate_left
 ·replace c6 := Bool.eq_false_iff.mpr c6
  subst c6
  rw [if_neg (show ¬ (false = true) by decide)] at H
  simp only [Option.some.injEq, Prod.mk.injEq] at H
  obtain ⟨rfl, rfl⟩ := H
  go_enter Try.func72, Try.ntmps72
  go_wp2_with (first | ((with_reducible refine gate_callee (f := 61) rfl ?_); refine gL (some 7) rfl Try.func61 #[.slice A0 l0.length c0] rfl ?_; (with_reducible refine (r3_Valid.calls k _ _ l0 true _ ?side1 ?side2 A3.out).mono ?_); (case side1 => exact cX HR0.out); (case side2 => exact HC0.out); rintro e w12 ⟨rfl, hb⟩; refine ⟨_, rfl, ?_⟩; have n0_ := aK (below_step bO hb); clear HB; have HB := n0_; clear n0_; (try clear hb)) | (go_at_call 61; (with_reducible refine (r3_Valid.calls k _ _ l1 false _ ?side1 ?side2 A5.out).mono ?_); (case side1 => repeat (first | exact (Kd.C_below HR1.out HB.out) | (with_reducible refine Kd.C_alloc ?_ _) | (with_reducible refine Kd.C_drewN ?_ _) | (with_reducible refine Kd.C_drew ?_))); (case side2 => exact HC1.out); rintro e w13 ⟨rfl, hb⟩; have n0_ := aK (below_step bO hb); clear HB; have HB := n0_; clear n0_; (try clear hb)))
  go_ret2
  exact ⟨eW, bO⟩
 subst c6
 rw [if_pos rfl] at H
 obtain ⟨t1182, A7, H⟩ := oB H
 try dsimp only at H
 simp only [Option.some.injEq, Prod.mk.injEq] at H
 obtain ⟨rfl, rfl⟩ := H
 go_enter Try.func72, Try.ntmps72
 go_wp2_with (first | ((with_reducible refine gate_callee (f := 61) rfl ?_); refine gL (some 7) rfl Try.func61 #[.slice A0 l0.length c0] rfl ?_; (with_reducible refine (r3_Valid.calls k _ _ l0 true _ ?side1 ?side2 A3.out).mono ?_); (case side1 => exact cX HR0.out); (case side2 => exact HC0.out); rintro e w8 ⟨rfl, hb⟩; refine ⟨_, rfl, ?_⟩; have n0_ := aK (below_step bO hb); clear HB; have HB := n0_; clear n0_; (try clear hb)) | (go_at_call 61; (with_reducible refine (r3_Valid.calls k _ _ l1 true _ ?side1 ?side2 A5.out).mono ?_); (case side1 => repeat (first | exact (Kd.C_below HR1.out HB.out) | (with_reducible refine Kd.C_alloc ?_ _) | (with_reducible refine Kd.C_drewN ?_ _) | (with_reducible refine Kd.C_drew ?_))); (case side2 => exact HC1.out); rintro e w9 ⟨rfl, hb⟩; have n0_ := aK (below_step bO hb); clear HB; have HB := n0_; clear n0_; (try clear hb)) | ((with_reducible refine gate_callee (f := 75) rfl ?_); refine gL (some 16) rfl Try.func75 #[.int .i64 3, .slice A1 l1.length c1, .slice A0 l0.length c0] rfl ?_; (with_reducible refine (r3_Combine.calls k 3 (fun k_ => k_ < w.heap.size) _ _ l1 (fun k_ => k_ < w.heap.size) _ _ l0 t1182 _ ?side1 ?side2 A7.out).mono ?_); (case side1 => exact Kd.V_mk HC1.out (Kd.F_below (Kd.C_F k65_heap HR1.out) bO)); (case side2 => exact Kd.V_mk HC0.out (Kd.F_below (Kd.C_F k65_heap HR0.out) bO)); rintro e w10 ⟨v1183, rfl, ho0, hb⟩; refine ⟨_, rfl, ?_⟩; have n0_ := aK (Kd.R_lower (Kd.R_mono (ok' := fun k_ => True) ho0 (fun _ hk_ => trivial)) (below_size bO)); have n1_ := aK (below_step bO hb); clear HB; have HO1184 := n0_; have HB := n1_; clear n0_ n1_; (try clear hb ho0); obtain ⟨Ao11, co11, eo11⟩ := Kd.R_slice HO1184.out; subst eo11))
 go_ret2
 exact ⟨eW, bO⟩
end Go.Proofs.Ytpjcdacnhalclaa.Q
