/- A part of a proof: facts of functions that the law calls; conditions stand in each. -/
import Derived.Test.YtpjcdacnhalclaaM14x3
import Derived.Test.YtpjcdacnhalclaaM14x6
import Derived.Test.YtpjcdacnhalclaaM14x9
import Derived.Test.YtpjcdacnhalclaaM14x8
import Derived.Test.YtpjcdacnhalclaaM14x5
set_option linter.unusedVariables false
set_option linter.unusedSimpArgs false
namespace Go.Proofs.Ytpjcdacnhalclaa.Q
open Go.RowKit Go.Proofs.YtpjcdacnhalclaaW.PrintWords Go.Proofs.YtpjcdacnhalclaaW.PrintLast Go.Proofs.YtpjcdacnhalclaaW.PrintMore
attribute [local go_sem] max2_int min2_int max_two min_two max_three min_three max_four min_four
def i_combine.j0 : Nat → List (S65) → List (S65) → (Bool → Bool → Bool) → Bool → Option ((List (S65)) × Int)
 | 0, _, _, _, _ => none
 | k + 1, x0, x1, x2, x16 => if x16 = true then (some (([] : List (S65)), 30)) else ((i_merge.f k x0 x1 x2).bind fun t543 => (if (t543.length : Int) > 64 then (some (([] : List (S65)), 2)) else (some (t543, 0))))
def i_combine.f (k : Nat) (l0 : List (S65)) (l1 : List (S65)) (kp : Bool → Bool → Bool) : Option ((List (S65)) × Int) := (i_Valid.f k l0).bind fun t541 => (if t541 = true then ((i_Valid.f k l1).bind fun t542 => (i_combine.j0 k l0 l1 kp (!t542))) else (i_combine.j0 k l0 l1 kp true))
theorem i_combine.mono_l : ∀ k, (∀ y0 y1 y2 y3, LeO (i_combine.j0 k y0 y1 y2 y3) (i_combine.j0 (k + 1) y0 y1 y2 y3))
 | 0 => fun _ _ _ _ r h => by simp [i_combine.j0] at h
 | k + 1 => by
  have ih0 := i_combine.mono_l k
  ·intro y0 y1 y2 y3
   unfold i_combine.j0
   repeat' first
   | (with_reducible exact ih0 _ _ _ _)
   | (with_reducible exact i_Valid.mono _ _)
   | (with_reducible exact i_merge.mono _ _ _ _)
   | (with_reducible exact LeO.refl _)
   | (with_reducible exact LeO.none _)
   | (with_reducible refine LeO.ite ?_ ?_)
   | (with_reducible refine LeO.bind ?_ (fun _ => ?_))
   | exact ih0 _ _ _ _
   | exact i_Valid.mono _ _
   | exact i_merge.mono _ _ _ _
   | exact LeO.none _
   | refine LeO.ite ?_ ?_
   | refine LeO.bind ?_ (fun _ => ?_)
theorem i_combine.mono : ∀ a0 a1 kp k, LeO (i_combine.f k a0 a1 kp) (i_combine.f (k + 1) a0 a1 kp) := by
 intro a0 a1 kp k
 have ih0 := i_combine.mono_l k
 unfold i_combine.f
 repeat' first
   | (with_reducible exact ih0 _ _ _ _)
   | (with_reducible exact i_Valid.mono _ _)
   | (with_reducible exact i_merge.mono _ _ _ _)
   | (with_reducible exact LeO.refl _)
   | (with_reducible exact LeO.none _)
   | (with_reducible refine LeO.ite ?_ ?_)
   | (with_reducible refine LeO.bind ?_ (fun _ => ?_))
   | exact ih0 _ _ _ _
   | exact i_Valid.mono _ _
   | exact i_merge.mono _ _ _ _
   | exact LeO.none _
   | refine LeO.ite ?_ ?_
   | refine LeO.bind ?_ (fun _ => ?_)
set_option maxHeartbeats 8000000 in
set_option maxRecDepth 100000 in
theorem i_combine.calls (k : Nat) (A0 : Option Addr) (c0 : Nat) (l0 : List (S65)) (A1 : Option Addr) (c1 : Nat) (l1 : List (S65)) (kp : Bool → Bool → Bool) (fk : Nat) (hkp : IsKeep fk kp) (r1 : List (S65)) (r2 : Int) (w : World) (hr0 : Kd.C k65 w A0 l0.length l0) (hc0 : l0.length ≤ c0) (hr1 : Kd.C k65 w A1 l1.length l1) (hc1 : l1.length ≤ c1) (h : i_combine.f k l0 l1 kp = some (r1, r2)) :
  Calls Try.prog 77 #[.slice A0 l0.length c0, .slice A1 l1.length c1, .func (.func fk) #[] #[]] w fun e w' => ∃ v0_ : Value, e = .returned (.tuple #[v0_, .int .i64 r2]) ∧ Kd.R k65 65 w' w.heap.size (fun _ => True) v0_ r1 ∧ Below w.heap.size w w' := by
 have HKP := Aside0.mk hkp
 clear hkp
 have HR0 := Aside0.mk hr0
 have HC0 := Aside0.mk hc0
 clear hr0 hc0
 have HR1 := Aside0.mk hr1
 have HC1 := Aside0.mk hc1
 clear hr1 hc1
 have HB := aK (Below.refl w.heap.size w)
 have H : ((i_Valid.f k l0).bind fun t541 => (if t541 = true then ((i_Valid.f k l1).bind fun t542 => (i_combine.j0 k l0 l1 kp (!t542))) else (i_combine.j0 k l0 l1 kp true))) = some (r1, r2) := h
 clear h
 have HC4 := Aside0.mk H
 clear H
 go_enter Try.func77, Try.ntmps77
 go_upto_region 1 with (fail)
 go_cut [16] (fun v16 wc => ∃ (kq : Nat) (x16_3 : Bool), v16 = .bool x16_3 ∧ Aside0 (i_combine.j0 kq l0 l1 kp x16_3 = some (r1, r2)) ∧ Aside0 (kq ≤ k) ∧ Aside0 (Below w.heap.size w wc))
 case first =>
  have H := HC4.out
  clear HC4
  obtain ⟨t541, A5, H⟩ := oB H
  try dsimp only at H
  by_cases c6 : t541 = true
  rotate_left
  ·replace c6 := Bool.eq_false_iff.mpr c6
   subst c6
   rw [if_neg (show ¬ (false = true) by decide)] at H
   have H' := Aside0.mk H
   clear H
   go_wp2_with (first | ((with_reducible refine gate_callee (f := 37) rfl ?_); refine gL (some 10) rfl Try.func37 #[.slice A0 l0.length c0] rfl ?_; (with_reducible refine (i_Valid.calls k _ _ l0 false _ ?side1 ?side2 A5.out).mono ?_); (case side1 => repeat (first | exact (Kd.C_below HR0.out HB.out) | (with_reducible refine Kd.C_alloc ?_ _) | (with_reducible refine Kd.C_drewN ?_ _) | (with_reducible refine Kd.C_drew ?_))); (case side2 => exact HC0.out); rintro e w10 ⟨rfl, hb⟩; refine ⟨_, rfl, ?_⟩; have n0_ := aK (below_step bO hb); clear HB; have HB := n0_; clear n0_; (try clear hb)))
   go_meet
   case rel => exact ⟨_, (true), (by first | rfl | (simp; done) | (simp [*]; done)), H', ⟨by first | omega | exact Nat.le_refl _⟩, ⟨bO⟩⟩
  subst c6
  rw [if_pos rfl] at H
  obtain ⟨t542, A7, H⟩ := oB H
  try dsimp only at H
  have H' := Aside0.mk H
  clear H
  go_wp2_with (first | ((with_reducible refine gate_callee (f := 37) rfl ?_); refine gL (some 10) rfl Try.func37 #[.slice A0 l0.length c0] rfl ?_; (with_reducible refine (i_Valid.calls k _ _ l0 true _ ?side1 ?side2 A5.out).mono ?_); (case side1 => repeat (first | exact (Kd.C_below HR0.out HB.out) | (with_reducible refine Kd.C_alloc ?_ _) | (with_reducible refine Kd.C_drewN ?_ _) | (with_reducible refine Kd.C_drew ?_))); (case side2 => exact HC0.out); rintro e w8 ⟨rfl, hb⟩; refine ⟨_, rfl, ?_⟩; have n0_ := aK (below_step bO hb); clear HB; have HB := n0_; clear n0_; (try clear hb)) | (go_at_call 37; (with_reducible refine (i_Valid.calls k _ _ l1 t542 _ ?side1 ?side2 A7.out).mono ?_); (case side1 => repeat (first | exact (Kd.C_below HR1.out HB.out) | (with_reducible refine Kd.C_alloc ?_ _) | (with_reducible refine Kd.C_drewN ?_ _) | (with_reducible refine Kd.C_drew ?_))); (case side2 => exact HC1.out); rintro e w9 ⟨rfl, hb⟩; have n0_ := aK (below_step bO hb); clear HB; have HB := n0_; clear n0_; (try clear hb)))
  go_meet
  case rel => exact ⟨_, (!t542), (by first | rfl | (simp; done) | (simp [*]; done)), H', ⟨by first | omega | exact Nat.le_refl _⟩, ⟨bO⟩⟩
 case rest =>
  clear HC4
  try clear c1
  try clear p2
  try clear c3
  try clear c6
  try clear c7
  obtain ⟨kq, x16_3, rfl, HA, HJ3, HB⟩ := hcut
  cases kq with
  | zero => exact absurd HA.out (by simp [i_combine.j0])
  | succ kj3 =>
   have H := HA.out
   clear HA
   simp only [i_combine.j0] at H
   by_cases c11 : x16_3 = true
   rotate_left
   ·replace c11 := Bool.eq_false_iff.mpr c11
    subst c11
    rw [if_neg (show ¬ (false = true) by decide)] at H
    obtain ⟨t543, A12, H⟩ := oB H
    try dsimp only at H
    by_cases c13 : (t543.length : Int) > 64
    rotate_left
    ·rw [if_neg c13] at H
     have c13b0 : decide (64 < (t543.length : Int)) = false := decide_eq_false c13
     have c13b1 : decide (64 < t543.length) = false := decide_eq_false (by omega)
     clear c13
     simp only [Option.some.injEq, Prod.mk.injEq] at H
     obtain ⟨rfl, rfl⟩ := H
     go_wp2_with (first | ((with_reducible refine gate_callee (f := 82) rfl ?_); refine gL (some 20) rfl Try.func82 #[.slice A0 l0.length c0, .slice A1 l1.length c1, .func (.func fk) #[] #[]] rfl ?_; (with_reducible refine (i_merge.calls kj3 (fun k_ => k_ < w.heap.size) _ _ l0 (fun k_ => k_ < w.heap.size) _ _ l1 kp fk HKP.out t543 _ ?side1 ?side2 A12.out).mono ?_); (case side1 => exact Kd.V_mk HC0.out (Kd.F_below (Kd.C_F k65_heap HR0.out) bO)); (case side2 => exact Kd.V_mk HC1.out (Kd.F_below (Kd.C_F k65_heap HR1.out) bO)); rintro e w16 ⟨v544, rfl, ho0, hb⟩; refine ⟨_, rfl, ?_⟩; have n0_ := aK (Kd.R_lower (Kd.R_mono (ok' := fun k_ => True) ho0 (fun _ hk_ => trivial)) (below_size bO)); have n1_ := aK (below_step bO hb); clear HB; have HO545 := n0_; have HB := n1_; clear n0_ n1_; (try clear hb ho0); obtain ⟨Ao17, co17, eo17⟩ := Kd.R_slice HO545.out; subst eo17))
     go_ret2
     exact ⟨_, eW, rX HO545.out, bO⟩
    rw [if_pos c13] at H
    have c13b0 : decide (64 < (t543.length : Int)) = true := decide_eq_true c13
    have c13b1 : decide (64 < t543.length) = true := decide_eq_true (by omega)
    clear c13
    simp only [Option.some.injEq, Prod.mk.injEq] at H
    obtain ⟨rfl, rfl⟩ := H
    go_wp2_with (first | ((with_reducible refine gate_callee (f := 82) rfl ?_); refine gL (some 20) rfl Try.func82 #[.slice A0 l0.length c0, .slice A1 l1.length c1, .func (.func fk) #[] #[]] rfl ?_; (with_reducible refine (i_merge.calls kj3 (fun k_ => k_ < w.heap.size) _ _ l0 (fun k_ => k_ < w.heap.size) _ _ l1 kp fk HKP.out t543 _ ?side1 ?side2 A12.out).mono ?_); (case side1 => exact Kd.V_mk HC0.out (Kd.F_below (Kd.C_F k65_heap HR0.out) bO)); (case side2 => exact Kd.V_mk HC1.out (Kd.F_below (Kd.C_F k65_heap HR1.out) bO)); rintro e w14 ⟨v544, rfl, ho0, hb⟩; refine ⟨_, rfl, ?_⟩; have n0_ := aK (Kd.R_lower (Kd.R_mono (ok' := fun k_ => True) ho0 (fun _ hk_ => trivial)) (below_size bO)); have n1_ := aK (below_step bO hb); clear HB; have HO545 := n0_; have HB := n1_; clear n0_ n1_; (try clear hb ho0); obtain ⟨Ao15, co15, eo15⟩ := Kd.R_slice HO545.out; subst eo15))
    go_ret2
    exact ⟨_, eW, by first | exact Kd.R_nil _ _ _ _ _ | exact Kd.N_nil _ _ _ _ _ | exact Kd.V_nil _ _ _ _ _ | exact Kd.Q_nil _ _ _ _ _ | exact Kd.S_nil _ _ _ _ _, bO⟩
   subst c11
   rw [if_pos rfl] at H
   simp only [Option.some.injEq, Prod.mk.injEq] at H
   obtain ⟨rfl, rfl⟩ := H
   go_wp2
   go_ret2
   exact ⟨_, eW, by first | exact Kd.R_nil _ _ _ _ _ | exact Kd.N_nil _ _ _ _ _ | exact Kd.V_nil _ _ _ _ _ | exact Kd.Q_nil _ _ _ _ _ | exact Kd.S_nil _ _ _ _ _, bO⟩
def i_Union.f (k : Nat) (l0 : List (S65)) (l1 : List (S65)) : Option ((List (S65)) × Int) := (i_combine.f k l0 l1 kOr).bind fun bt546 => (some (bt546.1, bt546.2))
theorem i_Union.mono : ∀ a0 a1 k, LeO (i_Union.f k a0 a1) (i_Union.f (k + 1) a0 a1) := by
 intro a0 a1 k
 unfold i_Union.f
 repeat' first
   | (with_reducible exact i_combine.mono _ _ _ _)
   | (with_reducible exact LeO.refl _)
   | (with_reducible exact LeO.none _)
   | (with_reducible refine LeO.ite ?_ ?_)
   | (with_reducible refine LeO.bind ?_ (fun _ => ?_))
   | exact i_combine.mono _ _ _ _
   | exact LeO.none _
   | refine LeO.ite ?_ ?_
   | refine LeO.bind ?_ (fun _ => ?_)
set_option maxHeartbeats 8000000 in
set_option maxRecDepth 100000 in
theorem i_Union.calls (k : Nat) (A0 : Option Addr) (c0 : Nat) (l0 : List (S65)) (A1 : Option Addr) (c1 : Nat) (l1 : List (S65)) (r1 : List (S65)) (r2 : Int) (w : World) (hr0 : Kd.C k65 w A0 l0.length l0) (hc0 : l0.length ≤ c0) (hr1 : Kd.C k65 w A1 l1.length l1) (hc1 : l1.length ≤ c1) (h : i_Union.f k l0 l1 = some (r1, r2)) :
  Calls Try.prog 30 #[.slice A0 l0.length c0, .slice A1 l1.length c1] w fun e w' => ∃ v0_ : Value, e = .returned (.tuple #[v0_, .int .i64 r2]) ∧ Kd.R k65 65 w' w.heap.size (fun _ => True) v0_ r1 ∧ Below w.heap.size w w' := by
 have HR0 := Aside0.mk hr0
 have HC0 := Aside0.mk hc0
 clear hr0 hc0
 have HR1 := Aside0.mk hr1
 have HC1 := Aside0.mk hc1
 clear hr1 hc1
 have HB := aK (Below.refl w.heap.size w)
 have H : ((i_combine.f k l0 l1 kOr).bind fun bt546 => (some (bt546.1, bt546.2))) = some (r1, r2) := h
 clear h
 obtain ⟨⟨t546, t547⟩, A3, H⟩ := oB H
 try dsimp only at H
 simp only [Option.some.injEq, Prod.mk.injEq] at H
 obtain ⟨rfl, rfl⟩ := H
 go_enter Try.func30, Try.ntmps30
 go_wp2_with (first | ((with_reducible refine gate_callee (f := 77) rfl ?_); refine gL (some 8) rfl Try.func77 #[.slice A0 l0.length c0, .slice A1 l1.length c1, .func (.func 78) #[] #[]] rfl ?_; (with_reducible refine (i_combine.calls k _ _ l0 _ _ l1 kOr 78 keep78 t546 t547 _ ?side1 ?side2 ?side3 ?side4 A3.out).mono ?_); (case side1 => exact cX HR0.out); (case side2 => exact HC0.out); (case side3 => exact cX HR1.out); (case side4 => exact HC1.out); rintro e w4 ⟨v548, rfl, ho0, hb⟩; refine ⟨_, rfl, ?_⟩; have n0_ := aK (Kd.R_lower ho0 (below_size bO)); have n1_ := aK (below_step bO hb); clear HB; have HO549 := n0_; have HB := n1_; clear n0_ n1_; (try clear hb ho0)))
 go_ret2
 exact ⟨_, eW, rX HO549.out, bO⟩
def i_Has.f (k : Nat) (l0 : List (S65)) (a1_0 : Int) (a1_1 : Int) (a1_2 : ByteArray) : Option (Bool) := (v_Valid.f k a1_0 a1_1 a1_2).bind fun t568 => (if t568 = true then ((i_Valid.f k l0).bind fun t569 => (if t569 = true then ((i_contains.f k l0 a1_0 a1_1 a1_2).bind fun t570 => (some t570)) else (some false))) else (some false))
theorem i_Has.mono : ∀ a0 a1 a2 a3 k, LeO (i_Has.f k a0 a1 a2 a3) (i_Has.f (k + 1) a0 a1 a2 a3) := by
 intro a0 a1 a2 a3 k
 unfold i_Has.f
 repeat' first
   | (with_reducible exact i_Valid.mono _ _)
   | (with_reducible exact i_contains.mono _ _ _ _ _)
   | (with_reducible exact v_Valid.mono _ _ _ _)
   | (with_reducible exact LeO.refl _)
   | (with_reducible exact LeO.none _)
   | (with_reducible refine LeO.ite ?_ ?_)
   | (with_reducible refine LeO.bind ?_ (fun _ => ?_))
   | exact i_Valid.mono _ _
   | exact i_contains.mono _ _ _ _ _
   | exact v_Valid.mono _ _ _ _
   | exact LeO.none _
   | refine LeO.ite ?_ ?_
   | refine LeO.bind ?_ (fun _ => ?_)
set_option maxHeartbeats 8000000 in
set_option maxRecDepth 100000 in
theorem i_Has.calls (k : Nat) (A0 : Option Addr) (c0 : Nat) (l0 : List (S65)) (a1_0 : Int) (a1_1 : Int) (a1_2 : ByteArray) (r : Bool) (w : World) (hr0 : Kd.C k65 w A0 l0.length l0) (hc0 : l0.length ≤ c0) (h : i_Has.f k l0 a1_0 a1_1 a1_2 = some r) :
  Calls Try.prog 35 #[.slice A0 l0.length c0, .agg #[.int .i64 a1_0, .int .i64 a1_1, .string a1_2]] w fun e w' => e = .returned (.bool r) ∧ Below w.heap.size w w' := by
 have hu24 := Try.underlying24
 have HR0 := Aside0.mk hr0
 have HC0 := Aside0.mk hc0
 clear hr0 hc0
 have HB := aK (Below.refl w.heap.size w)
 have H : ((v_Valid.f k a1_0 a1_1 a1_2).bind fun t568 => (if t568 = true then ((i_Valid.f k l0).bind fun t569 => (if t569 = true then ((i_contains.f k l0 a1_0 a1_1 a1_2).bind fun t570 => (some t570)) else (some false))) else (some false))) = some r := h
 clear h
 obtain ⟨t568, A3, H⟩ := oB H
 try dsimp only at H
 by_cases c4 : t568 = true
 rotate_left
 ·replace c4 := Bool.eq_false_iff.mpr c4
  subst c4
  rw [if_neg (show ¬ (false = true) by decide)] at H
  obtain rfl := Option.some.inj H
  go_enter Try.func35, Try.ntmps35
  go_wp2_with (first | ((with_reducible refine gate_dst (N := 3) rfl ?_); refine box_event ?hg (N := 3) ?hd (cs := #[.int .i64 a1_0, .int .i64 a1_1, .string a1_2]) (t := 24) ?hr ?_; (case hd => rfl); (case hg => rfl); (case hr => exact hR); intro gb567 hg w18 hbox hb; have n0_ := aK (below_step bO hb); have n1_ := aK (hbox); have n2_ := aK ((by rw [hg]; exact (below_size bO) : w.heap.size ≤ gb567)); have n3_ := aK ((by rw [hg]; exact (below_size bO) : w.heap.size ≤ gb567)); clear HB; have HB := n0_; have BK567 := n1_; have GW567 := n2_; have GE567 := n3_; clear n0_ n1_ n2_ n3_ hb hbox hg; obtain ⟨hcz19_0, hcz19_1, hcz19_2⟩ := z3 BK567.out (.int .i64 a1_0) (.int .i64 a1_1) (.string a1_2); obtain ⟨hfz19_0, hfz19_1, hfz19_2⟩ := f3 BK567.out) | ((with_reducible refine gate_callee (f := 21) rfl ?_); refine gL (some 6) rfl Try.func21 #[.agg #[.int .i64 a1_0, .int .i64 a1_1, .string a1_2]] rfl ?_; (with_reducible refine (v_Valid.calls k a1_0 a1_1 a1_2 false _ A3.out).mono ?_); rintro e w20 ⟨rfl, hb⟩; refine ⟨_, rfl, ?_⟩; have n0_ := aK (blk_below (bX BK567.out) hb); have n1_ := aK (below_step (bS GE567.out) hb); clear BK567 HB; have BK567 := n0_; have HB := n1_; clear n0_ n1_; (try clear hb)))
  go_ret
  exact ⟨eW, bS GE567.out⟩
 subst c4
 rw [if_pos rfl] at H
 obtain ⟨t569, A5, H⟩ := oB H
 try dsimp only at H
 by_cases c6 : t569 = true
 rotate_left
 ·replace c6 := Bool.eq_false_iff.mpr c6
  subst c6
  rw [if_neg (show ¬ (false = true) by decide)] at H
  obtain rfl := Option.some.inj H
  go_enter Try.func35, Try.ntmps35
  go_wp2_with (first | ((with_reducible refine gate_dst (N := 3) rfl ?_); refine box_event ?hg (N := 3) ?hd (cs := #[.int .i64 a1_0, .int .i64 a1_1, .string a1_2]) (t := 24) ?hr ?_; (case hd => rfl); (case hg => rfl); (case hr => exact hR); intro gb567 hg w14 hbox hb; have n0_ := aK (below_step bO hb); have n1_ := aK (hbox); have n2_ := aK ((by rw [hg]; exact (below_size bO) : w.heap.size ≤ gb567)); have n3_ := aK ((by rw [hg]; exact (below_size bO) : w.heap.size ≤ gb567)); clear HB; have HB := n0_; have BK567 := n1_; have GW567 := n2_; have GE567 := n3_; clear n0_ n1_ n2_ n3_ hb hbox hg; obtain ⟨hcz15_0, hcz15_1, hcz15_2⟩ := z3 BK567.out (.int .i64 a1_0) (.int .i64 a1_1) (.string a1_2); obtain ⟨hfz15_0, hfz15_1, hfz15_2⟩ := f3 BK567.out) | ((with_reducible refine gate_callee (f := 21) rfl ?_); refine gL (some 6) rfl Try.func21 #[.agg #[.int .i64 a1_0, .int .i64 a1_1, .string a1_2]] rfl ?_; (with_reducible refine (v_Valid.calls k a1_0 a1_1 a1_2 true _ A3.out).mono ?_); rintro e w16 ⟨rfl, hb⟩; refine ⟨_, rfl, ?_⟩; have n0_ := aK (blk_below (bX BK567.out) hb); have n1_ := aK (below_step (bS GE567.out) hb); clear BK567 HB; have BK567 := n0_; have HB := n1_; clear n0_ n1_; (try clear hb)) | (go_at_call 37; (with_reducible refine (i_Valid.calls k _ _ l0 false _ ?side1 ?side2 A5.out).mono ?_); (case side1 => repeat (first | exact (Kd.C_below HR0.out HB.out) | (with_reducible refine Kd.C_alloc ?_ _) | (with_reducible refine Kd.C_drewN ?_ _) | (with_reducible refine Kd.C_drew ?_))); (case side2 => exact HC0.out); rintro e w17 ⟨rfl, hb⟩; have n0_ := aK (blk_below (bX BK567.out) hb); have n1_ := aK (below_step (bS GE567.out) hb); clear BK567 HB; have BK567 := n0_; have HB := n1_; clear n0_ n1_; (try clear hb)))
  go_ret
  exact ⟨eW, bS GE567.out⟩
 subst c6
 rw [if_pos rfl] at H
 obtain ⟨t570, A7, H⟩ := oB H
 try dsimp only at H
 obtain rfl := Option.some.inj H
 go_enter Try.func35, Try.ntmps35
 go_wp2_with (first | ((with_reducible refine gate_dst (N := 3) rfl ?_); refine box_event ?hg (N := 3) ?hd (cs := #[.int .i64 a1_0, .int .i64 a1_1, .string a1_2]) (t := 24) ?hr ?_; (case hd => rfl); (case hg => rfl); (case hr => exact hR); intro gb567 hg w8 hbox hb; have n0_ := aK (below_step bO hb); have n1_ := aK (hbox); have n2_ := aK ((by rw [hg]; exact (below_size bO) : w.heap.size ≤ gb567)); have n3_ := aK ((by rw [hg]; exact (below_size bO) : w.heap.size ≤ gb567)); clear HB; have HB := n0_; have BK567 := n1_; have GW567 := n2_; have GE567 := n3_; clear n0_ n1_ n2_ n3_ hb hbox hg; obtain ⟨hcz9_0, hcz9_1, hcz9_2⟩ := z3 BK567.out (.int .i64 a1_0) (.int .i64 a1_1) (.string a1_2); obtain ⟨hfz9_0, hfz9_1, hfz9_2⟩ := f3 BK567.out) | ((with_reducible refine gate_callee (f := 21) rfl ?_); refine gL (some 6) rfl Try.func21 #[.agg #[.int .i64 a1_0, .int .i64 a1_1, .string a1_2]] rfl ?_; (with_reducible refine (v_Valid.calls k a1_0 a1_1 a1_2 true _ A3.out).mono ?_); rintro e w10 ⟨rfl, hb⟩; refine ⟨_, rfl, ?_⟩; have n0_ := aK (blk_below (bX BK567.out) hb); have n1_ := aK (below_step (bS GE567.out) hb); clear BK567 HB; have BK567 := n0_; have HB := n1_; clear n0_ n1_; (try clear hb)) | (go_at_call 37; (with_reducible refine (i_Valid.calls k _ _ l0 true _ ?side1 ?side2 A5.out).mono ?_); (case side1 => repeat (first | exact (Kd.C_below HR0.out HB.out) | (with_reducible refine Kd.C_alloc ?_ _) | (with_reducible refine Kd.C_drewN ?_ _) | (with_reducible refine Kd.C_drew ?_))); (case side2 => exact HC0.out); rintro e w11 ⟨rfl, hb⟩; have n0_ := aK (blk_below (bX BK567.out) hb); have n1_ := aK (below_step (bS GE567.out) hb); clear BK567 HB; have BK567 := n0_; have HB := n1_; clear n0_ n1_; (try clear hb); obtain ⟨hcz12_0, hcz12_1, hcz12_2⟩ := z3 BK567.out (.int .i64 a1_0) (.int .i64 a1_1) (.string a1_2); obtain ⟨hfz12_0, hfz12_1, hfz12_2⟩ := f3 BK567.out) | (go_at_call 84; (with_reducible refine (i_contains.calls k _ _ l0 a1_0 a1_1 a1_2 t570 _ ?side1 ?side2 A7.out).mono ?_); (case side1 => repeat (first | exact (Kd.C_below HR0.out HB.out) | (with_reducible refine Kd.C_alloc ?_ _) | (with_reducible refine Kd.C_drewN ?_ _) | (with_reducible refine Kd.C_drew ?_))); (case side2 => exact HC0.out); rintro e w13 ⟨rfl, hb⟩; have n0_ := aK (blk_below (bX BK567.out) hb); have n1_ := aK (below_step (bS GE567.out) hb); clear BK567 HB; have BK567 := n0_; have HB := n1_; clear n0_ n1_; (try clear hb)))
 go_ret
 exact ⟨eW, bS GE567.out⟩
def i_Between.j0 : Nat → Bool → Int → Int → ByteArray → Int → Int → ByteArray → Option ((List (S65)) × Int)
 | 0, _, _, _, _, _, _, _ => none
 | k + 1, x13, x572000, x572001, x572002, x573000, x573001, x573002 => if x13 = true then (some (([] : List (S65)), 10)) else ((v_Compare.f x572000 x572001 x572002 x573000 x573001 x573002).bind fun t575 => (if t575 ≥ 0 then (some (([] : List (S65)), 0)) else (some ((([(⟨(⟨x572000, x572001, x572002⟩ : S24), (⟨x573000, x573001, x573002⟩ : S24), false⟩ : S65)] : List (S65))), 0))))
def i_Between.f (k : Nat) (a0_0 : Int) (a0_1 : Int) (a0_2 : ByteArray) (a1_0 : Int) (a1_1 : Int) (a1_2 : ByteArray) : Option ((List (S65)) × Int) := (v_Valid.f k a0_0 a0_1 a0_2).bind fun t573 => (if t573 = true then ((v_Valid.f k a1_0 a1_1 a1_2).bind fun t574 => (i_Between.j0 k (!t574) a0_0 a0_1 a0_2 a1_0 a1_1 a1_2)) else (i_Between.j0 k true a0_0 a0_1 a0_2 a1_0 a1_1 a1_2))
theorem i_Between.mono_l : ∀ k, (∀ y0 y1 y2 y3 y4 y5 y6, LeO (i_Between.j0 k y0 y1 y2 y3 y4 y5 y6) (i_Between.j0 (k + 1) y0 y1 y2 y3 y4 y5 y6))
 | 0 => fun _ _ _ _ _ _ _ r h => by simp [i_Between.j0] at h
 | k + 1 => by
  have ih0 := i_Between.mono_l k
  ·intro y0 y1 y2 y3 y4 y5 y6
   unfold i_Between.j0
   repeat' first
   | (with_reducible exact ih0 _ _ _ _ _ _ _)
   | (with_reducible exact v_Valid.mono _ _ _ _)
   | (with_reducible exact LeO.refl _)
   | (with_reducible exact LeO.none _)
   | (with_reducible refine LeO.ite ?_ ?_)
   | (with_reducible refine LeO.bind ?_ (fun _ => ?_))
   | exact ih0 _ _ _ _ _ _ _
   | exact v_Valid.mono _ _ _ _
   | exact LeO.none _
   | refine LeO.ite ?_ ?_
   | refine LeO.bind ?_ (fun _ => ?_)
theorem i_Between.mono : ∀ a0 a1 a2 a3 a4 a5 k, LeO (i_Between.f k a0 a1 a2 a3 a4 a5) (i_Between.f (k + 1) a0 a1 a2 a3 a4 a5) := by
 intro a0 a1 a2 a3 a4 a5 k
 have ih0 := i_Between.mono_l k
 unfold i_Between.f
 repeat' first
   | (with_reducible exact ih0 _ _ _ _ _ _ _)
   | (with_reducible exact v_Valid.mono _ _ _ _)
   | (with_reducible exact LeO.refl _)
   | (with_reducible exact LeO.none _)
   | (with_reducible refine LeO.ite ?_ ?_)
   | (with_reducible refine LeO.bind ?_ (fun _ => ?_))
   | exact ih0 _ _ _ _ _ _ _
   | exact v_Valid.mono _ _ _ _
   | exact LeO.none _
   | refine LeO.ite ?_ ?_
   | refine LeO.bind ?_ (fun _ => ?_)
set_option maxHeartbeats 8000000 in
set_option maxRecDepth 100000 in
theorem i_Between.calls (k : Nat) (a0_0 : Int) (a0_1 : Int) (a0_2 : ByteArray) (a1_0 : Int) (a1_1 : Int) (a1_2 : ByteArray) (r1 : List (S65)) (r2 : Int) (w : World) (h : i_Between.f k a0_0 a0_1 a0_2 a1_0 a1_1 a1_2 = some (r1, r2)) :
  Calls Try.prog 38 #[.agg #[.int .i64 a0_0, .int .i64 a0_1, .string a0_2], .agg #[.int .i64 a1_0, .int .i64 a1_1, .string a1_2]] w fun e w' => ∃ v0_ : Value, e = .returned (.tuple #[v0_, .int .i64 r2]) ∧ Kd.R k65 65 w' w.heap.size (fun _ => True) v0_ r1 ∧ Below w.heap.size w w' := by
 have hu24 := Try.underlying24
 have hu65 := Try.underlying65
 have HB := aK (Below.refl w.heap.size w)
 have H : ((v_Valid.f k a0_0 a0_1 a0_2).bind fun t573 => (if t573 = true then ((v_Valid.f k a1_0 a1_1 a1_2).bind fun t574 => (i_Between.j0 k (!t574) a0_0 a0_1 a0_2 a1_0 a1_1 a1_2)) else (i_Between.j0 k true a0_0 a0_1 a0_2 a1_0 a1_1 a1_2))) = some (r1, r2) := h
 clear h
 have HC3 := Aside0.mk H
 clear H
 go_enter Try.func38, Try.ntmps38
 go_upto_region 1 with (first | ((with_reducible refine gate_dst (N := 2) rfl ?_); refine box_event ?hg (N := 2) ?hd (cs := #[.int .i64 a0_0, .int .i64 a0_1, .string a0_2]) (t := 24) ?hr ?_; (case hd => rfl); (case hg => rfl); (case hr => exact hR); intro gb571 hg w4 hbox hb; have n0_ := aK (below_step bO hb); have n1_ := aK (hbox); have n2_ := aK ((by rw [hg]; exact (below_size bO) : w.heap.size ≤ gb571)); have n3_ := aK ((by rw [hg]; exact (below_size bO) : w.heap.size ≤ gb571)); clear HB; have HB := n0_; have BK571 := n1_; have GW571 := n2_; have GE571 := n3_; clear n0_ n1_ n2_ n3_ hb hbox hg) | ((with_reducible refine gate_dst (N := 3) rfl ?_); refine box_event ?hg (N := 3) ?hd (cs := #[.int .i64 a1_0, .int .i64 a1_1, .string a1_2]) (t := 24) ?hr ?_; (case hd => rfl); (case hg => rfl); (case hr => exact hR); intro gb572 hg w5 hbox hb; have n0_ := aK (blk_below (bX BK571.out) hb); have n1_ := aK (below_step (bS GE571.out) hb); have n2_ := aK (hbox); have n3_ := aK ((by rw [hg]; exact (below_size (bS GE571.out)) : w.heap.size ≤ gb572)); have n4_ := aK ((by rw [hg]; exact (below_size (bS GE571.out)) : w.heap.size ≤ gb572)); have n5_ := aK ((by rw [hg]; exact Nat.ne_of_lt (blk_lt (bX BK571.out)) : gb571 ≠ gb572)); have n6_ := aK ((by rw [hg]; exact Nat.ne_of_gt (blk_lt (bX BK571.out)) : gb572 ≠ gb571)); clear BK571 HB; have BK571 := n0_; have HB := n1_; have BK572 := n2_; have GW572 := n3_; have GE572 := n4_; have NB571_572 := n5_; have NB572_571 := n6_; clear n0_ n1_ n2_ n3_ n4_ n5_ n6_ hb hbox hg))
 (try simp only [Act.put, List.setIfInBounds_toArray, List.set_cons_zero, List.set_cons_succ])
 go_cut [13] (fun v13 wc => ∃ (kq : Nat) (x13_2 : Bool), v13 = .bool x13_2 ∧ Aside0 (i_Between.j0 kq x13_2 a0_0 a0_1 a0_2 a1_0 a1_1 a1_2 = some (r1, r2)) ∧ Aside0 (kq ≤ k) ∧ Aside0 (wc.heap[gb571]? = some (.cells #[.int .i64 a0_0, .int .i64 a0_1, .string a0_2] 24 (0, 0))) ∧ Aside0 (wc.heap[gb572]? = some (.cells #[.int .i64 a1_0, .int .i64 a1_1, .string a1_2] 24 (0, 0))) ∧ Aside0 (Below w.heap.size w wc))
 case first =>
  have H := HC3.out
  clear HC3
  obtain ⟨t573, A6, H⟩ := oB H
  try dsimp only at H
  by_cases c7 : t573 = true
  rotate_left
  ·replace c7 := Bool.eq_false_iff.mpr c7
   subst c7
   rw [if_neg (show ¬ (false = true) by decide)] at H
   have H' := Aside0.mk H
   clear H
   have hnb14 := NB571_572.out
   have hnc14 := NB572_571.out
   obtain ⟨hcz15_0, hcz15_1, hcz15_2⟩ := z3 BK571.out (.int .i64 a0_0) (.int .i64 a0_1) (.string a0_2)
   obtain ⟨hfz15_0, hfz15_1, hfz15_2⟩ := f3 BK571.out
   go_wp2_with (first | ((with_reducible refine gate_callee (f := 21) rfl ?_); refine gL (some 7) rfl Try.func21 #[.agg #[.int .i64 a0_0, .int .i64 a0_1, .string a0_2]] rfl ?_; (with_reducible refine (v_Valid.calls k a0_0 a0_1 a0_2 false _ A6.out).mono ?_); rintro e w16 ⟨rfl, hb⟩; refine ⟨_, rfl, ?_⟩; have n0_ := aK (blk_below (bX BK571.out) hb); have n1_ := aK (blk_below (bX BK572.out) hb); have n2_ := aK (below_step (bT GE571.out GE572.out) hb); clear BK571 BK572 HB; have BK571 := n0_; have BK572 := n1_; have HB := n2_; clear n0_ n1_ n2_; (try clear hb)))
   go_meet
   case rel => exact ⟨_, (true), (by first | rfl | (simp; done) | (simp [*]; done)), H', ⟨by first | omega | exact Nat.le_refl _⟩, ⟨bX BK571.out⟩, ⟨bX BK572.out⟩, ⟨bT GE571.out GE572.out⟩⟩
  subst c7
  rw [if_pos rfl] at H
  obtain ⟨t574, A8, H⟩ := oB H
  try dsimp only at H
  have H' := Aside0.mk H
  clear H
  have hnb9 := NB571_572.out
  have hnc9 := NB572_571.out
  obtain ⟨hcz10_0, hcz10_1, hcz10_2⟩ := z3 BK571.out (.int .i64 a0_0) (.int .i64 a0_1) (.string a0_2)
  obtain ⟨hfz10_0, hfz10_1, hfz10_2⟩ := f3 BK571.out
  go_wp2_with (first | ((with_reducible refine gate_callee (f := 21) rfl ?_); refine gL (some 7) rfl Try.func21 #[.agg #[.int .i64 a0_0, .int .i64 a0_1, .string a0_2]] rfl ?_; (with_reducible refine (v_Valid.calls k a0_0 a0_1 a0_2 true _ A6.out).mono ?_); rintro e w11 ⟨rfl, hb⟩; refine ⟨_, rfl, ?_⟩; have n0_ := aK (blk_below (bX BK571.out) hb); have n1_ := aK (blk_below (bX BK572.out) hb); have n2_ := aK (below_step (bT GE571.out GE572.out) hb); clear BK571 BK572 HB; have BK571 := n0_; have BK572 := n1_; have HB := n2_; clear n0_ n1_ n2_; (try clear hb); obtain ⟨hcz12_0, hcz12_1, hcz12_2⟩ := z3 BK572.out (.int .i64 a1_0) (.int .i64 a1_1) (.string a1_2); obtain ⟨hfz12_0, hfz12_1, hfz12_2⟩ := f3 BK572.out) | (go_at_call 21; (with_reducible refine (v_Valid.calls k a1_0 a1_1 a1_2 t574 _ A8.out).mono ?_); rintro e w13 ⟨rfl, hb⟩; have n0_ := aK (blk_below (bX BK571.out) hb); have n1_ := aK (blk_below (bX BK572.out) hb); have n2_ := aK (below_step (bT GE571.out GE572.out) hb); clear BK571 BK572 HB; have BK571 := n0_; have BK572 := n1_; have HB := n2_; clear n0_ n1_ n2_; (try clear hb)))
  go_meet
  case rel => exact ⟨_, (!t574), (by first | rfl | (simp; done) | (simp [*]; done)), H', ⟨by first | omega | exact Nat.le_refl _⟩, ⟨bX BK571.out⟩, ⟨bX BK572.out⟩, ⟨bT GE571.out GE572.out⟩⟩
 case rest =>
  clear HC3
  try clear c1
  try clear c2
  try clear p2
  try clear c3
  try clear c7
  try clear c9
  try clear c14
  try clear hcz10_0 hcz10_1 hcz10_2
  try clear hcz12_0 hcz12_1 hcz12_2
  try clear hcz15_0 hcz15_1 hcz15_2
  try clear hfz10_0 hfz10_1 hfz10_2
  try clear hfz12_0 hfz12_1 hfz12_2
  try clear hfz15_0 hfz15_1 hfz15_2
  obtain ⟨kq, x13_2, rfl, HA, HJ2, BK571, BK572, HB⟩ := hcut
  cases kq with
  | zero => exact absurd HA.out (by simp [i_Between.j0])
  | succ kj2 =>
   have H := HA.out
   clear HA
   simp only [i_Between.j0] at H
   by_cases c17 : x13_2 = true
   rotate_left
   ·replace c17 := Bool.eq_false_iff.mpr c17
    subst c17
    rw [if_neg (show ¬ (false = true) by decide)] at H
    obtain ⟨t575, A18, H⟩ := oB H
    try dsimp only at H
    by_cases c19 : t575 ≥ 0
    rotate_left
    ·rw [if_neg c19] at H
     have c19b0 : decide (0 ≤ t575) = false := decide_eq_false c19
     clear c19
     obtain ⟨y576, hy576⟩ : ∃ y_ : List (S65), y_ = (([(⟨(⟨a0_0, a0_1, a0_2⟩ : S24), (⟨a1_0, a1_1, a1_2⟩ : S24), false⟩ : S65)] : List (S65))) := ⟨_, rfl⟩
     replace H : (some (y576, 0)) = some (r1, r2) := by first | (rw [hy576]; with_reducible exact H) | (have H2_ := (Option.bind_some _ _).symm.trans H; rw [hy576]; with_reducible exact H2_) | (have H2_ := (Option.bind_some _ _).symm.trans H; with_reducible exact H2_) | with_reducible exact H | (rw [hy576]; exact H) | exact H
     have Ny576 := Aside0.mk hy576
     clear hy576
     simp only [Option.some.injEq, Prod.mk.injEq] at H
     obtain ⟨rfl, rfl⟩ := H
     have hnb24 := NB571_572.out
     have hnc24 := NB572_571.out
     obtain ⟨hcz25_0, hcz25_1, hcz25_2⟩ := z3 BK571.out (.int .i64 a0_0) (.int .i64 a0_1) (.string a0_2)
     obtain ⟨hfz25_0, hfz25_1, hfz25_2⟩ := f3 BK571.out
     obtain ⟨hcz26_0, hcz26_1, hcz26_2⟩ := z3 BK572.out (.int .i64 a1_0) (.int .i64 a1_1) (.string a1_2)
     obtain ⟨hfz26_0, hfz26_1, hfz26_2⟩ := f3 BK572.out
     go_wp2_with (first | ((with_reducible refine gate_callee (f := 25) rfl ?_); refine gL (some 16) rfl Try.func25 #[.agg #[.int .i64 a0_0, .int .i64 a0_1, .string a0_2], .agg #[.int .i64 a1_0, .int .i64 a1_1, .string a1_2]] rfl ?_; (with_reducible refine (v_Compare.calls a0_0 a0_1 a0_2 a1_0 a1_1 a1_2 t575 _ A18.out).mono ?_); rintro e w27 ⟨rfl, hb⟩; refine ⟨_, rfl, ?_⟩; have n0_ := aK (blk_below (bX BK571.out) hb); have n1_ := aK (blk_below (bX BK572.out) hb); have n2_ := aK (below_step (bT GE571.out GE572.out) hb); clear BK571 BK572 HB; have BK571 := n0_; have BK572 := n1_; have HB := n2_; clear n0_ n1_ n2_; (try clear hb); obtain ⟨hcz28_0, hcz28_1, hcz28_2⟩ := z3 BK571.out (.int .i64 a0_0) (.int .i64 a0_1) (.string a0_2); obtain ⟨hfz28_0, hfz28_1, hfz28_2⟩ := f3 BK571.out; obtain ⟨hcz29_0, hcz29_1, hcz29_2⟩ := z3 BK572.out (.int .i64 a1_0) (.int .i64 a1_1) (.string a1_2); obtain ⟨hfz29_0, hfz29_1, hfz29_2⟩ := f3 BK572.out) | ((with_reducible refine gate_dst (N := 21) rfl ?_); refine Kd.R_lit k65 _ 65 ?hg (N := 21) ?hd (xs := ([(⟨(⟨a0_0, a0_1, a0_2⟩ : S24), (⟨a1_0, a1_1, a1_2⟩ : S24), false⟩ : S65)] : List (S65))) (inner := [.int .i64 a0_0, .int .i64 a0_1, .string a0_2, .int .i64 a1_0, .int .i64 a1_1, .string a1_2, .bool false]) (ok := fun _ => True) (okp := fun _ => True) ?hr ?hp (fun _ hk => hk) trivial (Below.refl _ _) (Nat.le_refl _) (by simp) ?_; (case hd => rfl); (case hg => rfl); (case hr => exact hR); (case hp => exact (Reps.c7 (show Kd.M k65 _ _ _ (⟨(⟨a0_0, a0_1, a0_2⟩ : S24), (⟨a1_0, a1_1, a1_2⟩ : S24), false⟩ : S65) [.int .i64 a0_0, .int .i64 a0_1, .string a0_2, .int .i64 a1_0, .int .i64 a1_1, .string a1_2, .bool false] from (k65_mkM _ _ _ (⟨(⟨a0_0, a0_1, a0_2⟩ : S24), (⟨a1_0, a1_1, a1_2⟩ : S24), false⟩ : S65) )) (Reps.none _ _))); intro v577 w30 ho31 hb hg_ hnew_; clear hg_ hnew_; (first | rw [← Ny576.out] at ho31 | (simp only [Int.reduceToNat] at ho31; rw [← Ny576.out] at ho31)); have n0_ := aK (Kd.R_lower ho31 (below_size (bT GE571.out GE572.out))); have n1_ := aK (blk_below (bX BK571.out) hb); have n2_ := aK (blk_below (bX BK572.out) hb); have n3_ := aK (below_step (bT GE571.out GE572.out) hb); clear BK571 BK572 HB; have HO578 := n0_; have BK571 := n1_; have BK572 := n2_; have HB := n3_; clear n0_ n1_ n2_ n3_ hb ho31))
     go_ret2
     exact ⟨_, eW, rX HO578.out, bT GE571.out GE572.out⟩
    rw [if_pos c19] at H
    have c19b0 : decide (0 ≤ t575) = true := decide_eq_true c19
    clear c19
    simp only [Option.some.injEq, Prod.mk.injEq] at H
    obtain ⟨rfl, rfl⟩ := H
    have hnb20 := NB571_572.out
    have hnc20 := NB572_571.out
    obtain ⟨hcz21_0, hcz21_1, hcz21_2⟩ := z3 BK571.out (.int .i64 a0_0) (.int .i64 a0_1) (.string a0_2)
    obtain ⟨hfz21_0, hfz21_1, hfz21_2⟩ := f3 BK571.out
    obtain ⟨hcz22_0, hcz22_1, hcz22_2⟩ := z3 BK572.out (.int .i64 a1_0) (.int .i64 a1_1) (.string a1_2)
    obtain ⟨hfz22_0, hfz22_1, hfz22_2⟩ := f3 BK572.out
    go_wp2_with (first | ((with_reducible refine gate_callee (f := 25) rfl ?_); refine gL (some 16) rfl Try.func25 #[.agg #[.int .i64 a0_0, .int .i64 a0_1, .string a0_2], .agg #[.int .i64 a1_0, .int .i64 a1_1, .string a1_2]] rfl ?_; (with_reducible refine (v_Compare.calls a0_0 a0_1 a0_2 a1_0 a1_1 a1_2 t575 _ A18.out).mono ?_); rintro e w23 ⟨rfl, hb⟩; refine ⟨_, rfl, ?_⟩; have n0_ := aK (blk_below (bX BK571.out) hb); have n1_ := aK (blk_below (bX BK572.out) hb); have n2_ := aK (below_step (bT GE571.out GE572.out) hb); clear BK571 BK572 HB; have BK571 := n0_; have BK572 := n1_; have HB := n2_; clear n0_ n1_ n2_; (try clear hb)))
    go_ret2
    exact ⟨_, eW, by first | exact Kd.R_nil _ _ _ _ _ | exact Kd.N_nil _ _ _ _ _ | exact Kd.V_nil _ _ _ _ _ | exact Kd.Q_nil _ _ _ _ _ | exact Kd.S_nil _ _ _ _ _, bT GE571.out GE572.out⟩
   subst c17
   rw [if_pos rfl] at H
   simp only [Option.some.injEq, Prod.mk.injEq] at H
   obtain ⟨rfl, rfl⟩ := H
   go_wp2
   go_ret2
   exact ⟨_, eW, by first | exact Kd.R_nil _ _ _ _ _ | exact Kd.N_nil _ _ _ _ _ | exact Kd.V_nil _ _ _ _ _ | exact Kd.Q_nil _ _ _ _ _ | exact Kd.S_nil _ _ _ _ _, bT GE571.out GE572.out⟩
def i_All.f  : Option ((List (S65))) := (i_least.f).bind fun bt579 => (some (([(⟨(⟨bt579.1, bt579.2.1, bt579.2.2⟩ : S24), (⟨0, 0, (⟨#[]⟩ : ByteArray)⟩ : S24), true⟩ : S65)] : List (S65))))
set_option maxHeartbeats 8000000 in
set_option maxRecDepth 100000 in
theorem i_All.calls  (r : List (S65)) (w : World) (h : i_All.f  = some r) :
  Calls Try.prog 47 #[] w fun e w' => ∃ v0_ : Value, e = .returned (v0_) ∧ Kd.R k65 65 w' w.heap.size (fun _ => True) v0_ r ∧ Below w.heap.size w w' := by
 have hu65 := Try.underlying65
 have HB := aK (Below.refl w.heap.size w)
 have H : ((i_least.f).bind fun bt579 => (some (([(⟨(⟨bt579.1, bt579.2.1, bt579.2.2⟩ : S24), (⟨0, 0, (⟨#[]⟩ : ByteArray)⟩ : S24), true⟩ : S65)] : List (S65))))) = some r := h
 clear h
 obtain ⟨⟨t579, t580, t581⟩, A1, H⟩ := oB H
 try dsimp only at H
 obtain ⟨y582, hy582⟩ : ∃ y_ : List (S65), y_ = (([(⟨(⟨t579, t580, t581⟩ : S24), (⟨0, 0, (⟨#[]⟩ : ByteArray)⟩ : S24), true⟩ : S65)] : List (S65))) := ⟨_, rfl⟩
 replace H : (some y582) = some r := by first | (rw [hy582]; with_reducible exact H) | (have H2_ := (Option.bind_some _ _).symm.trans H; rw [hy582]; with_reducible exact H2_) | (have H2_ := (Option.bind_some _ _).symm.trans H; with_reducible exact H2_) | with_reducible exact H | (rw [hy582]; exact H) | exact H
 have Ny582 := Aside0.mk hy582
 clear hy582
 obtain rfl := Option.some.inj H
 go_enter Try.func47, Try.ntmps47
 go_wp2_with (first | ((with_reducible refine gate_callee (f := 86) rfl ?_); refine gL (some 1) rfl Try.func86 #[] rfl ?_; (with_reducible refine (i_least.calls  t579 t580 t581 _ A1.out).mono ?_); rintro e w2 ⟨rfl, hb⟩; refine ⟨_, rfl, ?_⟩; have n0_ := aK (below_step bO hb); clear HB; have HB := n0_; clear n0_; (try clear hb)) | ((with_reducible refine gate_dst (N := 3) rfl ?_); refine Kd.R_lit k65 _ 65 ?hg (N := 3) ?hd (xs := ([(⟨(⟨t579, t580, t581⟩ : S24), (⟨0, 0, (⟨#[]⟩ : ByteArray)⟩ : S24), true⟩ : S65)] : List (S65))) (inner := [.int .i64 t579, .int .i64 t580, .string t581, .int .i64 0, .int .i64 0, .string (⟨#[]⟩ : ByteArray), .bool true]) (ok := fun _ => True) (okp := fun _ => True) ?hr ?hp (fun _ hk => hk) trivial (Below.refl _ _) (Nat.le_refl _) (by simp) ?_; (case hd => rfl); (case hg => rfl); (case hr => exact hR); (case hp => exact (Reps.c7 (show Kd.M k65 _ _ _ (⟨(⟨t579, t580, t581⟩ : S24), (⟨0, 0, (⟨#[]⟩ : ByteArray)⟩ : S24), true⟩ : S65) [.int .i64 t579, .int .i64 t580, .string t581, .int .i64 0, .int .i64 0, .string (⟨#[]⟩ : ByteArray), .bool true] from (k65_mkM _ _ _ (⟨(⟨t579, t580, t581⟩ : S24), (⟨0, 0, (⟨#[]⟩ : ByteArray)⟩ : S24), true⟩ : S65) )) (Reps.none _ _))); intro v583 w3 ho4 hb hg_ hnew_; clear hg_ hnew_; (first | rw [← Ny582.out] at ho4 | (simp only [Int.reduceToNat] at ho4; rw [← Ny582.out] at ho4)); have n0_ := aK (Kd.R_lower ho4 (below_size bO)); have n1_ := aK (below_step bO hb); clear HB; have HO584 := n0_; have HB := n1_; clear n0_ n1_ hb ho4))
 go_ret
 exact ⟨_, eW, rX HO584.out, bO⟩
def l3_num.f (a0 : Int) : Option (Int × Int × ByteArray) := some (4, a0, (⟨#[]⟩ : ByteArray))
set_option maxHeartbeats 8000000 in
set_option maxRecDepth 100000 in
theorem l3_num.calls (a0 : Int) (r1 : Int) (r2 : Int) (r3 : ByteArray) (w : World) (h : l3_num.f a0 = some (r1, r2, r3)) :
  Calls Try.prog 85 #[.int .i64 a0] w fun e w' => e = .returned (.agg #[.int .i64 r1, .int .i64 r2, .string r3]) ∧ Below w.heap.size w w' := by
 have hu24 := Try.underlying24
 have HB := aK (Below.refl w.heap.size w)
 have H : (some (4, a0, (⟨#[]⟩ : ByteArray))) = some (r1, r2, r3) := h
 clear h
 simp only [Option.some.injEq, Prod.mk.injEq] at H
 obtain ⟨rfl, rfl, rfl⟩ := H
 go_enter Try.func85, Try.ntmps85
 go_wp2_with (first | ((with_reducible refine gate_dst (N := 2) rfl ?_); refine box_event ?hg (N := 2) ?hd (cs := #[.int .i64 0, .int .i64 0, .string (⟨#[]⟩ : ByteArray)]) (t := 24) ?hr ?_; (case hd => rfl); (case hg => rfl); (case hr => exact hR); intro gb585 hg w2 hbox hb; have n0_ := aK (below_step bO hb); have n1_ := aK (hbox); have n2_ := aK ((by rw [hg]; exact (below_size bO) : w.heap.size ≤ gb585)); have n3_ := aK ((by rw [hg]; exact (below_size bO) : w.heap.size ≤ gb585)); clear HB; have HB := n0_; have BK585 := n1_; have GW585 := n2_; have GE585 := n3_; clear n0_ n1_ n2_ n3_ hb hbox hg; obtain ⟨hcz3_0, hcz3_1, hcz3_2⟩ := z3 BK585.out (.int .i64 0) (.int .i64 0) (.string (⟨#[]⟩ : ByteArray)); obtain ⟨hfz3_0, hfz3_1, hfz3_2⟩ := f3 BK585.out))
 refine bodyPost_ret (results_cell_row rfl _ _ gb585 24 #[.int .i64 4, .int .i64 a0, .string (⟨#[]⟩ : ByteArray)] (0, 0) _ rfl (put3 BK585.out) Try.underlying24 rfl (by kernel_rfl)) rfl ?_
 exact ⟨eW, bS GE585.out⟩
end Go.Proofs.Ytpjcdacnhalclaa.Q
