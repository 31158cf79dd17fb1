/- A part of a proof: facts of functions that the law calls; conditions stand in each. -/
import Derived.Test.YtpjcdacnhalclaaV6x2
import Derived.Test.YtpjcdacnhalclaaV6x10
import Derived.Test.YtpjcdacnhalclaaV6x12
import Derived.Test.YtpjcdacnhalclaaV6x13
import Derived.Test.YtpjcdacnhalclaaV6x7
import Derived.Test.YtpjcdacnhalclaaV6x8
import Derived.Test.YtpjcdacnhalclaaV6x9
import Derived.Test.YtpjcdacnhalclaaV6x5
import Derived.Test.YtpjcdacnhalclaaV6x4
import Derived.Test.YtpjcdacnhalclaaV6x6
set_option linter.unusedVariables false
set_option linter.unusedSimpArgs false
namespace Go.Proofs.Ytpjcdacnhalclaa.Q
open Go.RowKit Go.Proofs.YtpjcdacnhalclaaW.PrintWords Go.Proofs.YtpjcdacnhalclaaW.PrintLast Go.Proofs.YtpjcdacnhalclaaW.PrintMore
attribute [local go_sem] max2_int min2_int max_two min_two max_three min_three max_four min_four
def r3_Combine.l0 : Nat → Int → List (S65) → List (S65) → List (S24) → List (S65) → List (S24) → Int → Int → Option ((List (S65)))
 | 0, _, _, _, _, _, _, _, _ => none
 | k + 1, x0, x1, x2, x7, x8, x15, x16, x17 => if x17 < x16 then (if 0 ≤ x17 then (if x17 < (x15.length : Int) then ((r3_In.f k x1 ((rd_T24 x15 x17).f0) ((rd_T24 x15 x17).f1) ((rd_T24 x15 x17).f2)).bind fun t440 => ((r3_In.f k x2 ((rd_T24 x15 x17).f0) ((rd_T24 x15 x17).f1) ((rd_T24 x15 x17).f2)).bind fun t441 => ((r3_Apply.f x0 t440 t441).bind fun t442 => (if t442 = true then ((r3_Join.f x8 x7 x17).bind fun t443 => (r3_Combine.l0 k x0 x1 x2 x7 t443 x15 x16 (wrap64 (x17 + 1)))) else (r3_Combine.l0 k x0 x1 x2 x7 x8 x15 x16 (wrap64 (x17 + 1))))))) else (none)) else (none)) else (some x8)
def r3_Combine.f (k : Nat) (a0 : Int) (l1 : List (S65)) (l2 : List (S65)) : Option ((List (S65))) := (r3_Points.f k (([l1, l2] : List (List (S65))))).bind fun t435 => (r3_Combine.l0 k a0 l1 l2 t435 ([] : List (S65)) t435 (t435.length : Int) 0)
def r3_Combine.T6 : Bool × List (List Nat × List Nat) := (true, [([], []), ([], []), ([], []), ([1, 2], [1, 2]), ([], []), ([], []), ([4, 5, 3], [4, 5]), ([0, 3, 6, 6], [0, 3, 6])])
def r3_Combine.B6 : List Nat := [0, 0, 0, 6, 0, 0, 62, 127]
theorem r3_Combine.tab6 : rtab .any (opsOf Try.f75 6) = r3_Combine.T6 := by kernel_rfl
theorem r3_Combine.bits6 : waitsOk r3_Combine.T6.2 r3_Combine.B6 = true := by kernel_rfl
set_option maxHeartbeats 8000000 in
set_option maxRecDepth 100000 in
theorem r3_Combine.calls (k : Nat) (a0 : Int) (P1_ : Nat → Prop) (A1 : Option Addr) (c1 : Nat) (l1 : List (S65)) (P2_ : Nat → Prop) (A2 : Option Addr) (c2 : Nat) (l2 : List (S65)) (r : List (S65)) (w : World) (hs1 : Kd.V k65 65 w w.heap.size (fun k_ => P1_ k_) (.slice A1 l1.length c1) l1) (hs2 : Kd.V k65 65 w w.heap.size (fun k_ => P2_ k_) (.slice A2 l2.length c2) l2) (h : r3_Combine.f k a0 l1 l2 = some r) :
  Calls Try.prog 75 #[.int .i64 a0, .slice A1 l1.length c1, .slice A2 l2.length c2] w fun e w' => ∃ v0_ : Value, e = .returned (v0_) ∧ Kd.R k65 65 w' w.heap.size (fun k_ => (w.heap.size ≤ k_)) v0_ r ∧ Below w.heap.size w w' := by
 have hu24 := Try.underlying24
 have HO1 := aK (show Kd.V k65 65 w w.heap.size (fun k_ => ((P1_ k_ ∨ P2_ k_) ∨ w.heap.size ≤ k_)) (.slice A1 l1.length c1) l1 from Kd.V_mono hs1 (fun k_ hk => .inl (.inl hk)))
 have HO2 := aK (show Kd.V k65 65 w w.heap.size (fun k_ => ((P1_ k_ ∨ P2_ k_) ∨ w.heap.size ≤ k_)) (.slice A2 l2.length c2) l2 from Kd.V_mono hs2 (fun k_ hk => .inl (.inr hk)))
 have HB := aK (Below.refl w.heap.size w)
 have H : ((r3_Points.f k (([l1, l2] : List (List (S65))))).bind fun t435 => (r3_Combine.l0 k a0 l1 l2 t435 ([] : List (S65)) t435 (t435.length : Int) 0)) = some r := h
 clear h
 obtain ⟨y432, hy432⟩ : ∃ y_ : List (List (S65)), y_ = (([l1, l2] : List (List (S65)))) := ⟨_, rfl⟩
 replace H : ((r3_Points.f k y432).bind fun t435 => (r3_Combine.l0 k a0 l1 l2 t435 ([] : List (S65)) t435 (t435.length : Int) 0)) = some r := by first | (rw [hy432]; with_reducible exact H) | (have H2_ := (Option.bind_some _ _).symm.trans H; rw [hy432]; with_reducible exact H2_) | (have H2_ := (Option.bind_some _ _).symm.trans H; with_reducible exact H2_) | with_reducible exact H | (rw [hy432]; exact H) | exact H
 have Ny432 := Aside0.mk hy432
 clear hy432
 obtain ⟨t435, A4, H⟩ := oB H
 try dsimp only at H
 have H' := Aside0.mk H
 clear H
 go_enter Try.func75, Try.ntmps75
 go_wp2_with (first | ((with_reducible refine gate_dst (N := 13) rfl ?_); refine Kd.N_lit (Kd.slice 65 k65) _ 36 ?hg (N' := 13) ?hd (xs := ([l1, l2] : List (List (S65)))) (inner := [.slice A1 l1.length c1, .slice A2 l2.length c2]) (ok := (fun k_ => ((P1_ k_ ∨ P2_ k_) ∨ w.heap.size ≤ k_))) (okp := (fun k_ => ((P1_ k_ ∨ P2_ k_) ∨ w.heap.size ≤ k_))) ?hr ?hp (fun _ hk => hk) ((show ∀ k_, w.heap.size ≤ k_ → (fun k_ => ((P1_ k_ ∨ P2_ k_) ∨ w.heap.size ≤ k_)) k_ from fun k_ hk => (.inr (Nat.le_trans (below_size bO) hk))) _ (Nat.le_refl _)) (Below.refl _ _) (Nat.le_refl _) (by simp) ?_; (case hd => rfl); (case hg => rfl); (case hr => exact hR); (case hp => exact (Reps.one (show Kd.FK (Kd.slice 65 k65) _ _ l1 [.slice A1 l1.length c1] from (Kd.FK_slice_mk (Kd.V_reads' (Kd.V_mono (ok' := (fun k_ => ((P1_ k_ ∨ P2_ k_) ∨ w.heap.size ≤ k_))) (HO1.out) (fun k_ hk => hk))).2.1 (Kd.V_F (Kd.V_mono (ok' := (fun k_ => ((P1_ k_ ∨ P2_ k_) ∨ w.heap.size ≤ k_))) (HO1.out) (fun k_ hk => hk))))) (Reps.one (show Kd.FK (Kd.slice 65 k65) _ _ l2 [.slice A2 l2.length c2] from (Kd.FK_slice_mk (Kd.V_reads' (Kd.V_mono (ok' := (fun k_ => ((P1_ k_ ∨ P2_ k_) ∨ w.heap.size ≤ k_))) (HO2.out) (fun k_ hk => hk))).2.1 (Kd.V_F (Kd.V_mono (ok' := (fun k_ => ((P1_ k_ ∨ P2_ k_) ∨ w.heap.size ≤ k_))) (HO2.out) (fun k_ hk => hk))))) (Reps.none _ _)))); intro v433 w5 ho6 hb hg_ hnew_; clear hg_ hnew_; (first | rw [← Ny432.out] at ho6 | (simp only [Int.reduceToNat] at ho6; rw [← Ny432.out] at ho6)); have n0_ := aK (Kd.V_elder' (vX HO1.out) (Kd.N_base ho6) hb); have n1_ := aK (Kd.V_elder' (vX HO2.out) (Kd.N_base ho6) hb); have n2_ := aK (Kd.N_lower ho6 (below_size bO)); have n3_ := aK (below_step bO hb); clear HO1 HO2 HB; have HO1 := n0_; have HO2 := n1_; have HO434 := n2_; have HB := n3_; clear n0_ n1_ n2_ n3_ hb ho6; obtain ⟨Ao7, co7, eo7⟩ := Kd.N_slice HO434.out; subst eo7) | ((with_reducible refine gate_callee (f := 96) rfl ?_); refine gL (some 14) rfl Try.func96 #[.slice Ao7 y432.length co7] rfl ?_; (with_reducible refine (r3_Points.calls k _ _ y432 t435 _ ?side1 ?side2 A4.out).mono ?_); (case side1 => exact cX (Kd.N_reads' HO434.out).2.2); (case side2 => exact (Kd.N_reads' HO434.out).2.1); rintro e w8 ⟨v436, rfl, ho0, hb⟩; refine ⟨_, rfl, ?_⟩; have n0_ := aK (Kd.V_elder' (vX HO1.out) (Kd.R_base ho0) hb); have n1_ := aK (Kd.V_elder' (vX HO2.out) (Kd.R_base ho0) hb); have n2_ := aK (Kd.N_elder' (by (with_reducible repeat (first | apply Kd.N_alloc | apply Kd.N_drewN | apply Kd.N_drew)); exact HO434.out) (Kd.R_base ho0) hb); have n3_ := aK (Kd.R_lower (Kd.R_newM (M := fun k_ => (w.heap.size ≤ k_)) ho0 (below_size bO) (fun k_ h_ => h_)) (below_size bO)); have n4_ := aK (below_step bO hb); clear HO1 HO2 HO434 HB; have HO1 := n0_; have HO2 := n1_; have HO434 := n2_; have HO437 := n3_; have HB := n4_; clear n0_ n1_ n2_ n3_ n4_; (try clear hb ho0); obtain ⟨Ao9, co9, eo9⟩ := Kd.R_slice HO437.out; subst eo9))
 go_loopg [8, 17] k (fun kq v8 v17 w' => ∃ (x8_1 : List (S65)) (x17_1 : Int), v17 = .int .i64 x17_1 ∧ Aside0 (r3_Combine.l0 kq a0 l1 l2 t435 x8_1 t435 (t435.length : Int) x17_1 = some r) ∧ Aside0 (kq ≤ k) ∧ Aside0 (Kd.V k65 65 w' w.heap.size (fun k_ => ((P1_ k_ ∨ P2_ k_) ∨ w.heap.size ≤ k_) ∧ some k_ ≠ ((.slice Ao9 t435.length co9) : Value).ownBlock ∧ some k_ ≠ (v8 : Value).ownBlock ∧ some k_ ≠ ((.slice Ao9 t435.length co9) : Value).ownBlock) (.slice A1 l1.length c1) l1) ∧ Aside0 (Kd.V k65 65 w' w.heap.size (fun k_ => ((P1_ k_ ∨ P2_ k_) ∨ w.heap.size ≤ k_) ∧ some k_ ≠ ((.slice Ao9 t435.length co9) : Value).ownBlock ∧ some k_ ≠ (v8 : Value).ownBlock ∧ some k_ ≠ ((.slice Ao9 t435.length co9) : Value).ownBlock) (.slice A2 l2.length c2) l2) ∧ Aside0 (Kd.R k24 24 w' w.heap.size (fun k_ => (w.heap.size ≤ k_)) (.slice Ao9 t435.length co9) t435) ∧ Aside0 (Kd.R k65 65 w' w.heap.size (fun k_ => (w.heap.size ≤ k_)) v8 x8_1) ∧ Aside0 (Kd.R k24 24 w' w.heap.size (fun k_ => (w.heap.size ≤ k_)) (.slice Ao9 t435.length co9) t435) ∧ Aside0 (Below w.heap.size w w'))
 case atStart => exact ⟨(([] : List (S65))), (0), (by first | rfl | (simp; done) | (simp [*]; done)), H', ⟨Nat.le_refl _⟩, ⟨by (with_reducible repeat (first | apply Kd.V_alloc | apply Kd.V_drewN | apply Kd.V_drew)); exact Kd.V_mono HO1.out (fun _ hk => ⟨hk.1.1, ⟨hk.2, ⟨(by simp [Value.ownBlock]), hk.2⟩⟩⟩)⟩, ⟨by (with_reducible repeat (first | apply Kd.V_alloc | apply Kd.V_drewN | apply Kd.V_drew)); exact Kd.V_mono HO2.out (fun _ hk => ⟨hk.1.1, ⟨hk.2, ⟨(by simp [Value.ownBlock]), hk.2⟩⟩⟩)⟩, ⟨by (with_reducible repeat (first | apply Kd.R_alloc | apply Kd.R_drewN | apply Kd.R_drew)); exact Kd.R_mono HO437.out (fun _ hk => hk.1)⟩, ⟨by first | exact Kd.R_nil _ _ _ _ _ | exact Kd.N_nil _ _ _ _ _ | exact Kd.V_nil _ _ _ _ _ | exact Kd.Q_nil _ _ _ _ _ | exact Kd.S_nil _ _ _ _ _⟩, ⟨by (with_reducible repeat (first | apply Kd.R_alloc | apply Kd.R_drewN | apply Kd.R_drew)); exact Kd.R_mono HO437.out (fun _ hk => hk.1)⟩, ⟨bO⟩⟩
 case round =>
  clear H'
  try clear c1
  try clear c2
  try clear p2
  try clear c7
  try clear c9
  obtain ⟨x8_1, x17_1, rfl, HA, HK1, HO_1, HO_2, HO_7, HO_8, HO_15, HB⟩ := hrel
  cases gk with
  | zero => exact absurd HA.out (by simp [r3_Combine.l0])
  | succ k1 =>
   have H := HA.out
   clear HA
   simp only [r3_Combine.l0] at H
   by_cases c10 : x17_1 < (t435.length : Int)
   rotate_left
   ·rw [if_neg c10] at H
    have c10b0 : decide (x17_1 < (t435.length : Int)) = false := decide_eq_false c10
    clear c10
    obtain rfl := Option.some.inj H
    go_wp2
    go_ret
    exact ⟨_, eW, by (with_reducible repeat (first | apply Kd.R_alloc | apply Kd.R_drewN | apply Kd.R_drew)); exact HO_8.out, bO⟩
   rw [if_pos c10] at H
   have c10b0 : decide (x17_1 < (t435.length : Int)) = true := decide_eq_true c10
   clear c10
   by_cases c11 : 0 ≤ x17_1
   rotate_left
   ·rw [if_neg c11] at H
    exact absurd H (by simp)
   rw [if_pos c11] at H
   have c11b0 : decide (0 ≤ x17_1) = true := decide_eq_true c11
   clear c11
   by_cases c12 : x17_1 < (t435.length : Int)
   rotate_left
   ·rw [if_neg c12] at H
    exact absurd H (by simp)
   rw [if_pos c12] at H
   have c12b0 : decide (x17_1 < (t435.length : Int)) = true := decide_eq_true c12
   clear c12
   obtain ⟨t440, A13, H⟩ := oB H
   try dsimp only at H
   obtain ⟨t441, A14, H⟩ := oB H
   try dsimp only at H
   obtain ⟨t442, A15, H⟩ := oB H
   try dsimp only at H
   by_cases c16 : t442 = true
   rotate_left
   ·replace c16 := Bool.eq_false_iff.mpr c16
    subst c16
    rw [if_neg (show ¬ (false = true) by decide)] at H
    have H' := Aside0.mk H
    clear H
    have p438 : 0 ≤ (x17_1 : Int) := of_decide_eq_true (aA)
    have q438 : x17_1 < (t435.length : Int) := of_decide_eq_true (aA)
    obtain ⟨ad438, e438, hx438_0, hx438_1, hx438_2⟩ := at_T24 (Kd.R_reads' HO_15.out).2.2 x17_1 p438 q438
    cases e438
    replace p438 := eq_true p438
    replace q438 := eq_true q438
    try go_wp2_with (first | ((with_reducible refine gate_dst (N := 10) rfl ?_); refine box_event ?hg (N := 10) ?hd (cs := #[.int .i64 0, .int .i64 0, .string (⟨#[]⟩ : ByteArray)]) (t := 24) ?hr ?_; (case hd => rfl); (case hg => rfl); (case hr => exact hR); intro gb439 hg w26 hbox hb; have n0_ := aK (Kd.V_below (Kd.V_elderB (vX HO_1.out) gb439 (Nat.le_of_eq hg.symm)) hb); have n1_ := aK (Kd.V_below (Kd.V_elderB (vX HO_2.out) gb439 (Nat.le_of_eq hg.symm)) hb); have n2_ := aK (Kd.R_below (Kd.R_elderB (rX HO_7.out) gb439 (Nat.le_of_eq hg.symm)) hb); have n3_ := aK (Kd.R_below (rX HO_8.out) hb); have n4_ := aK (Kd.R_below (Kd.R_elderB (rX HO_15.out) gb439 (Nat.le_of_eq hg.symm)) hb); have n5_ := aK (below_step bO hb); have n6_ := aK (hbox); have n7_ := aK ((by rw [hg]; exact (below_size bO) : w.heap.size ≤ gb439)); have n8_ := aK ((by rw [hg]; exact (below_size bO) : w.heap.size ≤ gb439)); clear HO_1 HO_2 HO_7 HO_8 HO_15 HB; have HO_1 := n0_; have HO_2 := n1_; have HO_7 := n2_; have HO_8 := n3_; have HO_15 := n4_; have HB := n5_; have BK439 := n6_; have GW439 := n7_; have GE439 := n8_; clear n0_ n1_ n2_ n3_ n4_ n5_ n6_ n7_ n8_ hb hbox hg; obtain ⟨hcz27_0, hcz27_1, hcz27_2⟩ := z3 BK439.out (.int .i64 0) (.int .i64 0) (.string (⟨#[]⟩ : ByteArray)); obtain ⟨hfz27_0, hfz27_1, hfz27_2⟩ := f3 BK439.out))
    have n0_ : Aside0 (Kd.V k65 65 (((w26.setCell ⟨gb439, 0, none⟩ (.int .i64 ((rd_T24 t435 x17_1).f0))).setCell ⟨gb439, 1, none⟩ (.int .i64 ((rd_T24 t435 x17_1).f1))).setCell ⟨gb439, 2, none⟩ (.string ((rd_T24 t435 x17_1).f2))) w.heap.size (fun k_ => ((P1_ k_ ∨ P2_ k_) ∨ w.heap.size ≤ k_) ∧ some k_ ≠ (.slice (some ad438) t435.length co9 : Value).ownBlock ∧ some k_ ≠ (u8 : Value).ownBlock ∧ some k_ ≠ (.slice (some ad438) t435.length co9 : Value).ownBlock ∧ k_ ≠ gb439) (.slice A1 l1.length c1) l1) := ⟨by (with_reducible repeat (first | apply Kd.V_alloc | apply Kd.V_drewN | apply Kd.V_drew)); exact Kd.V_mono (Kd.V_far (p := ⟨gb439, 2, none⟩) (Kd.V_far (p := ⟨gb439, 1, none⟩) (Kd.V_far (p := ⟨gb439, 0, none⟩) (Kd.V_mono HO_1.out (fun k_ hk => (⟨hk, hk.2⟩ : _ ∧ k_ ≠ gb439))) (fun _ hk => hk.2) (.int .i64 ((rd_T24 t435 x17_1).f0))) (fun _ hk => hk.2) (.int .i64 ((rd_T24 t435 x17_1).f1))) (fun _ hk => hk.2) (.string ((rd_T24 t435 x17_1).f2))) (fun _ hk => ⟨hk.1.1.1, ⟨hk.1.1.2.1, ⟨hk.1.1.2.2.1, ⟨hk.1.1.2.2.2, hk.1.2⟩⟩⟩⟩)⟩
    have n1_ : Aside0 (Kd.V k65 65 (((w26.setCell ⟨gb439, 0, none⟩ (.int .i64 ((rd_T24 t435 x17_1).f0))).setCell ⟨gb439, 1, none⟩ (.int .i64 ((rd_T24 t435 x17_1).f1))).setCell ⟨gb439, 2, none⟩ (.string ((rd_T24 t435 x17_1).f2))) w.heap.size (fun k_ => ((P1_ k_ ∨ P2_ k_) ∨ w.heap.size ≤ k_) ∧ some k_ ≠ (.slice (some ad438) t435.length co9 : Value).ownBlock ∧ some k_ ≠ (u8 : Value).ownBlock ∧ some k_ ≠ (.slice (some ad438) t435.length co9 : Value).ownBlock ∧ k_ ≠ gb439) (.slice A2 l2.length c2) l2) := ⟨by (with_reducible repeat (first | apply Kd.V_alloc | apply Kd.V_drewN | apply Kd.V_drew)); exact Kd.V_mono (Kd.V_far (p := ⟨gb439, 2, none⟩) (Kd.V_far (p := ⟨gb439, 1, none⟩) (Kd.V_far (p := ⟨gb439, 0, none⟩) (Kd.V_mono HO_2.out (fun k_ hk => (⟨hk, hk.2⟩ : _ ∧ k_ ≠ gb439))) (fun _ hk => hk.2) (.int .i64 ((rd_T24 t435 x17_1).f0))) (fun _ hk => hk.2) (.int .i64 ((rd_T24 t435 x17_1).f1))) (fun _ hk => hk.2) (.string ((rd_T24 t435 x17_1).f2))) (fun _ hk => ⟨hk.1.1.1, ⟨hk.1.1.2.1, ⟨hk.1.1.2.2.1, ⟨hk.1.1.2.2.2, hk.1.2⟩⟩⟩⟩)⟩
    have n2_ : Aside0 (Kd.R k24 24 (((w26.setCell ⟨gb439, 0, none⟩ (.int .i64 ((rd_T24 t435 x17_1).f0))).setCell ⟨gb439, 1, none⟩ (.int .i64 ((rd_T24 t435 x17_1).f1))).setCell ⟨gb439, 2, none⟩ (.string ((rd_T24 t435 x17_1).f2))) w.heap.size (fun k_ => (w.heap.size ≤ k_) ∧ k_ ≠ gb439) (.slice (some ad438) t435.length co9) t435) := ⟨by (with_reducible repeat (first | apply Kd.R_alloc | apply Kd.R_drewN | apply Kd.R_drew)); exact Kd.R_mono (Kd.R_far (p := ⟨gb439, 2, none⟩) (Kd.R_far (p := ⟨gb439, 1, none⟩) (Kd.R_far (p := ⟨gb439, 0, none⟩) (Kd.R_mono HO_7.out (fun k_ hk => (⟨hk, hk.2⟩ : _ ∧ k_ ≠ gb439))) (fun _ hk => hk.2) (.int .i64 ((rd_T24 t435 x17_1).f0))) (fun _ hk => hk.2) (.int .i64 ((rd_T24 t435 x17_1).f1))) (fun _ hk => hk.2) (.string ((rd_T24 t435 x17_1).f2))) (fun _ hk => ⟨hk.1.1, hk.1.2⟩)⟩
    have n3_ : Aside0 (Kd.R k65 65 (((w26.setCell ⟨gb439, 0, none⟩ (.int .i64 ((rd_T24 t435 x17_1).f0))).setCell ⟨gb439, 1, none⟩ (.int .i64 ((rd_T24 t435 x17_1).f1))).setCell ⟨gb439, 2, none⟩ (.string ((rd_T24 t435 x17_1).f2))) w.heap.size (fun k_ => (w.heap.size ≤ k_)) u8 x8_1) := ⟨by (with_reducible repeat (first | apply Kd.R_alloc | apply Kd.R_drewN | apply Kd.R_drew)); exact Kd.R_mono (Kd.R_far (p := ⟨gb439, 2, none⟩) (Kd.R_far (p := ⟨gb439, 1, none⟩) (Kd.R_far (p := ⟨gb439, 0, none⟩) (Kd.R_types HO_8.out BK439.out (by decide)) (fun _ hk => hk.2) (.int .i64 ((rd_T24 t435 x17_1).f0))) (fun _ hk => hk.2) (.int .i64 ((rd_T24 t435 x17_1).f1))) (fun _ hk => hk.2) (.string ((rd_T24 t435 x17_1).f2))) (fun _ hk => hk.1)⟩
    have n4_ : Aside0 (Kd.R k24 24 (((w26.setCell ⟨gb439, 0, none⟩ (.int .i64 ((rd_T24 t435 x17_1).f0))).setCell ⟨gb439, 1, none⟩ (.int .i64 ((rd_T24 t435 x17_1).f1))).setCell ⟨gb439, 2, none⟩ (.string ((rd_T24 t435 x17_1).f2))) w.heap.size (fun k_ => (w.heap.size ≤ k_) ∧ k_ ≠ gb439) (.slice (some ad438) t435.length co9) t435) := ⟨by (with_reducible repeat (first | apply Kd.R_alloc | apply Kd.R_drewN | apply Kd.R_drew)); exact Kd.R_mono (Kd.R_far (p := ⟨gb439, 2, none⟩) (Kd.R_far (p := ⟨gb439, 1, none⟩) (Kd.R_far (p := ⟨gb439, 0, none⟩) (Kd.R_mono HO_15.out (fun k_ hk => (⟨hk, hk.2⟩ : _ ∧ k_ ≠ gb439))) (fun _ hk => hk.2) (.int .i64 ((rd_T24 t435 x17_1).f0))) (fun _ hk => hk.2) (.int .i64 ((rd_T24 t435 x17_1).f1))) (fun _ hk => hk.2) (.string ((rd_T24 t435 x17_1).f2))) (fun _ hk => ⟨hk.1.1, hk.1.2⟩)⟩
    have n5_ : Aside0 ((((w26.setCell ⟨gb439, 0, none⟩ (.int .i64 ((rd_T24 t435 x17_1).f0))).setCell ⟨gb439, 1, none⟩ (.int .i64 ((rd_T24 t435 x17_1).f1))).setCell ⟨gb439, 2, none⟩ (.string ((rd_T24 t435 x17_1).f2))).heap[gb439]? = some (.cells #[.int .i64 ((rd_T24 t435 x17_1).f0), .int .i64 ((rd_T24 t435 x17_1).f1), .string ((rd_T24 t435 x17_1).f2)] 24 (0, 0))) := ⟨by (with_reducible repeat (first | refine blk_drewN ?_ _ | refine blk_drew ?_ | refine blk_alloc ?_ _)); refine blk_put (cs := #[.int .i64 ((rd_T24 t435 x17_1).f0), .int .i64 ((rd_T24 t435 x17_1).f1), .string (⟨#[]⟩ : ByteArray)]) ?_ 2 _ rfl; (with_reducible repeat (first | refine blk_drewN ?_ _ | refine blk_drew ?_ | refine blk_alloc ?_ _)); refine blk_put (cs := #[.int .i64 ((rd_T24 t435 x17_1).f0), .int .i64 0, .string (⟨#[]⟩ : ByteArray)]) ?_ 1 _ rfl; (with_reducible repeat (first | refine blk_drewN ?_ _ | refine blk_drew ?_ | refine blk_alloc ?_ _)); refine blk_put (cs := #[.int .i64 0, .int .i64 0, .string (⟨#[]⟩ : ByteArray)]) ?_ 0 _ rfl; (with_reducible repeat (first | refine blk_drewN ?_ _ | refine blk_drew ?_ | refine blk_alloc ?_ _)); exact BK439.out⟩
    have n6_ : Aside0 (Below w.heap.size w (((w26.setCell ⟨gb439, 0, none⟩ (.int .i64 ((rd_T24 t435 x17_1).f0))).setCell ⟨gb439, 1, none⟩ (.int .i64 ((rd_T24 t435 x17_1).f1))).setCell ⟨gb439, 2, none⟩ (.string ((rd_T24 t435 x17_1).f2)))) := ⟨bS GE439.out⟩
    (try clear HO_1)
    (try clear HO_2)
    (try clear HO_7)
    (try clear HO_8)
    (try clear HO_15)
    (try clear BK439)
    (try clear HB)
    generalize (((w26.setCell ⟨gb439, 0, none⟩ (.int .i64 ((rd_T24 t435 x17_1).f0))).setCell ⟨gb439, 1, none⟩ (.int .i64 ((rd_T24 t435 x17_1).f1))).setCell ⟨gb439, 2, none⟩ (.string ((rd_T24 t435 x17_1).f2))) = w28 at n0_ n1_ n2_ n3_ n4_ n5_ n6_ ⊢
    have HO_1 := n0_
    have HO_2 := n1_
    have HO_7 := n2_
    have HO_8 := n3_
    have HO_15 := n4_
    have BK439 := n5_
    have HB := n6_
    clear n0_ n1_ n2_ n3_ n4_ n5_ n6_
    have n0_ := aK (Kd.V_drew HO_1.out)
    have n1_ := aK (Kd.V_drew HO_2.out)
    have n2_ := aK (Kd.R_drew HO_7.out)
    have n3_ := aK (Kd.R_drew HO_8.out)
    have n4_ := aK (Kd.R_drew HO_15.out)
    have n5_ := aK (blk_drew BK439.out)
    have n6_ := aK (below_drew1 HB.out)
    clear HO_1
    clear HO_2
    clear HO_7
    clear HO_8
    clear HO_15
    clear BK439
    clear HB
    have HO_1 := n0_
    have HO_2 := n1_
    have HO_7 := n2_
    have HO_8 := n3_
    have HO_15 := n4_
    have BK439 := n5_
    have HB := n6_
    clear n0_ n1_ n2_ n3_ n4_ n5_ n6_
    refine start_ (n := 8) (S := fun w' => w'.cell? ⟨gb439, 0, none⟩ = some (.int .i64 ((rd_T24 t435 x17_1).f0)) ∧ w'.cell? ⟨gb439, 1, none⟩ = some (.int .i64 ((rd_T24 t435 x17_1).f1)) ∧ w'.cell? ⟨gb439, 2, none⟩ = some (.string ((rd_T24 t435 x17_1).f2))) (ds := []) #[false, false, false, false, false, false, false, false] (by kernel_rfl) rfl rfl ⟨(blk_cell BK439.out 0).trans rfl, (blk_cell BK439.out 1).trans rfl, (blk_cell BK439.out 2).trans rfl⟩ (fun hHeld => ?_); refine with_tabW r3_Combine.tab6 r3_Combine.bits6 (fun HT_ HW_ => ?_)
    generalize w28.drew = w29 at HO_1 HO_2 HO_7 HO_8 HO_15 BK439 HB hHeld ⊢
    refine pY (i := 0) (N := some 22) (tf 1 7) rfl rfl HT_.out ?_
    refine pY (i := 1) (N := some 23) (tf 2 6) rfl rfl HT_.out ?_
    refine pY (i := 4) (N := some 26) #[true, true, false, false, true, false, false, false] rfl rfl HT_.out ?_
    refine take_ (i := 2) (N := some 24) (v := ?_) (a' := ?_) #[true, true, true, false, true, false, false, false] rfl rfl (take_ofW HT_.out HW_.out (by kernel_rfl)) (fun _ _ _ h => h) (Or.inl ⟨by rfl, ?_⟩) hHeld ?_ ?_
    rotate_left
    ·rintro w' ⟨s0, s1, s2⟩
     go_simp
     with_reducible rfl
    rotate_left
    ·exact aP
    refine take_ (i := 5) (N := some 27) (v := ?_) (a' := ?_) #[true, true, true, false, true, true, false, false] rfl rfl (take_ofW HT_.out HW_.out (by kernel_rfl)) (fun _ _ _ h => h) (Or.inl ⟨by rfl, ?_⟩) hHeld ?_ ?_
    rotate_left
    ·rintro w' ⟨s0, s1, s2⟩
     go_simp
     with_reducible rfl
    rotate_left
    ·exact aP
    refine one_ (i := 3) (N := some 25) #[true, true, true, true, true, true, false, false] rfl rfl (one_of HT_.out (by kernel_rfl)) (by decide) (fun K hK => ?_)
    refine goes_ Try.func92 (by kernel_rfl) rfl #[.slice A1 l1.length c1, .agg #[.int .i64 ((rd_T24 t435 x17_1).f0), .int .i64 ((rd_T24 t435 x17_1).f1), .string ((rd_T24 t435 x17_1).f2)]] (by rfl) rfl rfl (by (try simp only [List.map_toArray, List.map_cons, List.map_nil]); first | done | rfl | (simp only [List.length_drop, List.length_take]; rfl)) ?_
    with_reducible refine (r3_In.calls k1 _ _ l1 ((rd_T24 t435 x17_1).f0) ((rd_T24 t435 x17_1).f1) ((rd_T24 t435 x17_1).f2) t440 _ ?side1 ?side2 A13.out).mono ?_
    (case side1 => exact cX (Kd.V_reads' HO_1.out).2.2)
    (case side2 => exact (Kd.V_reads' HO_1.out).2.1)
    rintro e w30 ⟨rfl, hb⟩
    refine ⟨_, rfl, ?_⟩
    have n0_ := aK (Kd.V_below (vX HO_1.out) hb)
    have n1_ := aK (Kd.V_below (vX HO_2.out) hb)
    have n2_ := aK (Kd.R_below (rX HO_7.out) hb)
    have n3_ := aK (Kd.R_below (rX HO_8.out) hb)
    have n4_ := aK (Kd.R_below (rX HO_15.out) hb)
    have n5_ := aK (blk_below (bX BK439.out) hb)
    have n6_ := aK (below_step (bS GE439.out) hb)
    clear HO_1
    clear HO_2
    clear HO_7
    clear HO_8
    clear HO_15
    clear BK439
    clear HB
    have HO_1 := n0_
    have HO_2 := n1_
    have HO_7 := n2_
    have HO_8 := n3_
    have HO_15 := n4_
    have BK439 := n5_
    have HB := n6_
    clear n0_ n1_ n2_ n3_ n4_ n5_ n6_
    (try clear hb)
    (try clear hb2)
    (try clear hk)
    (try clear hi)
    refine hK.out _ _ ⟨(blk_cell BK439.out 0).trans rfl, (blk_cell BK439.out 1).trans rfl, (blk_cell BK439.out 2).trans rfl⟩ (fun hHeld => ?_)
    clear hK K
    refine norm_ (a' := ?_) ?_ ?_
    rotate_left
    ·show Act.put _ (some 25) _ = _
     simp only [Act.put, List.setIfInBounds_toArray, List.set_cons_zero, List.set_cons_succ, i64_w, i32_w]
     rfl
    refine one_ (i := 6) (N := some 28) #[true, true, true, true, true, true, true, false] rfl rfl (one_of HT_.out (by kernel_rfl)) (by decide) (fun K hK => ?_)
    refine goes_ Try.func92 (by kernel_rfl) rfl #[.slice A2 l2.length c2, .agg #[.int .i64 ((rd_T24 t435 x17_1).f0), .int .i64 ((rd_T24 t435 x17_1).f1), .string ((rd_T24 t435 x17_1).f2)]] (by rfl) rfl rfl (by (try simp only [List.map_toArray, List.map_cons, List.map_nil]); first | done | rfl | (simp only [List.length_drop, List.length_take]; rfl)) ?_
    with_reducible refine (r3_In.calls k1 _ _ l2 ((rd_T24 t435 x17_1).f0) ((rd_T24 t435 x17_1).f1) ((rd_T24 t435 x17_1).f2) t441 _ ?side1 ?side2 A14.out).mono ?_
    (case side1 => exact cX (Kd.V_reads' HO_2.out).2.2)
    (case side2 => exact (Kd.V_reads' HO_2.out).2.1)
    rintro e w31 ⟨rfl, hb⟩
    refine ⟨_, rfl, ?_⟩
    have n0_ := aK (Kd.V_below (vX HO_1.out) hb)
    have n1_ := aK (Kd.V_below (vX HO_2.out) hb)
    have n2_ := aK (Kd.R_below (rX HO_7.out) hb)
    have n3_ := aK (Kd.R_below (rX HO_8.out) hb)
    have n4_ := aK (Kd.R_below (rX HO_15.out) hb)
    have n5_ := aK (blk_below (bX BK439.out) hb)
    have n6_ := aK (below_step (bS GE439.out) hb)
    clear HO_1
    clear HO_2
    clear HO_7
    clear HO_8
    clear HO_15
    clear BK439
    clear HB
    have HO_1 := n0_
    have HO_2 := n1_
    have HO_7 := n2_
    have HO_8 := n3_
    have HO_15 := n4_
    have BK439 := n5_
    have HB := n6_
    clear n0_ n1_ n2_ n3_ n4_ n5_ n6_
    (try clear hb)
    (try clear hb2)
    (try clear hk)
    (try clear hi)
    refine hK.out _ _ ⟨(blk_cell BK439.out 0).trans rfl, (blk_cell BK439.out 1).trans rfl, (blk_cell BK439.out 2).trans rfl⟩ (fun hHeld => ?_)
    clear hK K
    refine norm_ (a' := ?_) ?_ ?_
    rotate_left
    ·show Act.put _ (some 28) _ = _
     simp only [Act.put, List.setIfInBounds_toArray, List.set_cons_zero, List.set_cons_succ, i64_w, i32_w]
     rfl
    refine one_ (i := 7) (N := some 29) #[true, true, true, true, true, true, true, true] rfl rfl (one_of HT_.out (by kernel_rfl)) (by decide) (fun K hK => ?_)
    refine goes_ Try.func97 (by kernel_rfl) rfl #[.int .i64 a0, .bool t440, .bool t441] (by rfl) rfl rfl (by (try simp only [List.map_toArray, List.map_cons, List.map_nil]); first | done | rfl | (simp only [List.length_drop, List.length_take]; rfl)) ?_
    with_reducible refine (r3_Apply.calls a0 t440 t441 false _ A15.out).mono ?_
    rintro e w' ⟨rfl, ⟨nd, rfl⟩⟩
    refine ⟨_, rfl, ?_⟩
    refine hK.out _ _ ⟨(blk_cell BK439.out 0).trans rfl, (blk_cell BK439.out 1).trans rfl, (blk_cell BK439.out 2).trans rfl⟩ (fun hHeld => ?_)
    clear hK K
    refine norm_ (a' := ?_) ?_ ?_
    rotate_left
    ·show Act.put _ (some 29) _ = _
     simp only [Act.put, List.setIfInBounds_toArray, List.set_cons_zero, List.set_cons_succ, i64_w, i32_w]
     rfl
    refine done_ (done_of HT_.out (by kernel_rfl)) ?_
    try go_wp2
    go_roundg k1
    case measure => have := HK1.out; omega
    case rel => exact ⟨(x8_1), (wrap64 (x17_1 + 1)), (by first | rfl | (simp; done) | (simp [*]; done)), H', ⟨by have := HK1.out; omega⟩, ⟨by (with_reducible repeat (first | apply Kd.V_alloc | apply Kd.V_drewN | apply Kd.V_drew)); exact Kd.V_mono HO_1.out (fun _ hk => ⟨hk.1, ⟨hk.2.1, ⟨hk.2.2.1, hk.2.2.2.1⟩⟩⟩)⟩, ⟨by (with_reducible repeat (first | apply Kd.V_alloc | apply Kd.V_drewN | apply Kd.V_drew)); exact Kd.V_mono HO_2.out (fun _ hk => ⟨hk.1, ⟨hk.2.1, ⟨hk.2.2.1, hk.2.2.2.1⟩⟩⟩)⟩, ⟨by (with_reducible repeat (first | apply Kd.R_alloc | apply Kd.R_drewN | apply Kd.R_drew)); exact Kd.R_mono HO_7.out (fun _ hk => hk.1)⟩, ⟨rX HO_8.out⟩, ⟨by (with_reducible repeat (first | apply Kd.R_alloc | apply Kd.R_drewN | apply Kd.R_drew)); exact Kd.R_mono HO_15.out (fun _ hk => hk.1)⟩, ⟨bS GE439.out⟩⟩
   subst c16
   rw [if_pos rfl] at H
   obtain ⟨t443, A17, H⟩ := oB H
   try dsimp only at H
   have H' := Aside0.mk H
   clear H
   have p438 : 0 ≤ (x17_1 : Int) := of_decide_eq_true (aA)
   have q438 : x17_1 < (t435.length : Int) := of_decide_eq_true (aA)
   obtain ⟨ad438, e438, hx438_0, hx438_1, hx438_2⟩ := at_T24 (Kd.R_reads' HO_15.out).2.2 x17_1 p438 q438
   cases e438
   replace p438 := eq_true p438
   replace q438 := eq_true q438
   try go_wp2_with (first | ((with_reducible refine gate_dst (N := 10) rfl ?_); refine box_event ?hg (N := 10) ?hd (cs := #[.int .i64 0, .int .i64 0, .string (⟨#[]⟩ : ByteArray)]) (t := 24) ?hr ?_; (case hd => rfl); (case hg => rfl); (case hr => exact hR); intro gb439 hg w18 hbox hb; have n0_ := aK (Kd.V_below (Kd.V_elderB (vX HO_1.out) gb439 (Nat.le_of_eq hg.symm)) hb); have n1_ := aK (Kd.V_below (Kd.V_elderB (vX HO_2.out) gb439 (Nat.le_of_eq hg.symm)) hb); have n2_ := aK (Kd.R_below (Kd.R_elderB (rX HO_7.out) gb439 (Nat.le_of_eq hg.symm)) hb); have n3_ := aK (Kd.R_below (rX HO_8.out) hb); have n4_ := aK (Kd.R_below (Kd.R_elderB (rX HO_15.out) gb439 (Nat.le_of_eq hg.symm)) hb); have n5_ := aK (below_step bO hb); have n6_ := aK (hbox); have n7_ := aK ((by rw [hg]; exact (below_size bO) : w.heap.size ≤ gb439)); have n8_ := aK ((by rw [hg]; exact (below_size bO) : w.heap.size ≤ gb439)); clear HO_1 HO_2 HO_7 HO_8 HO_15 HB; have HO_1 := n0_; have HO_2 := n1_; have HO_7 := n2_; have HO_8 := n3_; have HO_15 := n4_; have HB := n5_; have BK439 := n6_; have GW439 := n7_; have GE439 := n8_; clear n0_ n1_ n2_ n3_ n4_ n5_ n6_ n7_ n8_ hb hbox hg; obtain ⟨hcz19_0, hcz19_1, hcz19_2⟩ := z3 BK439.out (.int .i64 0) (.int .i64 0) (.string (⟨#[]⟩ : ByteArray)); obtain ⟨hfz19_0, hfz19_1, hfz19_2⟩ := f3 BK439.out))
   have n0_ : Aside0 (Kd.V k65 65 (((w18.setCell ⟨gb439, 0, none⟩ (.int .i64 ((rd_T24 t435 x17_1).f0))).setCell ⟨gb439, 1, none⟩ (.int .i64 ((rd_T24 t435 x17_1).f1))).setCell ⟨gb439, 2, none⟩ (.string ((rd_T24 t435 x17_1).f2))) w.heap.size (fun k_ => ((P1_ k_ ∨ P2_ k_) ∨ w.heap.size ≤ k_) ∧ some k_ ≠ (.slice (some ad438) t435.length co9 : Value).ownBlock ∧ some k_ ≠ (u8 : Value).ownBlock ∧ some k_ ≠ (.slice (some ad438) t435.length co9 : Value).ownBlock ∧ k_ ≠ gb439) (.slice A1 l1.length c1) l1) := ⟨by (with_reducible repeat (first | apply Kd.V_alloc | apply Kd.V_drewN | apply Kd.V_drew)); exact Kd.V_mono (Kd.V_far (p := ⟨gb439, 2, none⟩) (Kd.V_far (p := ⟨gb439, 1, none⟩) (Kd.V_far (p := ⟨gb439, 0, none⟩) (Kd.V_mono HO_1.out (fun k_ hk => (⟨hk, hk.2⟩ : _ ∧ k_ ≠ gb439))) (fun _ hk => hk.2) (.int .i64 ((rd_T24 t435 x17_1).f0))) (fun _ hk => hk.2) (.int .i64 ((rd_T24 t435 x17_1).f1))) (fun _ hk => hk.2) (.string ((rd_T24 t435 x17_1).f2))) (fun _ hk => ⟨hk.1.1.1, ⟨hk.1.1.2.1, ⟨hk.1.1.2.2.1, ⟨hk.1.1.2.2.2, hk.1.2⟩⟩⟩⟩)⟩
   have n1_ : Aside0 (Kd.V k65 65 (((w18.setCell ⟨gb439, 0, none⟩ (.int .i64 ((rd_T24 t435 x17_1).f0))).setCell ⟨gb439, 1, none⟩ (.int .i64 ((rd_T24 t435 x17_1).f1))).setCell ⟨gb439, 2, none⟩ (.string ((rd_T24 t435 x17_1).f2))) w.heap.size (fun k_ => ((P1_ k_ ∨ P2_ k_) ∨ w.heap.size ≤ k_) ∧ some k_ ≠ (.slice (some ad438) t435.length co9 : Value).ownBlock ∧ some k_ ≠ (u8 : Value).ownBlock ∧ some k_ ≠ (.slice (some ad438) t435.length co9 : Value).ownBlock ∧ k_ ≠ gb439) (.slice A2 l2.length c2) l2) := ⟨by (with_reducible repeat (first | apply Kd.V_alloc | apply Kd.V_drewN | apply Kd.V_drew)); exact Kd.V_mono (Kd.V_far (p := ⟨gb439, 2, none⟩) (Kd.V_far (p := ⟨gb439, 1, none⟩) (Kd.V_far (p := ⟨gb439, 0, none⟩) (Kd.V_mono HO_2.out (fun k_ hk => (⟨hk, hk.2⟩ : _ ∧ k_ ≠ gb439))) (fun _ hk => hk.2) (.int .i64 ((rd_T24 t435 x17_1).f0))) (fun _ hk => hk.2) (.int .i64 ((rd_T24 t435 x17_1).f1))) (fun _ hk => hk.2) (.string ((rd_T24 t435 x17_1).f2))) (fun _ hk => ⟨hk.1.1.1, ⟨hk.1.1.2.1, ⟨hk.1.1.2.2.1, ⟨hk.1.1.2.2.2, hk.1.2⟩⟩⟩⟩)⟩
   have n2_ : Aside0 (Kd.R k24 24 (((w18.setCell ⟨gb439, 0, none⟩ (.int .i64 ((rd_T24 t435 x17_1).f0))).setCell ⟨gb439, 1, none⟩ (.int .i64 ((rd_T24 t435 x17_1).f1))).setCell ⟨gb439, 2, none⟩ (.string ((rd_T24 t435 x17_1).f2))) w.heap.size (fun k_ => (w.heap.size ≤ k_) ∧ k_ ≠ gb439) (.slice (some ad438) t435.length co9) t435) := ⟨by (with_reducible repeat (first | apply Kd.R_alloc | apply Kd.R_drewN | apply Kd.R_drew)); exact Kd.R_mono (Kd.R_far (p := ⟨gb439, 2, none⟩) (Kd.R_far (p := ⟨gb439, 1, none⟩) (Kd.R_far (p := ⟨gb439, 0, none⟩) (Kd.R_mono HO_7.out (fun k_ hk => (⟨hk, hk.2⟩ : _ ∧ k_ ≠ gb439))) (fun _ hk => hk.2) (.int .i64 ((rd_T24 t435 x17_1).f0))) (fun _ hk => hk.2) (.int .i64 ((rd_T24 t435 x17_1).f1))) (fun _ hk => hk.2) (.string ((rd_T24 t435 x17_1).f2))) (fun _ hk => ⟨hk.1.1, hk.1.2⟩)⟩
   have n3_ : Aside0 (Kd.R k65 65 (((w18.setCell ⟨gb439, 0, none⟩ (.int .i64 ((rd_T24 t435 x17_1).f0))).setCell ⟨gb439, 1, none⟩ (.int .i64 ((rd_T24 t435 x17_1).f1))).setCell ⟨gb439, 2, none⟩ (.string ((rd_T24 t435 x17_1).f2))) w.heap.size (fun k_ => (w.heap.size ≤ k_)) u8 x8_1) := ⟨by (with_reducible repeat (first | apply Kd.R_alloc | apply Kd.R_drewN | apply Kd.R_drew)); exact Kd.R_mono (Kd.R_far (p := ⟨gb439, 2, none⟩) (Kd.R_far (p := ⟨gb439, 1, none⟩) (Kd.R_far (p := ⟨gb439, 0, none⟩) (Kd.R_types HO_8.out BK439.out (by decide)) (fun _ hk => hk.2) (.int .i64 ((rd_T24 t435 x17_1).f0))) (fun _ hk => hk.2) (.int .i64 ((rd_T24 t435 x17_1).f1))) (fun _ hk => hk.2) (.string ((rd_T24 t435 x17_1).f2))) (fun _ hk => hk.1)⟩
   have n4_ : Aside0 (Kd.R k24 24 (((w18.setCell ⟨gb439, 0, none⟩ (.int .i64 ((rd_T24 t435 x17_1).f0))).setCell ⟨gb439, 1, none⟩ (.int .i64 ((rd_T24 t435 x17_1).f1))).setCell ⟨gb439, 2, none⟩ (.string ((rd_T24 t435 x17_1).f2))) w.heap.size (fun k_ => (w.heap.size ≤ k_) ∧ k_ ≠ gb439) (.slice (some ad438) t435.length co9) t435) := ⟨by (with_reducible repeat (first | apply Kd.R_alloc | apply Kd.R_drewN | apply Kd.R_drew)); exact Kd.R_mono (Kd.R_far (p := ⟨gb439, 2, none⟩) (Kd.R_far (p := ⟨gb439, 1, none⟩) (Kd.R_far (p := ⟨gb439, 0, none⟩) (Kd.R_mono HO_15.out (fun k_ hk => (⟨hk, hk.2⟩ : _ ∧ k_ ≠ gb439))) (fun _ hk => hk.2) (.int .i64 ((rd_T24 t435 x17_1).f0))) (fun _ hk => hk.2) (.int .i64 ((rd_T24 t435 x17_1).f1))) (fun _ hk => hk.2) (.string ((rd_T24 t435 x17_1).f2))) (fun _ hk => ⟨hk.1.1, hk.1.2⟩)⟩
   have n5_ : Aside0 ((((w18.setCell ⟨gb439, 0, none⟩ (.int .i64 ((rd_T24 t435 x17_1).f0))).setCell ⟨gb439, 1, none⟩ (.int .i64 ((rd_T24 t435 x17_1).f1))).setCell ⟨gb439, 2, none⟩ (.string ((rd_T24 t435 x17_1).f2))).heap[gb439]? = some (.cells #[.int .i64 ((rd_T24 t435 x17_1).f0), .int .i64 ((rd_T24 t435 x17_1).f1), .string ((rd_T24 t435 x17_1).f2)] 24 (0, 0))) := ⟨by (with_reducible repeat (first | refine blk_drewN ?_ _ | refine blk_drew ?_ | refine blk_alloc ?_ _)); refine blk_put (cs := #[.int .i64 ((rd_T24 t435 x17_1).f0), .int .i64 ((rd_T24 t435 x17_1).f1), .string (⟨#[]⟩ : ByteArray)]) ?_ 2 _ rfl; (with_reducible repeat (first | refine blk_drewN ?_ _ | refine blk_drew ?_ | refine blk_alloc ?_ _)); refine blk_put (cs := #[.int .i64 ((rd_T24 t435 x17_1).f0), .int .i64 0, .string (⟨#[]⟩ : ByteArray)]) ?_ 1 _ rfl; (with_reducible repeat (first | refine blk_drewN ?_ _ | refine blk_drew ?_ | refine blk_alloc ?_ _)); refine blk_put (cs := #[.int .i64 0, .int .i64 0, .string (⟨#[]⟩ : ByteArray)]) ?_ 0 _ rfl; (with_reducible repeat (first | refine blk_drewN ?_ _ | refine blk_drew ?_ | refine blk_alloc ?_ _)); exact BK439.out⟩
   have n6_ : Aside0 (Below w.heap.size w (((w18.setCell ⟨gb439, 0, none⟩ (.int .i64 ((rd_T24 t435 x17_1).f0))).setCell ⟨gb439, 1, none⟩ (.int .i64 ((rd_T24 t435 x17_1).f1))).setCell ⟨gb439, 2, none⟩ (.string ((rd_T24 t435 x17_1).f2)))) := ⟨bS GE439.out⟩
   (try clear HO_1)
   (try clear HO_2)
   (try clear HO_7)
   (try clear HO_8)
   (try clear HO_15)
   (try clear BK439)
   (try clear HB)
   generalize (((w18.setCell ⟨gb439, 0, none⟩ (.int .i64 ((rd_T24 t435 x17_1).f0))).setCell ⟨gb439, 1, none⟩ (.int .i64 ((rd_T24 t435 x17_1).f1))).setCell ⟨gb439, 2, none⟩ (.string ((rd_T24 t435 x17_1).f2))) = w20 at n0_ n1_ n2_ n3_ n4_ n5_ n6_ ⊢
   have HO_1 := n0_
   have HO_2 := n1_
   have HO_7 := n2_
   have HO_8 := n3_
   have HO_15 := n4_
   have BK439 := n5_
   have HB := n6_
   clear n0_ n1_ n2_ n3_ n4_ n5_ n6_
   have n0_ := aK (Kd.V_drew HO_1.out)
   have n1_ := aK (Kd.V_drew HO_2.out)
   have n2_ := aK (Kd.R_drew HO_7.out)
   have n3_ := aK (Kd.R_drew HO_8.out)
   have n4_ := aK (Kd.R_drew HO_15.out)
   have n5_ := aK (blk_drew BK439.out)
   have n6_ := aK (below_drew1 HB.out)
   clear HO_1
   clear HO_2
   clear HO_7
   clear HO_8
   clear HO_15
   clear BK439
   clear HB
   have HO_1 := n0_
   have HO_2 := n1_
   have HO_7 := n2_
   have HO_8 := n3_
   have HO_15 := n4_
   have BK439 := n5_
   have HB := n6_
   clear n0_ n1_ n2_ n3_ n4_ n5_ n6_
   refine start_ (n := 8) (S := fun w' => w'.cell? ⟨gb439, 0, none⟩ = some (.int .i64 ((rd_T24 t435 x17_1).f0)) ∧ w'.cell? ⟨gb439, 1, none⟩ = some (.int .i64 ((rd_T24 t435 x17_1).f1)) ∧ w'.cell? ⟨gb439, 2, none⟩ = some (.string ((rd_T24 t435 x17_1).f2))) (ds := []) #[false, false, false, false, false, false, false, false] (by kernel_rfl) rfl rfl ⟨(blk_cell BK439.out 0).trans rfl, (blk_cell BK439.out 1).trans rfl, (blk_cell BK439.out 2).trans rfl⟩ (fun hHeld => ?_); refine with_tabW r3_Combine.tab6 r3_Combine.bits6 (fun HT_ HW_ => ?_)
   generalize w20.drew = w21 at HO_1 HO_2 HO_7 HO_8 HO_15 BK439 HB hHeld ⊢
   refine pY (i := 0) (N := some 22) (tf 1 7) rfl rfl HT_.out ?_
   refine pY (i := 1) (N := some 23) (tf 2 6) rfl rfl HT_.out ?_
   refine pY (i := 4) (N := some 26) #[true, true, false, false, true, false, false, false] rfl rfl HT_.out ?_
   refine take_ (i := 2) (N := some 24) (v := ?_) (a' := ?_) #[true, true, true, false, true, false, false, false] rfl rfl (take_ofW HT_.out HW_.out (by kernel_rfl)) (fun _ _ _ h => h) (Or.inl ⟨by rfl, ?_⟩) hHeld ?_ ?_
   rotate_left
   ·rintro w' ⟨s0, s1, s2⟩
    go_simp
    with_reducible rfl
   rotate_left
   ·exact aP
   refine take_ (i := 5) (N := some 27) (v := ?_) (a' := ?_) #[true, true, true, false, true, true, false, false] rfl rfl (take_ofW HT_.out HW_.out (by kernel_rfl)) (fun _ _ _ h => h) (Or.inl ⟨by rfl, ?_⟩) hHeld ?_ ?_
   rotate_left
   ·rintro w' ⟨s0, s1, s2⟩
    go_simp
    with_reducible rfl
   rotate_left
   ·exact aP
   refine one_ (i := 3) (N := some 25) #[true, true, true, true, true, true, false, false] rfl rfl (one_of HT_.out (by kernel_rfl)) (by decide) (fun K hK => ?_)
   refine goes_ Try.func92 (by kernel_rfl) rfl #[.slice A1 l1.length c1, .agg #[.int .i64 ((rd_T24 t435 x17_1).f0), .int .i64 ((rd_T24 t435 x17_1).f1), .string ((rd_T24 t435 x17_1).f2)]] (by rfl) rfl rfl (by (try simp only [List.map_toArray, List.map_cons, List.map_nil]); first | done | rfl | (simp only [List.length_drop, List.length_take]; rfl)) ?_
   with_reducible refine (r3_In.calls k1 _ _ l1 ((rd_T24 t435 x17_1).f0) ((rd_T24 t435 x17_1).f1) ((rd_T24 t435 x17_1).f2) t440 _ ?side1 ?side2 A13.out).mono ?_
   (case side1 => exact cX (Kd.V_reads' HO_1.out).2.2)
   (case side2 => exact (Kd.V_reads' HO_1.out).2.1)
   rintro e w22 ⟨rfl, hb⟩
   refine ⟨_, rfl, ?_⟩
   have n0_ := aK (Kd.V_below (vX HO_1.out) hb)
   have n1_ := aK (Kd.V_below (vX HO_2.out) hb)
   have n2_ := aK (Kd.R_below (rX HO_7.out) hb)
   have n3_ := aK (Kd.R_below (rX HO_8.out) hb)
   have n4_ := aK (Kd.R_below (rX HO_15.out) hb)
   have n5_ := aK (blk_below (bX BK439.out) hb)
   have n6_ := aK (below_step (bS GE439.out) hb)
   clear HO_1
   clear HO_2
   clear HO_7
   clear HO_8
   clear HO_15
   clear BK439
   clear HB
   have HO_1 := n0_
   have HO_2 := n1_
   have HO_7 := n2_
   have HO_8 := n3_
   have HO_15 := n4_
   have BK439 := n5_
   have HB := n6_
   clear n0_ n1_ n2_ n3_ n4_ n5_ n6_
   (try clear hb)
   (try clear hb2)
   (try clear hk)
   (try clear hi)
   refine hK.out _ _ ⟨(blk_cell BK439.out 0).trans rfl, (blk_cell BK439.out 1).trans rfl, (blk_cell BK439.out 2).trans rfl⟩ (fun hHeld => ?_)
   clear hK K
   refine norm_ (a' := ?_) ?_ ?_
   rotate_left
   ·show Act.put _ (some 25) _ = _
    simp only [Act.put, List.setIfInBounds_toArray, List.set_cons_zero, List.set_cons_succ, i64_w, i32_w]
    rfl
   refine one_ (i := 6) (N := some 28) #[true, true, true, true, true, true, true, false] rfl rfl (one_of HT_.out (by kernel_rfl)) (by decide) (fun K hK => ?_)
   refine goes_ Try.func92 (by kernel_rfl) rfl #[.slice A2 l2.length c2, .agg #[.int .i64 ((rd_T24 t435 x17_1).f0), .int .i64 ((rd_T24 t435 x17_1).f1), .string ((rd_T24 t435 x17_1).f2)]] (by rfl) rfl rfl (by (try simp only [List.map_toArray, List.map_cons, List.map_nil]); first | done | rfl | (simp only [List.length_drop, List.length_take]; rfl)) ?_
   with_reducible refine (r3_In.calls k1 _ _ l2 ((rd_T24 t435 x17_1).f0) ((rd_T24 t435 x17_1).f1) ((rd_T24 t435 x17_1).f2) t441 _ ?side1 ?side2 A14.out).mono ?_
   (case side1 => exact cX (Kd.V_reads' HO_2.out).2.2)
   (case side2 => exact (Kd.V_reads' HO_2.out).2.1)
   rintro e w23 ⟨rfl, hb⟩
   refine ⟨_, rfl, ?_⟩
   have n0_ := aK (Kd.V_below (vX HO_1.out) hb)
   have n1_ := aK (Kd.V_below (vX HO_2.out) hb)
   have n2_ := aK (Kd.R_below (rX HO_7.out) hb)
   have n3_ := aK (Kd.R_below (rX HO_8.out) hb)
   have n4_ := aK (Kd.R_below (rX HO_15.out) hb)
   have n5_ := aK (blk_below (bX BK439.out) hb)
   have n6_ := aK (below_step (bS GE439.out) hb)
   clear HO_1
   clear HO_2
   clear HO_7
   clear HO_8
   clear HO_15
   clear BK439
   clear HB
   have HO_1 := n0_
   have HO_2 := n1_
   have HO_7 := n2_
   have HO_8 := n3_
   have HO_15 := n4_
   have BK439 := n5_
   have HB := n6_
   clear n0_ n1_ n2_ n3_ n4_ n5_ n6_
   (try clear hb)
   (try clear hb2)
   (try clear hk)
   (try clear hi)
   refine hK.out _ _ ⟨(blk_cell BK439.out 0).trans rfl, (blk_cell BK439.out 1).trans rfl, (blk_cell BK439.out 2).trans rfl⟩ (fun hHeld => ?_)
   clear hK K
   refine norm_ (a' := ?_) ?_ ?_
   rotate_left
   ·show Act.put _ (some 28) _ = _
    simp only [Act.put, List.setIfInBounds_toArray, List.set_cons_zero, List.set_cons_succ, i64_w, i32_w]
    rfl
   refine one_ (i := 7) (N := some 29) #[true, true, true, true, true, true, true, true] rfl rfl (one_of HT_.out (by kernel_rfl)) (by decide) (fun K hK => ?_)
   refine goes_ Try.func97 (by kernel_rfl) rfl #[.int .i64 a0, .bool t440, .bool t441] (by rfl) rfl rfl (by (try simp only [List.map_toArray, List.map_cons, List.map_nil]); first | done | rfl | (simp only [List.length_drop, List.length_take]; rfl)) ?_
   with_reducible refine (r3_Apply.calls a0 t440 t441 true _ A15.out).mono ?_
   rintro e w' ⟨rfl, ⟨nd, rfl⟩⟩
   refine ⟨_, rfl, ?_⟩
   refine hK.out _ _ ⟨(blk_cell BK439.out 0).trans rfl, (blk_cell BK439.out 1).trans rfl, (blk_cell BK439.out 2).trans rfl⟩ (fun hHeld => ?_)
   clear hK K
   refine norm_ (a' := ?_) ?_ ?_
   rotate_left
   ·show Act.put _ (some 29) _ = _
    simp only [Act.put, List.setIfInBounds_toArray, List.set_cons_zero, List.set_cons_succ, i64_w, i32_w]
    rfl
   refine done_ (done_of HT_.out (by kernel_rfl)) ?_
   obtain ⟨Ao24, co24, eo24⟩ := Kd.R_slice HO_8.out
   subst eo24
   try go_wp2_with (first | ((with_reducible refine gate_callee (f := 98) rfl ?_); refine gL (some 33) rfl Try.func98 #[.slice Ao24 x8_1.length co24, .slice (some ad438) t435.length co9, .int .i64 x17_1] rfl ?_; (with_reducible refine (r3_Join.calls (fun k_ => some k_ = (.slice Ao24 x8_1.length co24 : Value).ownBlock) (.slice Ao24 x8_1.length co24) x8_1 _ _ t435 x17_1 t443 w _ ?side1 ?side2 ?side3 ?side4 A17.out).mono ?_); (case side1 => exact bS GE439.out); (case side2 => exact Kd.R_tight rfl HO_8.out); (case side3 => exact Kd.C_kept_own ((Kd.R_apart' HO_7.out (Kd.R_typed HO_8.out) (by decide))) (fun k_ hk_ hs_ => (hk_.2) hs_)); (case side4 => exact (Kd.R_reads' HO_7.out).2.1); rintro e w25 ⟨v444, rfl, ho0, hb, hkp⟩; refine ⟨_, rfl, ?_⟩; have n0_ := aK (Kd.V_mono (ok' := fun k_ => ((P1_ k_ ∨ P2_ k_) ∨ w.heap.size ≤ k_) ∧ some k_ ≠ (.slice (some ad438) t435.length co9 : Value).ownBlock ∧ some k_ ≠ (.slice (some ad438) t435.length co9 : Value).ownBlock ∧ k_ ≠ gb439 ∧ some k_ ≠ (v444 : Value).ownBlock) (Kd.V_keptB (HO_1.out) hkp (fun k_ hk_ hs_ => (hk_.2.2.1) hs_)) (fun k_ hk_ => ⟨hk_.1.1, hk_.1.2.1, hk_.1.2.2.2.1, hk_.1.2.2.2.2, fun e_ => Or.elim (ho0.1 k_ e_.symm) (fun hs_ => hk_.2.1 hs_) (fun hn_ => Nat.not_le.2 hk_.2.2 hn_)⟩)); have n1_ := aK (Kd.V_mono (ok' := fun k_ => ((P1_ k_ ∨ P2_ k_) ∨ w.heap.size ≤ k_) ∧ some k_ ≠ (.slice (some ad438) t435.length co9 : Value).ownBlock ∧ some k_ ≠ (.slice (some ad438) t435.length co9 : Value).ownBlock ∧ k_ ≠ gb439 ∧ some k_ ≠ (v444 : Value).ownBlock) (Kd.V_keptB (HO_2.out) hkp (fun k_ hk_ hs_ => (hk_.2.2.1) hs_)) (fun k_ hk_ => ⟨hk_.1.1, hk_.1.2.1, hk_.1.2.2.2.1, hk_.1.2.2.2.2, fun e_ => Or.elim (ho0.1 k_ e_.symm) (fun hs_ => hk_.2.1 hs_) (fun hn_ => Nat.not_le.2 hk_.2.2 hn_)⟩)); have n2_ := aK (Kd.R_mono (ok' := fun k_ => (w.heap.size ≤ k_) ∧ k_ ≠ gb439) (Kd.R_keptB ((Kd.R_apart' HO_7.out (Kd.R_typed HO_8.out) (by decide))) hkp (fun k_ hk_ hs_ => (hk_.2) hs_)) (fun k_ hk_ => ⟨hk_.1.1.1, hk_.1.1.2⟩)); have n3_ := aK (Kd.R_mono (ok' := fun k_ => (w.heap.size ≤ k_) ∧ k_ ≠ gb439) (Kd.R_keptB ((Kd.R_apart' HO_15.out (Kd.R_typed HO_8.out) (by decide))) hkp (fun k_ hk_ hs_ => (hk_.2) hs_)) (fun k_ hk_ => ⟨hk_.1.1.1, hk_.1.1.2⟩)); have n4_ := aK (blk_kept (bX BK439.out) hkp (fun hs_ => (fun e_ => (Kd.R_ne HO_8.out BK439.out (by decide)) e_) hs_)); have n5_ := aK (Kd.R_mono (ok' := fun k_ => (w.heap.size ≤ k_)) ho0 (fun k_ hk_ => Or.elim hk_ (fun hs_ => (HO_8.out.1 k_ (hs_).symm)) (fun hn_ => (Nat.le_trans (below_size (bS GE439.out)) hn_)))); have n6_ := aK (hb); clear HO_1 HO_2 HO_7 HO_15 BK439 HB HO_8; have HO_1 := n0_; have HO_2 := n1_; have HO_7 := n2_; have HO_15 := n3_; have BK439 := n4_; have HO445 := n5_; have HB := n6_; clear n0_ n1_ n2_ n3_ n4_ n5_ n6_; (try clear hb hkp ho0)))
   go_roundg k1
   case measure => have := HK1.out; omega
   case rel => exact ⟨(t443), (wrap64 (x17_1 + 1)), (by first | rfl | (simp; done) | (simp [*]; done)), H', ⟨by have := HK1.out; omega⟩, ⟨by (with_reducible repeat (first | apply Kd.V_alloc | apply Kd.V_drewN | apply Kd.V_drew)); exact Kd.V_mono HO_1.out (fun _ hk => ⟨hk.1, ⟨hk.2.1, ⟨hk.2.2.2.2, hk.2.2.1⟩⟩⟩)⟩, ⟨by (with_reducible repeat (first | apply Kd.V_alloc | apply Kd.V_drewN | apply Kd.V_drew)); exact Kd.V_mono HO_2.out (fun _ hk => ⟨hk.1, ⟨hk.2.1, ⟨hk.2.2.2.2, hk.2.2.1⟩⟩⟩)⟩, ⟨by (with_reducible repeat (first | apply Kd.R_alloc | apply Kd.R_drewN | apply Kd.R_drew)); exact Kd.R_mono HO_7.out (fun _ hk => hk.1)⟩, ⟨rX HO445.out⟩, ⟨by (with_reducible repeat (first | apply Kd.R_alloc | apply Kd.R_drewN | apply Kd.R_drew)); exact Kd.R_mono HO_15.out (fun _ hk => hk.1)⟩, ⟨bS GE439.out⟩⟩
def cc_Bool.f (s0_0 : List Int) (s0_1 : Int) (a1 : Int) : Option (Bool × Int) := (cc_Int.f s0_0 s0_1 a1).bind fun bt446 => (some ((bt446.1 == (wrap64 (a1 - 1))), bt446.2))
set_option maxHeartbeats 8000000 in
set_option maxRecDepth 100000 in
theorem cc_Bool.calls (g : Nat) (s0_0 : List Int) (s0_1 : Int) (a1 : Int) (r1 : Bool) (r2 : Int) (w0 w : World) (hI : IsS75 w0 w g s0_0 s0_1) (hB : Below w0.heap.size w0 w) (h : cc_Bool.f s0_0 s0_1 a1 = some (r1, r2)) :
  Calls Try.prog 76 #[.pointer (some ⟨g, 0, none⟩), .int .i64 a1] w fun e w' => e = .returned (.bool r1) ∧ IsS75 w0 w' g s0_0 r2 ∧ Below w0.heap.size w0 w' ∧ KeepBut w w' g none := by
 have HI0 := Aside0.mk hI
 have HK := aK (KeepBut.refl w g none)
 have HL := Aside0.mk hB.size
 clear hI
 have HW0 := Aside0.mk hB.size
 have HB := Aside0.mk hB
 clear hB
 have H : ((cc_Int.f s0_0 s0_1 a1).bind fun bt446 => (some ((bt446.1 == (wrap64 (a1 - 1))), bt446.2))) = some (r1, r2) := h
 clear h
 obtain ⟨⟨t446, t447⟩, A3, H⟩ := oB H
 try dsimp only at H
 simp only [Option.some.injEq, Prod.mk.injEq] at H
 obtain ⟨rfl, rfl⟩ := H
 go_enter Try.func76, Try.ntmps76
 go_wp2_with (first | ((with_reducible refine gate_callee (f := 73) rfl ?_); refine gL (some 7) rfl Try.func73 #[.pointer (some ⟨g, 0, none⟩), .int .i64 a1] rfl ?_; (with_reducible refine (cc_Int.calls g s0_0 s0_1 a1 t446 t447 w0 _ ?side1 ?side2 A3.out).mono ?_); (case side1 => exact iX HI0.out); (case side2 => exact bS (IsS75.ge HI0.out)); rintro e w4 ⟨rfl, hi, hb, hk⟩; refine ⟨_, rfl, ?_⟩; have n0_ := aK (KeepBut.trans kX hk (.inl rfl)); have n1_ := aK (hb); have n2_ := aK (hi); clear HK HB HI0; have HK := n0_; have HB := n1_; have HI0 := n2_; clear n0_ n1_ n2_; (try clear hb hk hi)))
 go_ret
 exact ⟨eW, iX HI0.out, bS (IsS75.ge HI0.out), kX⟩
mutual
def cc_Interval.l0 : Nat → List (S65) → Int → List Int → Int → Option ((List (S65)) × Int)
 | 0, _, _, _, _ => none
 | k + 1, x3, x4, x1000, x1001 => if x4 > 0 then ((cc_Any.f k x1000 x1001).bind fun bt450 => ((cc_Any.f k x1000 bt450.2.2.2).bind fun bt454 => ((r1_Compare.f bt450.1 bt450.2.1 bt450.2.2.1 bt454.1 bt454.2.1 bt454.2.2.1).bind fun t460 => (if t460 > 0 then (cc_Interval.j1 k x3 x4 x1000 bt454.2.2.2 bt454.1 bt454.2.1 bt454.2.2.1 bt450.1 bt450.2.1 bt450.2.2.1) else (cc_Interval.j1 k x3 x4 x1000 bt454.2.2.2 bt450.1 bt450.2.1 bt450.2.2.1 bt454.1 bt454.2.1 bt454.2.2.1))))) else ((cc_Bool.f x1000 x1001 4).bind fun bt484 => (if bt484.1 = true then ((r3_All.f).bind fun t486 => ((r3_Combine.f k 3 t486 x3).bind fun t489 => (some (t489, bt484.2)))) else (some (x3, bt484.2))))
def cc_Interval.j1 : Nat → List (S65) → Int → List Int → Int → Int → Int → ByteArray → Int → Int → ByteArray → Option ((List (S65)) × Int)
 | 0, _, _, _, _, _, _, _, _, _, _ => none
 | k + 1, x3, x4, x1000, x1001, x459000, x459001, x459002, x460000, x460001, x460002 => (cc_Int.f x1000 x1001 5).bind fun bt461 => (if bt461.1 = 0 then ((r3_From.f k x459000 x459001 x459002).bind fun bt463 => ((r3_Combine.f k 1 x3 bt463.1).bind fun t467 => (cc_Interval.l0 k t467 (wrap64 (x4 - 1)) x1000 bt461.2))) else (if bt461.1 = 1 then ((r3_One.f k x459000 x459001 x459002).bind fun bt470 => ((r3_Combine.f k 1 x3 bt470.1).bind fun t474 => (cc_Interval.l0 k t474 (wrap64 (x4 - 1)) x1000 bt461.2))) else ((r3_Between.f k x459000 x459001 x459002 x460000 x460001 x460002).bind fun bt477 => ((r3_Combine.f k 1 x3 bt477.1).bind fun t481 => (cc_Interval.l0 k t481 (wrap64 (x4 - 1)) x1000 bt461.2)))))
end
def cc_Interval.f (k : Nat) (s0_0 : List Int) (s0_1 : Int) : Option ((List (S65)) × Int) := (cc_Int.f s0_0 s0_1 3).bind fun bt448 => (cc_Interval.l0 k ([] : List (S65)) (wrap64 (1 + bt448.1)) s0_0 bt448.2)
set_option maxHeartbeats 8000000 in
set_option maxRecDepth 100000 in
theorem cc_Interval.calls (k : Nat) (g : Nat) (s0_0 : List Int) (s0_1 : Int) (r1 : List (S65)) (r2 : Int) (w0 w : World) (hI : IsS75 w0 w g s0_0 s0_1) (hB : Below w0.heap.size w0 w) (h : cc_Interval.f k s0_0 s0_1 = some (r1, r2)) :
  Calls Try.prog 29 #[.pointer (some ⟨g, 0, none⟩)] w fun e w' => ∃ v0_ : Value, e = .returned (v0_) ∧ Kd.R k65 65 w' w.heap.size (fun _ => True) v0_ r1 ∧ IsS75 w0 w' g s0_0 r2 ∧ Below w0.heap.size w0 w' ∧ KeepBut w w' g none := by
 have hu24 := Try.underlying24
 have HI0 := Aside0.mk hI
 have HK := aK (KeepBut.refl w g none)
 have HL := Aside0.mk hB.size
 clear hI
 have HW0 := Aside0.mk hB.size
 have HB := Aside0.mk hB
 clear hB
 have H : ((cc_Int.f s0_0 s0_1 3).bind fun bt448 => (cc_Interval.l0 k ([] : List (S65)) (wrap64 (1 + bt448.1)) s0_0 bt448.2)) = some (r1, r2) := h
 clear h
 obtain ⟨⟨t448, t449⟩, A2, H⟩ := oB H
 try dsimp only at H
 have H' := Aside0.mk H
 clear H
 go_enter Try.func29, Try.ntmps29
 go_wp2_with (first | ((with_reducible refine gate_callee (f := 73) rfl ?_); refine gL (some 9) rfl Try.func73 #[.pointer (some ⟨g, 0, none⟩), .int .i64 3] rfl ?_; (with_reducible refine (cc_Int.calls g s0_0 s0_1 3 t448 t449 w0 _ ?side1 ?side2 A2.out).mono ?_); (case side1 => exact iX HI0.out); (case side2 => exact bS (IsS75.ge HI0.out)); rintro e w3 ⟨rfl, hi, hb, hk⟩; refine ⟨_, rfl, ?_⟩; have n0_ := aK (KeepBut.trans kX hk (.inl rfl)); have n1_ := aK (hb); have n2_ := aK (hi); clear HK HB HI0; have HK := n0_; have HB := n1_; have HI0 := n2_; clear n0_ n1_ n2_; (try clear hb hk hi)))
 go_loopg [3, 4] k (fun kq v3 v4 w' => ∃ (x3_1 : List (S65)) (x4_1 : Int) (x1001_1 : Int), v4 = .int .i64 x4_1 ∧ Aside0 (cc_Interval.l0 kq x3_1 x4_1 s0_0 x1001_1 = some (r1, r2)) ∧ Aside0 (kq ≤ k) ∧ Aside0 (Kd.R k65 65 w' w.heap.size (fun _ => True) v3 x3_1) ∧ Aside0 (IsS75 w0 w' g s0_0 x1001_1) ∧ Aside0 (KeepBut w w' g none) ∧ Aside0 (Below w0.heap.size w0 w'))
 case atStart => exact ⟨(([] : List (S65))), (wrap64 (1 + t448)), (t449), (by first | rfl | (simp; done) | (simp [*]; done)), H', ⟨Nat.le_refl _⟩, ⟨by first | exact Kd.R_nil _ _ _ _ _ | exact Kd.N_nil _ _ _ _ _ | exact Kd.V_nil _ _ _ _ _ | exact Kd.Q_nil _ _ _ _ _ | exact Kd.S_nil _ _ _ _ _⟩, ⟨iX HI0.out⟩, ⟨kX⟩, ⟨bS (IsS75.ge HI0.out)⟩⟩
 case round =>
  clear H'
  try clear c2
  try clear p2
  obtain ⟨x3_1, x4_1, x1001_1, rfl, HA, HK1, HO_3, HI0, HK, HB⟩ := hrel
  cases gk with
  | zero => exact absurd HA.out (by simp [cc_Interval.l0])
  | succ k1 =>
   have H := HA.out
   clear HA
   simp only [cc_Interval.l0] at H
   by_cases c4 : x4_1 > 0
   rotate_left
   ·rw [if_neg c4] at H
    have c4b0 : decide (0 < x4_1) = false := decide_eq_false c4
    clear c4
    obtain ⟨⟨t484, t485⟩, A60, H⟩ := oB H
    try dsimp only at H
    by_cases c61 : t484 = true
    rotate_left
    ·replace c61 := Bool.eq_false_iff.mpr c61
     subst c61
     rw [if_neg (show ¬ (false = true) by decide)] at H
     simp only [Option.some.injEq, Prod.mk.injEq] at H
     obtain ⟨rfl, rfl⟩ := H
     go_wp2_with (first | ((with_reducible refine gate_callee (f := 76) rfl ?_); refine gL (some 51) rfl Try.func76 #[.pointer (some ⟨g, 0, none⟩), .int .i64 4] rfl ?_; (with_reducible refine (cc_Bool.calls g s0_0 x1001_1 4 false t485 w0 _ ?side1 ?side2 A60.out).mono ?_); (case side1 => exact iX HI0.out); (case side2 => exact bS (IsS75.ge HI0.out)); rintro e w69 ⟨rfl, hi, hb, hk⟩; refine ⟨_, rfl, ?_⟩; have n0_ := aK (Kd.R_mono (Kd.R_keep (IsS75.apart (show IsS75 w0 _ g s0_0 x1001_1 from iX HI0.out) (rX HO_3.out) (by decide)) hk (fun _ h => h.2)) (fun _ h => h.1)); have n1_ := aK (KeepBut.trans kX hk (.inl rfl)); have n2_ := aK (hb); have n3_ := aK (hi); clear HO_3 HK HB HI0; have HO_3 := n0_; have HK := n1_; have HB := n2_; have HI0 := n3_; clear n0_ n1_ n2_ n3_; (try clear hb hk hi)))
     go_ret
     exact ⟨_, eW, by (with_reducible repeat (first | apply Kd.R_alloc | apply Kd.R_drewN | apply Kd.R_drew)); exact HO_3.out, iX HI0.out, bS (IsS75.ge HI0.out), kX⟩
    subst c61
    rw [if_pos rfl] at H
    obtain ⟨t486, A62, H⟩ := oB H
    try dsimp only at H
    obtain ⟨t489, A63, H⟩ := oB H
    try dsimp only at H
    simp only [Option.some.injEq, Prod.mk.injEq] at H
    obtain ⟨rfl, rfl⟩ := H
    go_wp2_with (first | ((with_reducible refine gate_callee (f := 76) rfl ?_); refine gL (some 51) rfl Try.func76 #[.pointer (some ⟨g, 0, none⟩), .int .i64 4] rfl ?_; (with_reducible refine (cc_Bool.calls g s0_0 x1001_1 4 true t485 w0 _ ?side1 ?side2 A60.out).mono ?_); (case side1 => exact iX HI0.out); (case side2 => exact bS (IsS75.ge HI0.out)); rintro e w64 ⟨rfl, hi, hb, hk⟩; refine ⟨_, rfl, ?_⟩; have n0_ := aK (Kd.R_mono (Kd.R_keep (IsS75.apart (show IsS75 w0 _ g s0_0 x1001_1 from iX HI0.out) (rX HO_3.out) (by decide)) hk (fun _ h => h.2)) (fun _ h => h.1)); have n1_ := aK (KeepBut.trans kX hk (.inl rfl)); have n2_ := aK (hb); have n3_ := aK (hi); clear HO_3 HK HB HI0; have HO_3 := n0_; have HK := n1_; have HB := n2_; have HI0 := n3_; clear n0_ n1_ n2_ n3_; (try clear hb hk hi)) | ((with_reducible refine gate_callee (f := 48) rfl ?_); refine gL (some 52) rfl Try.func48 #[] rfl ?_; (with_reducible refine (r3_All.calls  t486 _ A62.out).mono ?_); rintro e w65 ⟨v487, rfl, ho0, hb⟩; refine ⟨_, rfl, ?_⟩; have n0_ := aK (Kd.R_elder' (rX HO_3.out) (Kd.R_base ho0) hb); have n1_ := aK (Kd.R_lower (Kd.R_new' ho0 (Kd.R_lt (rX HO_3.out))) (keep_size (w := w) (g := g) (row := none) kX)); have n2_ := aK (IsS75.below (iX HI0.out) hb); have n3_ := aK (KeepBut.trans kX (KeepBut.of_below hb g none) (.inl rfl)); have n4_ := aK (below_step (bS (IsS75.ge HI0.out)) hb); clear HO_3 HI0 HK HB; have HO_3 := n0_; have HO488 := n1_; have HI0 := n2_; have HK := n3_; have HB := n4_; clear n0_ n1_ n2_ n3_ n4_; (try clear hb ho0); obtain ⟨Ao66, co66, eo66⟩ := Kd.R_slice HO488.out; subst eo66; obtain ⟨Ao67, co67, eo67⟩ := Kd.R_slice HO_3.out; subst eo67) | ((with_reducible refine gate_callee (f := 75) rfl ?_); refine gL (some 54) rfl Try.func75 #[.int .i64 3, .slice Ao66 t486.length co66, .slice Ao67 x3_1.length co67] rfl ?_; (with_reducible refine (r3_Combine.calls k1 3 (fun k_ => some k_ = (.slice Ao66 t486.length co66 : Value).ownBlock) _ _ t486 (fun k_ => some k_ = (.slice Ao67 x3_1.length co67 : Value).ownBlock) _ _ x3_1 t489 _ ?side1 ?side2 A63.out).mono ?_); (case side1 => exact Kd.R_V (Kd.R_tight rfl (IsS75.apart HI0.out (HO488.out) (by decide)))); (case side2 => exact Kd.R_V (Kd.R_tight rfl (IsS75.apart HI0.out (HO_3.out) (by decide)))); rintro e w68 ⟨v490, rfl, ho0, hb⟩; refine ⟨_, rfl, ?_⟩; have n0_ := aK (Kd.R_elder' (rX HO_3.out) (Kd.R_base ho0) hb); have n1_ := aK (Kd.R_elder' (rX HO488.out) (Kd.R_base ho0) hb); have n2_ := aK (Kd.R_lower (Kd.R_new' (Kd.R_new' (Kd.R_mono (ok' := fun k_ => True) ho0 (fun _ hk_ => trivial)) (Kd.R_lt (rX HO_3.out))) (Kd.R_lt (rX HO488.out))) (keep_size (w := w) (g := g) (row := none) kX)); have n3_ := aK (IsS75.below (iX HI0.out) hb); have n4_ := aK (KeepBut.trans kX (KeepBut.of_below hb g none) (.inl rfl)); have n5_ := aK (below_step (bS (IsS75.ge HI0.out)) hb); clear HO_3 HO488 HI0 HK HB; have HO_3 := n0_; have HO488 := n1_; have HO491 := n2_; have HI0 := n3_; have HK := n4_; have HB := n5_; clear n0_ n1_ n2_ n3_ n4_ n5_; (try clear hb ho0)))
    go_ret
    exact ⟨_, eW, by (with_reducible repeat (first | apply Kd.R_alloc | apply Kd.R_drewN | apply Kd.R_drew)); exact Kd.R_mono HO491.out (fun _ hk => trivial), iX HI0.out, bS (IsS75.ge HI0.out), kX⟩
   rw [if_pos c4] at H
   have c4b0 : decide (0 < x4_1) = true := decide_eq_true c4
   clear c4
   obtain ⟨⟨t450, t451, t452, t453⟩, A5, H⟩ := oB H
   try dsimp only at H
   obtain ⟨⟨t454, t455, t456, t457⟩, A6, H⟩ := oB H
   try dsimp only at H
   obtain ⟨t460, A7, H⟩ := oB H
   try dsimp only at H
   have HC8 := Aside0.mk H
   clear H
   go_upto_if 22 with (first | ((with_reducible refine gate_callee (f := 19) rfl ?_); refine gL (some 16) rfl Try.func19 #[.pointer (some ⟨g, 0, none⟩)] rfl ?_; (with_reducible refine (cc_Any.calls k1 g s0_0 x1001_1 t450 t451 t452 t453 w0 _ ?side1 ?side2 A5.out).mono ?_); (case side1 => exact iX HI0.out); (case side2 => exact bS (IsS75.ge HI0.out)); rintro e w9 ⟨rfl, hi, hb, hk⟩; refine ⟨_, rfl, ?_⟩; have n0_ := aK (Kd.R_mono (Kd.R_keep (IsS75.apart (show IsS75 w0 _ g s0_0 x1001_1 from iX HI0.out) (rX HO_3.out) (by decide)) hk (fun _ h => h.2)) (fun _ h => h.1)); have n1_ := aK (KeepBut.trans kX hk (.inl rfl)); have n2_ := aK (hb); have n3_ := aK (hi); clear HO_3 HK HB HI0; have HO_3 := n0_; have HK := n1_; have HB := n2_; have HI0 := n3_; clear n0_ n1_ n2_ n3_; (try clear hb hk hi)) | ((with_reducible refine gate_callee (f := 19) rfl ?_); refine gL (some 18) rfl Try.func19 #[.pointer (some ⟨g, 0, none⟩)] rfl ?_; (with_reducible refine (cc_Any.calls k1 g s0_0 t453 t454 t455 t456 t457 w0 _ ?side1 ?side2 A6.out).mono ?_); (case side1 => exact iX HI0.out); (case side2 => exact bS (IsS75.ge HI0.out)); rintro e w10 ⟨rfl, hi, hb, hk⟩; refine ⟨_, rfl, ?_⟩; have n0_ := aK (Kd.R_mono (Kd.R_keep (IsS75.apart (show IsS75 w0 _ g s0_0 t453 from iX HI0.out) (rX HO_3.out) (by decide)) hk (fun _ h => h.2)) (fun _ h => h.1)); have n1_ := aK (KeepBut.trans kX hk (.inl rfl)); have n2_ := aK (hb); have n3_ := aK (hi); clear HO_3 HK HB HI0; have HO_3 := n0_; have HK := n1_; have HB := n2_; have HI0 := n3_; clear n0_ n1_ n2_ n3_; (try clear hb hk hi)) | ((with_reducible refine gate_dst (N := 5) rfl ?_); refine box_event ?hg (N := 5) ?hd (cs := #[.int .i64 0, .int .i64 0, .string (⟨#[]⟩ : ByteArray)]) (t := 24) ?hr ?_; (case hd => rfl); (case hg => rfl); (case hr => exact hR); intro gb458 hg w11 hbox hb; have n0_ := aK (Kd.R_below (rX HO_3.out) hb); have n1_ := aK (IsS75.below (iX HI0.out) hb); have n2_ := aK (KeepBut.trans kX (KeepBut.of_below hb g none) (.inl rfl)); have n3_ := aK (below_step (bS (IsS75.ge HI0.out)) hb); have n4_ := aK (hbox); have n5_ := aK ((by rw [hg]; exact (keep_size (w := w) (g := g) (row := none) kX) : w.heap.size ≤ gb458)); have n6_ := aK ((Nat.le_trans HW0.out (by rw [hg]; exact (keep_size (w := w) (g := g) (row := none) kX) : w.heap.size ≤ gb458) : w0.heap.size ≤ gb458)); have n7_ := aK ((by rw [hg]; exact Nat.ne_of_lt (IsS75.lt (show IsS75 w0 _ g s0_0 t457 from iX HI0.out)) : g ≠ gb458)); have n8_ := aK ((by rw [hg]; exact Nat.ne_of_gt (IsS75.lt (show IsS75 w0 _ g s0_0 t457 from iX HI0.out)) : gb458 ≠ g)); clear HO_3 HI0 HK HB; have HO_3 := n0_; have HI0 := n1_; have HK := n2_; have HB := n3_; have BK458 := n4_; have GW458 := n5_; have GE458 := n6_; have NB0_458 := n7_; have NB458_0 := n8_; clear n0_ n1_ n2_ n3_ n4_ n5_ n6_ n7_ n8_ hb hbox hg) | ((with_reducible refine gate_dst (N := 6) rfl ?_); refine box_event ?hg (N := 6) ?hd (cs := #[.int .i64 0, .int .i64 0, .string (⟨#[]⟩ : ByteArray)]) (t := 24) ?hr ?_; (case hd => rfl); (case hg => rfl); (case hr => exact hR); intro gb459 hg w12 hbox hb; have n0_ := aK (Kd.R_below (rX HO_3.out) hb); have n1_ := aK (IsS75.below (iF HI0.out NB0_458.out) hb); have n2_ := aK (blk_below (bX BK458.out) hb); have n3_ := aK (KeepBut.trans (by repeat (first | (with_reducible first | exact HK.out | apply KeepBut.set_ | apply keep_drewN | apply keep_drew | apply keep_alloc | refine keep_far ?_ GW458.out _) | exact HK.out)) (KeepBut.of_below hb g none) (.inl rfl)); have n4_ := aK (below_step (bT (IsS75.ge HI0.out) GE458.out) hb); have n5_ := aK (hbox); have n6_ := aK ((by rw [hg]; exact (keep_size (w := w) (g := g) (row := none) (by repeat (first | (with_reducible first | exact HK.out | apply KeepBut.set_ | apply keep_drewN | apply keep_drew | apply keep_alloc | refine keep_far ?_ GW458.out _) | exact HK.out))) : w.heap.size ≤ gb459)); have n7_ := aK ((Nat.le_trans HW0.out (by rw [hg]; exact (keep_size (w := w) (g := g) (row := none) (by repeat (first | (with_reducible first | exact HK.out | apply KeepBut.set_ | apply keep_drewN | apply keep_drew | apply keep_alloc | refine keep_far ?_ GW458.out _) | exact HK.out))) : w.heap.size ≤ gb459) : w0.heap.size ≤ gb459)); have n8_ := aK ((by rw [hg]; exact Nat.ne_of_lt (blk_lt (bX BK458.out)) : gb458 ≠ gb459)); have n9_ := aK ((by rw [hg]; exact Nat.ne_of_gt (blk_lt (bX BK458.out)) : gb459 ≠ gb458)); have n10_ := aK ((by rw [hg]; exact Nat.ne_of_lt (IsS75.lt (show IsS75 w0 _ g s0_0 t457 from iF HI0.out NB0_458.out)) : g ≠ gb459)); have n11_ := aK ((by rw [hg]; exact Nat.ne_of_gt (IsS75.lt (show IsS75 w0 _ g s0_0 t457 from iF HI0.out NB0_458.out)) : gb459 ≠ g)); clear HO_3 HI0 BK458 HK HB; have HO_3 := n0_; have HI0 := n1_; have BK458 := n2_; have HK := n3_; have HB := n4_; have BK459 := n5_; have GW459 := n6_; have GE459 := n7_; have NB458_459 := n8_; have NB459_458 := n9_; have NB0_459 := n10_; have NB459_0 := n11_; clear n0_ n1_ n2_ n3_ n4_ n5_ n6_ n7_ n8_ n9_ n10_ n11_ hb hbox hg; have hnb13 := NB458_459.out; have hnc13 := NB459_458.out; have hnb14 := NB458_0.out; have hnc14 := NB0_458.out; obtain ⟨hcz15_0, hcz15_1, hcz15_2⟩ := z3 BK458.out (.int .i64 0) (.int .i64 0) (.string (⟨#[]⟩ : ByteArray)); obtain ⟨hfz15_0, hfz15_1, hfz15_2⟩ := f3 BK458.out; have hnb16 := NB459_0.out; have hnc16 := NB0_459.out; obtain ⟨hcz17_0, hcz17_1, hcz17_2⟩ := z3 BK459.out (.int .i64 0) (.int .i64 0) (.string (⟨#[]⟩ : ByteArray)); obtain ⟨hfz17_0, hfz17_1, hfz17_2⟩ := f3 BK459.out) | ((with_reducible refine gate_callee (f := 26) rfl ?_); refine gL (some 21) rfl Try.func26 #[.agg #[.int .i64 t450, .int .i64 t451, .string t452], .agg #[.int .i64 t454, .int .i64 t455, .string t456]] rfl ?_; (with_reducible refine (r1_Compare.calls t450 t451 t452 t454 t455 t456 t460 _ A7.out).mono ?_); rintro e w18 ⟨rfl, hb⟩; refine ⟨_, rfl, ?_⟩; have n0_ := aK (Kd.R_below (by (with_reducible repeat (first | apply Kd.R_alloc | apply Kd.R_drewN | apply Kd.R_drew)); exact (Kd.R_mono (Kd.R_mono (Kd.R_far (p := ⟨gb459, 2, none⟩) (Kd.R_far (p := ⟨gb459, 1, none⟩) (Kd.R_far (p := ⟨gb459, 0, none⟩) (Kd.R_far (p := ⟨gb458, 2, none⟩) (Kd.R_far (p := ⟨gb458, 1, none⟩) (Kd.R_far (p := ⟨gb458, 0, none⟩) (Kd.R_types (Kd.R_types HO_3.out BK458.out (by decide)) BK459.out (by decide)) (fun _ hk => hk.1.2) (.int .i64 t450)) (fun _ hk => hk.1.2) (.int .i64 t451)) (fun _ hk => hk.1.2) (.string t452)) (fun _ hk => hk.2) (.int .i64 t454)) (fun _ hk => hk.2) (.int .i64 t455)) (fun _ hk => hk.2) (.string t456)) (fun _ h_ => h_.1)) (fun _ h_ => h_.1))) hb); have n1_ := aK (IsS75.below (show IsS75 w0 ((((((w12.setCell ⟨gb458, 0, none⟩ (.int .i64 t450)).setCell ⟨gb458, 1, none⟩ (.int .i64 t451)).setCell ⟨gb458, 2, none⟩ (.string t452)).setCell ⟨gb459, 0, none⟩ (.int .i64 t454)).setCell ⟨gb459, 1, none⟩ (.int .i64 t455)).setCell ⟨gb459, 2, none⟩ (.string t456)) g s0_0 t457 from by repeat (first | (with_reducible first | exact HI0.out | apply IsS75.alloc | apply IsS75.drewN | apply IsS75.drew | apply IsS75.set_1 | refine IsS75.far ?_ NB0_458.out _ | refine IsS75.far ?_ NB0_459.out _) | exact HI0.out)) hb); have n2_ := aK (blk_below (g := gb458) (o := .cells #[.int .i64 t450, .int .i64 t451, .string t452] 24 (0, 0)) (by (with_reducible repeat (first | refine blk_drewN ?_ _ | refine blk_drew ?_ | refine blk_alloc ?_ _)); refine blk_far ?_ NB458_459.out _; (with_reducible repeat (first | refine blk_drewN ?_ _ | refine blk_drew ?_ | refine blk_alloc ?_ _)); refine blk_far ?_ NB458_459.out _; (with_reducible repeat (first | refine blk_drewN ?_ _ | refine blk_drew ?_ | refine blk_alloc ?_ _)); refine blk_far ?_ NB458_459.out _; (with_reducible repeat (first | refine blk_drewN ?_ _ | refine blk_drew ?_ | refine blk_alloc ?_ _)); refine blk_put (cs := #[.int .i64 t450, .int .i64 t451, .string (⟨#[]⟩ : ByteArray)]) ?_ 2 _ rfl; (with_reducible repeat (first | refine blk_drewN ?_ _ | refine blk_drew ?_ | refine blk_alloc ?_ _)); refine blk_put (cs := #[.int .i64 t450, .int .i64 0, .string (⟨#[]⟩ : ByteArray)]) ?_ 1 _ rfl; (with_reducible repeat (first | refine blk_drewN ?_ _ | refine blk_drew ?_ | refine blk_alloc ?_ _)); refine blk_put (cs := #[.int .i64 0, .int .i64 0, .string (⟨#[]⟩ : ByteArray)]) ?_ 0 _ rfl; (with_reducible repeat (first | refine blk_drewN ?_ _ | refine blk_drew ?_ | refine blk_alloc ?_ _)); exact BK458.out) hb); have n3_ := aK (blk_below (g := gb459) (o := .cells #[.int .i64 t454, .int .i64 t455, .string t456] 24 (0, 0)) (by (with_reducible repeat (first | refine blk_drewN ?_ _ | refine blk_drew ?_ | refine blk_alloc ?_ _)); refine blk_put (cs := #[.int .i64 t454, .int .i64 t455, .string (⟨#[]⟩ : ByteArray)]) ?_ 2 _ rfl; (with_reducible repeat (first | refine blk_drewN ?_ _ | refine blk_drew ?_ | refine blk_alloc ?_ _)); refine blk_put (cs := #[.int .i64 t454, .int .i64 0, .string (⟨#[]⟩ : ByteArray)]) ?_ 1 _ rfl; (with_reducible repeat (first | refine blk_drewN ?_ _ | refine blk_drew ?_ | refine blk_alloc ?_ _)); refine blk_put (cs := #[.int .i64 0, .int .i64 0, .string (⟨#[]⟩ : ByteArray)]) ?_ 0 _ rfl; (with_reducible repeat (first | refine blk_drewN ?_ _ | refine blk_drew ?_ | refine blk_alloc ?_ _)); refine blk_far ?_ NB459_458.out _; (with_reducible repeat (first | refine blk_drewN ?_ _ | refine blk_drew ?_ | refine blk_alloc ?_ _)); refine blk_far ?_ NB459_458.out _; (with_reducible repeat (first | refine blk_drewN ?_ _ | refine blk_drew ?_ | refine blk_alloc ?_ _)); refine blk_far ?_ NB459_458.out _; (with_reducible repeat (first | refine blk_drewN ?_ _ | refine blk_drew ?_ | refine blk_alloc ?_ _)); exact BK459.out) hb); have n4_ := aK (KeepBut.trans (by repeat (first | (with_reducible first | exact HK.out | apply KeepBut.set_ | apply keep_drewN | apply keep_drew | apply keep_alloc | refine keep_far ?_ GW458.out _ | refine keep_far ?_ GW459.out _) | exact HK.out)) (KeepBut.of_below hb g none) (.inl rfl)); have n5_ := aK (below_step (by repeat (first | (with_reducible first | exact HB.out | apply below_alloc | apply pw_below_drewN | apply below_drew1 | refine below_set ?_ (IsS75.ge HI0.out) | refine below_set ?_ GE458.out | refine below_set ?_ GE459.out) | exact HB.out)) hb); clear HO_3 HI0 BK458 BK459 HK HB; have HO_3 := n0_; have HI0 := n1_; have BK458 := n2_; have BK459 := n3_; have HK := n4_; have HB := n5_; clear n0_ n1_ n2_ n3_ n4_ n5_; (try clear hb)))
   (try simp only [Act.put, List.setIfInBounds_toArray, List.set_cons_zero, List.set_cons_succ])
   go_cut [] (fun wc => ∃ (kq : Nat) (x459000_7 : Int) (x459001_7 : Int) (x459002_7 : ByteArray) (x460000_7 : Int) (x460001_7 : Int) (x460002_7 : ByteArray), Aside0 (cc_Interval.j1 kq x3_1 x4_1 s0_0 t457 x459000_7 x459001_7 x459002_7 x460000_7 x460001_7 x460002_7 = some (r1, r2)) ∧ Aside0 (kq ≤ k1) ∧ Aside0 (Kd.R k65 65 wc w.heap.size (fun _ => True) u3 x3_1) ∧ Aside0 (wc.heap[gb458]? = some (.cells #[.int .i64 x459000_7, .int .i64 x459001_7, .string x459002_7] 24 (0, 0))) ∧ Aside0 (wc.heap[gb459]? = some (.cells #[.int .i64 x460000_7, .int .i64 x460001_7, .string x460002_7] 24 (0, 0))) ∧ Aside0 (IsS75 w0 wc g s0_0 t457) ∧ Aside0 (KeepBut w wc g none) ∧ Aside0 (Below w0.heap.size w0 wc))
   case first =>
    have H := HC8.out
    clear HC8
    by_cases c19 : t460 > 0
    rotate_left
    ·rw [if_neg c19] at H
     have c19b0 : decide (0 < t460) = false := decide_eq_false c19
     clear c19
     (first | rw [c19b0] | (simp only [i64_w, i32_w]; rw [c19b0]) | skip)
     have H' := Aside0.mk H
     clear H
     go_wp2
     go_meet
     case rel => exact ⟨_, (t450), (t451), (t452), (t454), (t455), (t456), H', ⟨by have := HK1.out; first | omega | exact Nat.le_refl _⟩, ⟨rX HO_3.out⟩, ⟨by (with_reducible repeat (first | refine blk_drewN ?_ _ | refine blk_drew ?_ | refine blk_alloc ?_ _)); exact BK458.out⟩, ⟨by (with_reducible repeat (first | refine blk_drewN ?_ _ | refine blk_drew ?_ | refine blk_alloc ?_ _)); exact BK459.out⟩, ⟨by repeat (first | (with_reducible first | exact HI0.out | apply IsS75.alloc | apply IsS75.drewN | apply IsS75.drew | apply IsS75.set_1 | refine IsS75.far ?_ NB0_458.out _ | refine IsS75.far ?_ NB0_459.out _) | exact HI0.out)⟩, ⟨by repeat (first | (with_reducible first | exact HK.out | apply KeepBut.set_ | apply keep_drewN | apply keep_drew | apply keep_alloc | refine keep_far ?_ GW458.out _ | refine keep_far ?_ GW459.out _) | exact HK.out)⟩, ⟨by repeat (first | (with_reducible first | exact HB.out | apply below_alloc | apply pw_below_drewN | apply below_drew1 | refine below_set ?_ (IsS75.ge HI0.out) | refine below_set ?_ GE458.out | refine below_set ?_ GE459.out) | exact HB.out)⟩⟩
    rw [if_pos c19] at H
    have c19b0 : decide (0 < t460) = true := decide_eq_true c19
    clear c19
    (first | rw [c19b0] | (simp only [i64_w, i32_w]; rw [c19b0]) | skip)
    have H' := Aside0.mk H
    clear H
    have hnb20 := NB459_458.out
    have hnc20 := NB458_459.out
    have hnb21 := NB459_0.out
    have hnc21 := NB0_459.out
    obtain ⟨hcz22_0, hcz22_1, hcz22_2⟩ := z3 BK459.out (.int .i64 t454) (.int .i64 t455) (.string t456)
    obtain ⟨hfz22_0, hfz22_1, hfz22_2⟩ := f3 BK459.out
    have hnb23 := NB458_0.out
    have hnc23 := NB0_458.out
    obtain ⟨hcz24_0, hcz24_1, hcz24_2⟩ := z3 BK458.out (.int .i64 t450) (.int .i64 t451) (.string t452)
    obtain ⟨hfz24_0, hfz24_1, hfz24_2⟩ := f3 BK458.out
    go_wp2
    go_meet
    case rel => exact ⟨_, (t454), (t455), (t456), (t450), (t451), (t452), H', ⟨by have := HK1.out; first | omega | exact Nat.le_refl _⟩, ⟨by (with_reducible repeat (first | apply Kd.R_alloc | apply Kd.R_drewN | apply Kd.R_drew)); exact Kd.R_mono (Kd.R_far (p := ⟨gb459, 2, none⟩) (Kd.R_far (p := ⟨gb459, 1, none⟩) (Kd.R_far (p := ⟨gb459, 0, none⟩) (Kd.R_far (p := ⟨gb458, 2, none⟩) (Kd.R_far (p := ⟨gb458, 1, none⟩) (Kd.R_far (p := ⟨gb458, 0, none⟩) (Kd.R_types (Kd.R_types HO_3.out BK458.out (by decide)) BK459.out (by decide)) (fun _ hk => hk.1.2) (.int .i64 t454)) (fun _ hk => hk.1.2) (.int .i64 t455)) (fun _ hk => hk.1.2) (.string t456)) (fun _ hk => hk.2) (.int .i64 t450)) (fun _ hk => hk.2) (.int .i64 t451)) (fun _ hk => hk.2) (.string t452)) (fun _ hk => trivial)⟩, ⟨by (with_reducible repeat (first | refine blk_drewN ?_ _ | refine blk_drew ?_ | refine blk_alloc ?_ _)); refine blk_far ?_ NB458_459.out _; (with_reducible repeat (first | refine blk_drewN ?_ _ | refine blk_drew ?_ | refine blk_alloc ?_ _)); refine blk_far ?_ NB458_459.out _; (with_reducible repeat (first | refine blk_drewN ?_ _ | refine blk_drew ?_ | refine blk_alloc ?_ _)); refine blk_far ?_ NB458_459.out _; (with_reducible repeat (first | refine blk_drewN ?_ _ | refine blk_drew ?_ | refine blk_alloc ?_ _)); refine blk_put (cs := #[.int .i64 t454, .int .i64 t455, .string t452]) ?_ 2 _ rfl; (with_reducible repeat (first | refine blk_drewN ?_ _ | refine blk_drew ?_ | refine blk_alloc ?_ _)); refine blk_put (cs := #[.int .i64 t454, .int .i64 t451, .string t452]) ?_ 1 _ rfl; (with_reducible repeat (first | refine blk_drewN ?_ _ | refine blk_drew ?_ | refine blk_alloc ?_ _)); refine blk_put (cs := #[.int .i64 t450, .int .i64 t451, .string t452]) ?_ 0 _ rfl; (with_reducible repeat (first | refine blk_drewN ?_ _ | refine blk_drew ?_ | refine blk_alloc ?_ _)); exact BK458.out⟩, ⟨by (with_reducible repeat (first | refine blk_drewN ?_ _ | refine blk_drew ?_ | refine blk_alloc ?_ _)); refine blk_put (cs := #[.int .i64 t450, .int .i64 t451, .string t456]) ?_ 2 _ rfl; (with_reducible repeat (first | refine blk_drewN ?_ _ | refine blk_drew ?_ | refine blk_alloc ?_ _)); refine blk_put (cs := #[.int .i64 t450, .int .i64 t455, .string t456]) ?_ 1 _ rfl; (with_reducible repeat (first | refine blk_drewN ?_ _ | refine blk_drew ?_ | refine blk_alloc ?_ _)); refine blk_put (cs := #[.int .i64 t454, .int .i64 t455, .string t456]) ?_ 0 _ rfl; (with_reducible repeat (first | refine blk_drewN ?_ _ | refine blk_drew ?_ | refine blk_alloc ?_ _)); refine blk_far ?_ NB459_458.out _; (with_reducible repeat (first | refine blk_drewN ?_ _ | refine blk_drew ?_ | refine blk_alloc ?_ _)); refine blk_far ?_ NB459_458.out _; (with_reducible repeat (first | refine blk_drewN ?_ _ | refine blk_drew ?_ | refine blk_alloc ?_ _)); refine blk_far ?_ NB459_458.out _; (with_reducible repeat (first | refine blk_drewN ?_ _ | refine blk_drew ?_ | refine blk_alloc ?_ _)); exact BK459.out⟩, ⟨by repeat (first | (with_reducible first | exact HI0.out | apply IsS75.alloc | apply IsS75.drewN | apply IsS75.drew | apply IsS75.set_1 | refine IsS75.far ?_ NB0_458.out _ | refine IsS75.far ?_ NB0_459.out _) | exact HI0.out)⟩, ⟨by repeat (first | (with_reducible first | exact HK.out | apply KeepBut.set_ | apply keep_drewN | apply keep_drew | apply keep_alloc | refine keep_far ?_ GW458.out _ | refine keep_far ?_ GW459.out _) | exact HK.out)⟩, ⟨by repeat (first | (with_reducible first | exact HB.out | apply below_alloc | apply pw_below_drewN | apply below_drew1 | refine below_set ?_ (IsS75.ge HI0.out) | refine below_set ?_ GE458.out | refine below_set ?_ GE459.out) | exact HB.out)⟩⟩
   case rest =>
    clear HC8
    try clear c1
    try clear c2
    try clear p2
    try clear c4
    try clear c4b0
    try clear p6
    try clear c7
    try clear c13
    try clear c14
    try clear c16
    try clear c19
    try clear c19b0
    try clear c20
    try clear c21
    try clear c23
    try clear hcz15_0
    try clear hcz15_1
    try clear hcz15_2
    try clear hcz17_0
    try clear hcz17_1
    try clear hcz17_2
    try clear hcz22_0
    try clear hcz22_1
    try clear hcz22_2
    try clear hcz24_0
    try clear hcz24_1
    try clear hcz24_2
    try clear hfz15_0
    try clear hfz15_1
    try clear hfz15_2
    try clear hfz17_0
    try clear hfz17_1
    try clear hfz17_2
    try clear hfz22_0
    try clear hfz22_1
    try clear hfz22_2
    try clear hfz24_0
    try clear hfz24_1
    try clear hfz24_2
    try clear p2
    obtain ⟨kq, x459000_7, x459001_7, x459002_7, x460000_7, x460001_7, x460002_7, HA, HJ7, HO_3, BK458, BK459, HI0, HK, HB⟩ := hcut
    cases kq with
    | zero => exact absurd HA.out (by simp [cc_Interval.j1])
    | succ kj7 =>
     have H := HA.out
     clear HA
     simp only [cc_Interval.j1] at H
     obtain ⟨⟨t461, t462⟩, A25, H⟩ := oB H
     try dsimp only at H
     by_cases c26 : t461 = 0
     rotate_left
     ·rw [if_neg c26] at H
      have c26b0 : (t461 == 0) = false := beq_eq_false_iff_ne.mpr c26
      have c26b1 : (t461 != 0) = true := bne_iff_ne.mpr c26
      by_cases c37 : t461 = 1
      rotate_left
      ·rw [if_neg c37] at H
       have c37b0 : (t461 == 1) = false := beq_eq_false_iff_ne.mpr c37
       have c37b1 : (t461 != 1) = true := bne_iff_ne.mpr c37
       obtain ⟨⟨t477, t480⟩, A48, H⟩ := oB H
       try dsimp only at H
       obtain ⟨t481, A49, H⟩ := oB H
       try dsimp only at H
       have H' := Aside0.mk H
       clear H
       go_wp2_with (first | ((with_reducible refine gate_callee (f := 73) rfl ?_); refine gL (some 26) rfl Try.func73 #[.pointer (some ⟨g, 0, none⟩), .int .i64 5] rfl ?_; (with_reducible refine (cc_Int.calls g s0_0 t457 5 t461 t462 w0 _ ?side1 ?side2 A25.out).mono ?_); (case side1 => repeat (first | (with_reducible first | exact HI0.out | apply IsS75.alloc | apply IsS75.drewN | apply IsS75.drew | apply IsS75.set_1 | refine IsS75.far ?_ NB0_458.out _ | refine IsS75.far ?_ NB0_459.out _) | exact HI0.out)); (case side2 => repeat (first | (with_reducible first | exact HB.out | apply below_alloc | apply pw_below_drewN | apply below_drew1 | refine below_set ?_ (IsS75.ge HI0.out) | refine below_set ?_ GE458.out | refine below_set ?_ GE459.out) | exact HB.out)); rintro e w50 ⟨rfl, hi, hb, hk⟩; refine ⟨_, rfl, ?_⟩; have n0_ := aK (Kd.R_mono (Kd.R_keep (IsS75.apart (show IsS75 w0 _ g s0_0 t457 from by repeat (first | (with_reducible first | exact HI0.out | apply IsS75.alloc | apply IsS75.drewN | apply IsS75.drew | apply IsS75.set_1 | refine IsS75.far ?_ NB0_458.out _ | refine IsS75.far ?_ NB0_459.out _) | exact HI0.out)) (rX HO_3.out) (by decide)) hk (fun _ h => h.2)) (fun _ h => h.1)); have n1_ := aK (KeepBut.blk hk (g' := gb458) (o := .cells #[.int .i64 x459000_7, .int .i64 x459001_7, .string x459002_7] 24 (0, 0)) (bX BK458.out) NB458_0.out (by simp)); have n2_ := aK (KeepBut.blk hk (g' := gb459) (o := .cells #[.int .i64 x460000_7, .int .i64 x460001_7, .string x460002_7] 24 (0, 0)) (bX BK459.out) NB459_0.out (by simp)); have n3_ := aK (KeepBut.trans (by repeat (first | (with_reducible first | exact HK.out | apply KeepBut.set_ | apply keep_drewN | apply keep_drew | apply keep_alloc | refine keep_far ?_ GW458.out _ | refine keep_far ?_ GW459.out _) | exact HK.out)) hk (.inl rfl)); have n4_ := aK (hb); have n5_ := aK (hi); clear HO_3 BK458 BK459 HK HB HI0; have HO_3 := n0_; have BK458 := n1_; have BK459 := n2_; have HK := n3_; have HB := n4_; have HI0 := n5_; clear n0_ n1_ n2_ n3_ n4_ n5_; (try clear hb hk hi); have hnb51 := NB458_459.out; have hnc51 := NB459_458.out; have hnb52 := NB458_0.out; have hnc52 := NB0_458.out; obtain ⟨hcz53_0, hcz53_1, hcz53_2⟩ := z3 BK458.out (.int .i64 x459000_7) (.int .i64 x459001_7) (.string x459002_7); obtain ⟨hfz53_0, hfz53_1, hfz53_2⟩ := f3 BK458.out; have hnb54 := NB459_0.out; have hnc54 := NB0_459.out; obtain ⟨hcz55_0, hcz55_1, hcz55_2⟩ := z3 BK459.out (.int .i64 x460000_7) (.int .i64 x460001_7) (.string x460002_7); obtain ⟨hfz55_0, hfz55_1, hfz55_2⟩ := f3 BK459.out) | ((with_reducible refine gate_callee (f := 39) rfl ?_); refine gL (some 30) rfl Try.func39 #[.agg #[.int .i64 x459000_7, .int .i64 x459001_7, .string x459002_7], .agg #[.int .i64 x460000_7, .int .i64 x460001_7, .string x460002_7]] rfl ?_; (with_reducible refine (r3_Between.calls kj7 x459000_7 x459001_7 x459002_7 x460000_7 x460001_7 x460002_7 t477 t480 _ A48.out).mono ?_); rintro e w56 ⟨v478, rfl, ho0, hb⟩; refine ⟨_, rfl, ?_⟩; have n0_ := aK (Kd.R_elder' (rX HO_3.out) (Kd.R_base ho0) hb); have n1_ := aK (Kd.R_lower (Kd.R_new' ho0 (Kd.R_lt (rX HO_3.out))) (keep_size (w := w) (g := g) (row := none) (by repeat (first | (with_reducible first | exact HK.out | apply KeepBut.set_ | apply keep_drewN | apply keep_drew | apply keep_alloc | refine keep_far ?_ GW458.out _ | refine keep_far ?_ GW459.out _) | exact HK.out)))); have n2_ := aK (blk_below (bX BK458.out) hb); have n3_ := aK (blk_below (bX BK459.out) hb); have n4_ := aK (IsS75.below (by repeat (first | (with_reducible first | exact HI0.out | apply IsS75.alloc | apply IsS75.drewN | apply IsS75.drew | apply IsS75.set_1 | refine IsS75.far ?_ NB0_458.out _ | refine IsS75.far ?_ NB0_459.out _) | exact HI0.out)) hb); have n5_ := aK (KeepBut.trans (by repeat (first | (with_reducible first | exact HK.out | apply KeepBut.set_ | apply keep_drewN | apply keep_drew | apply keep_alloc | refine keep_far ?_ GW458.out _ | refine keep_far ?_ GW459.out _) | exact HK.out)) (KeepBut.of_below hb g none) (.inl rfl)); have n6_ := aK (below_step (by repeat (first | (with_reducible first | exact HB.out | apply below_alloc | apply pw_below_drewN | apply below_drew1 | refine below_set ?_ (IsS75.ge HI0.out) | refine below_set ?_ GE458.out | refine below_set ?_ GE459.out) | exact HB.out)) hb); clear HO_3 BK458 BK459 HI0 HK HB; have HO_3 := n0_; have HO479 := n1_; have BK458 := n2_; have BK459 := n3_; have HI0 := n4_; have HK := n5_; have HB := n6_; clear n0_ n1_ n2_ n3_ n4_ n5_ n6_; (try clear hb ho0); obtain ⟨Ao57, co57, eo57⟩ := Kd.R_slice HO_3.out; subst eo57; obtain ⟨Ao58, co58, eo58⟩ := Kd.R_slice HO479.out; subst eo58) | ((with_reducible refine gate_callee (f := 75) rfl ?_); refine gL (some 49) rfl Try.func75 #[.int .i64 1, .slice Ao57 x3_1.length co57, .slice Ao58 t477.length co58] rfl ?_; (with_reducible refine (r3_Combine.calls kj7 1 (fun k_ => some k_ = (.slice Ao57 x3_1.length co57 : Value).ownBlock) _ _ x3_1 (fun k_ => some k_ = (.slice Ao58 t477.length co58 : Value).ownBlock) _ _ t477 t481 _ ?side1 ?side2 A49.out).mono ?_); (case side1 => exact Kd.R_V (Kd.R_tight rfl (IsS75.apart HI0.out (Kd.R_types (Kd.R_types (HO_3.out) BK458.out (by decide)) BK459.out (by decide)) (by decide)))); (case side2 => exact Kd.R_V (Kd.R_tight rfl (IsS75.apart HI0.out (Kd.R_types (Kd.R_types (HO479.out) BK458.out (by decide)) BK459.out (by decide)) (by decide)))); rintro e w59 ⟨v482, rfl, ho0, hb⟩; refine ⟨_, rfl, ?_⟩; have n0_ := aK (Kd.R_elder' (rX HO_3.out) (Kd.R_base ho0) hb); have n1_ := aK (Kd.R_elder' (rX HO479.out) (Kd.R_base ho0) hb); have n2_ := aK (Kd.R_lower (Kd.R_new' (Kd.R_new' (Kd.R_mono (ok' := fun k_ => True) ho0 (fun _ hk_ => trivial)) (Kd.R_lt (rX HO_3.out))) (Kd.R_lt (rX HO479.out))) (keep_size (w := w) (g := g) (row := none) (by repeat (first | (with_reducible first | exact HK.out | apply KeepBut.set_ | apply keep_drewN | apply keep_drew | apply keep_alloc | refine keep_far ?_ GW458.out _ | refine keep_far ?_ GW459.out _) | exact HK.out)))); have n3_ := aK (blk_below (bX BK458.out) hb); have n4_ := aK (blk_below (bX BK459.out) hb); have n5_ := aK (IsS75.below (by repeat (first | (with_reducible first | exact HI0.out | apply IsS75.alloc | apply IsS75.drewN | apply IsS75.drew | apply IsS75.set_1 | refine IsS75.far ?_ NB0_458.out _ | refine IsS75.far ?_ NB0_459.out _) | exact HI0.out)) hb); have n6_ := aK (KeepBut.trans (by repeat (first | (with_reducible first | exact HK.out | apply KeepBut.set_ | apply keep_drewN | apply keep_drew | apply keep_alloc | refine keep_far ?_ GW458.out _ | refine keep_far ?_ GW459.out _) | exact HK.out)) (KeepBut.of_below hb g none) (.inl rfl)); have n7_ := aK (below_step (by repeat (first | (with_reducible first | exact HB.out | apply below_alloc | apply pw_below_drewN | apply below_drew1 | refine below_set ?_ (IsS75.ge HI0.out) | refine below_set ?_ GE458.out | refine below_set ?_ GE459.out) | exact HB.out)) hb); clear HO_3 HO479 BK458 BK459 HI0 HK HB; have HO_3 := n0_; have HO479 := n1_; have HO483 := n2_; have BK458 := n3_; have BK459 := n4_; have HI0 := n5_; have HK := n6_; have HB := n7_; clear n0_ n1_ n2_ n3_ n4_ n5_ n6_ n7_; (try clear hb ho0)))
       go_roundg kj7
       case measure => have := HK1.out; have := HJ7.out; omega
       case rel => exact ⟨(t481), (wrap64 (x4_1 - 1)), (t462), (by first | rfl | (simp; done) | (simp [*]; done)), H', ⟨by have := HK1.out; have := HJ7.out; omega⟩, ⟨by (with_reducible repeat (first | apply Kd.R_alloc | apply Kd.R_drewN | apply Kd.R_drew)); exact Kd.R_mono HO483.out (fun _ hk => trivial)⟩, ⟨by repeat (first | (with_reducible first | exact HI0.out | apply IsS75.alloc | apply IsS75.drewN | apply IsS75.drew | apply IsS75.set_1 | refine IsS75.far ?_ NB0_458.out _ | refine IsS75.far ?_ NB0_459.out _) | exact HI0.out)⟩, ⟨by repeat (first | (with_reducible first | exact HK.out | apply KeepBut.set_ | apply keep_drewN | apply keep_drew | apply keep_alloc | refine keep_far ?_ GW458.out _ | refine keep_far ?_ GW459.out _) | exact HK.out)⟩, ⟨by repeat (first | (with_reducible first | exact HB.out | apply below_alloc | apply pw_below_drewN | apply below_drew1 | refine below_set ?_ (IsS75.ge HI0.out) | refine below_set ?_ GE458.out | refine below_set ?_ GE459.out) | exact HB.out)⟩⟩
      rw [if_pos c37] at H
      have c37b0 : (t461 == 1) = true := beq_iff_eq.mpr c37
      have c37b1 : (t461 != 1) = false := bne_eq_false_iff_eq.mpr c37
      clear c37
      obtain ⟨⟨t470, t473⟩, A38, H⟩ := oB H
      try dsimp only at H
      obtain ⟨t474, A39, H⟩ := oB H
      try dsimp only at H
      have H' := Aside0.mk H
      clear H
      go_wp2_with (first | ((with_reducible refine gate_callee (f := 73) rfl ?_); refine gL (some 26) rfl Try.func73 #[.pointer (some ⟨g, 0, none⟩), .int .i64 5] rfl ?_; (with_reducible refine (cc_Int.calls g s0_0 t457 5 t461 t462 w0 _ ?side1 ?side2 A25.out).mono ?_); (case side1 => repeat (first | (with_reducible first | exact HI0.out | apply IsS75.alloc | apply IsS75.drewN | apply IsS75.drew | apply IsS75.set_1 | refine IsS75.far ?_ NB0_458.out _ | refine IsS75.far ?_ NB0_459.out _) | exact HI0.out)); (case side2 => repeat (first | (with_reducible first | exact HB.out | apply below_alloc | apply pw_below_drewN | apply below_drew1 | refine below_set ?_ (IsS75.ge HI0.out) | refine below_set ?_ GE458.out | refine below_set ?_ GE459.out) | exact HB.out)); rintro e w40 ⟨rfl, hi, hb, hk⟩; refine ⟨_, rfl, ?_⟩; have n0_ := aK (Kd.R_mono (Kd.R_keep (IsS75.apart (show IsS75 w0 _ g s0_0 t457 from by repeat (first | (with_reducible first | exact HI0.out | apply IsS75.alloc | apply IsS75.drewN | apply IsS75.drew | apply IsS75.set_1 | refine IsS75.far ?_ NB0_458.out _ | refine IsS75.far ?_ NB0_459.out _) | exact HI0.out)) (rX HO_3.out) (by decide)) hk (fun _ h => h.2)) (fun _ h => h.1)); have n1_ := aK (KeepBut.blk hk (g' := gb458) (o := .cells #[.int .i64 x459000_7, .int .i64 x459001_7, .string x459002_7] 24 (0, 0)) (bX BK458.out) NB458_0.out (by simp)); have n2_ := aK (KeepBut.blk hk (g' := gb459) (o := .cells #[.int .i64 x460000_7, .int .i64 x460001_7, .string x460002_7] 24 (0, 0)) (bX BK459.out) NB459_0.out (by simp)); have n3_ := aK (KeepBut.trans (by repeat (first | (with_reducible first | exact HK.out | apply KeepBut.set_ | apply keep_drewN | apply keep_drew | apply keep_alloc | refine keep_far ?_ GW458.out _ | refine keep_far ?_ GW459.out _) | exact HK.out)) hk (.inl rfl)); have n4_ := aK (hb); have n5_ := aK (hi); clear HO_3 BK458 BK459 HK HB HI0; have HO_3 := n0_; have BK458 := n1_; have BK459 := n2_; have HK := n3_; have HB := n4_; have HI0 := n5_; clear n0_ n1_ n2_ n3_ n4_ n5_; (try clear hb hk hi); have hnb41 := NB458_459.out; have hnc41 := NB459_458.out; have hnb42 := NB458_0.out; have hnc42 := NB0_458.out; obtain ⟨hcz43_0, hcz43_1, hcz43_2⟩ := z3 BK458.out (.int .i64 x459000_7) (.int .i64 x459001_7) (.string x459002_7); obtain ⟨hfz43_0, hfz43_1, hfz43_2⟩ := f3 BK458.out) | ((with_reducible refine gate_callee (f := 42) rfl ?_); refine gL (some 44) rfl Try.func42 #[.agg #[.int .i64 x459000_7, .int .i64 x459001_7, .string x459002_7]] rfl ?_; (with_reducible refine (r3_One.calls kj7 x459000_7 x459001_7 x459002_7 t470 t473 _ A38.out).mono ?_); rintro e w44 ⟨v471, rfl, ho0, hb⟩; refine ⟨_, rfl, ?_⟩; have n0_ := aK (Kd.R_elder' (rX HO_3.out) (Kd.R_base ho0) hb); have n1_ := aK (Kd.R_lower (Kd.R_new' ho0 (Kd.R_lt (rX HO_3.out))) (keep_size (w := w) (g := g) (row := none) (by repeat (first | (with_reducible first | exact HK.out | apply KeepBut.set_ | apply keep_drewN | apply keep_drew | apply keep_alloc | refine keep_far ?_ GW458.out _ | refine keep_far ?_ GW459.out _) | exact HK.out)))); have n2_ := aK (blk_below (bX BK458.out) hb); have n3_ := aK (blk_below (bX BK459.out) hb); have n4_ := aK (IsS75.below (by repeat (first | (with_reducible first | exact HI0.out | apply IsS75.alloc | apply IsS75.drewN | apply IsS75.drew | apply IsS75.set_1 | refine IsS75.far ?_ NB0_458.out _ | refine IsS75.far ?_ NB0_459.out _) | exact HI0.out)) hb); have n5_ := aK (KeepBut.trans (by repeat (first | (with_reducible first | exact HK.out | apply KeepBut.set_ | apply keep_drewN | apply keep_drew | apply keep_alloc | refine keep_far ?_ GW458.out _ | refine keep_far ?_ GW459.out _) | exact HK.out)) (KeepBut.of_below hb g none) (.inl rfl)); have n6_ := aK (below_step (by repeat (first | (with_reducible first | exact HB.out | apply below_alloc | apply pw_below_drewN | apply below_drew1 | refine below_set ?_ (IsS75.ge HI0.out) | refine below_set ?_ GE458.out | refine below_set ?_ GE459.out) | exact HB.out)) hb); clear HO_3 BK458 BK459 HI0 HK HB; have HO_3 := n0_; have HO472 := n1_; have BK458 := n2_; have BK459 := n3_; have HI0 := n4_; have HK := n5_; have HB := n6_; clear n0_ n1_ n2_ n3_ n4_ n5_ n6_; (try clear hb ho0); obtain ⟨Ao45, co45, eo45⟩ := Kd.R_slice HO_3.out; subst eo45; obtain ⟨Ao46, co46, eo46⟩ := Kd.R_slice HO472.out; subst eo46) | ((with_reducible refine gate_callee (f := 75) rfl ?_); refine gL (some 49) rfl Try.func75 #[.int .i64 1, .slice Ao45 x3_1.length co45, .slice Ao46 t470.length co46] rfl ?_; (with_reducible refine (r3_Combine.calls kj7 1 (fun k_ => some k_ = (.slice Ao45 x3_1.length co45 : Value).ownBlock) _ _ x3_1 (fun k_ => some k_ = (.slice Ao46 t470.length co46 : Value).ownBlock) _ _ t470 t474 _ ?side1 ?side2 A39.out).mono ?_); (case side1 => exact Kd.R_V (Kd.R_tight rfl (IsS75.apart HI0.out (Kd.R_types (Kd.R_types (HO_3.out) BK458.out (by decide)) BK459.out (by decide)) (by decide)))); (case side2 => exact Kd.R_V (Kd.R_tight rfl (IsS75.apart HI0.out (Kd.R_types (Kd.R_types (HO472.out) BK458.out (by decide)) BK459.out (by decide)) (by decide)))); rintro e w47 ⟨v475, rfl, ho0, hb⟩; refine ⟨_, rfl, ?_⟩; have n0_ := aK (Kd.R_elder' (rX HO_3.out) (Kd.R_base ho0) hb); have n1_ := aK (Kd.R_elder' (rX HO472.out) (Kd.R_base ho0) hb); have n2_ := aK (Kd.R_lower (Kd.R_new' (Kd.R_new' (Kd.R_mono (ok' := fun k_ => True) ho0 (fun _ hk_ => trivial)) (Kd.R_lt (rX HO_3.out))) (Kd.R_lt (rX HO472.out))) (keep_size (w := w) (g := g) (row := none) (by repeat (first | (with_reducible first | exact HK.out | apply KeepBut.set_ | apply keep_drewN | apply keep_drew | apply keep_alloc | refine keep_far ?_ GW458.out _ | refine keep_far ?_ GW459.out _) | exact HK.out)))); have n3_ := aK (blk_below (bX BK458.out) hb); have n4_ := aK (blk_below (bX BK459.out) hb); have n5_ := aK (IsS75.below (by repeat (first | (with_reducible first | exact HI0.out | apply IsS75.alloc | apply IsS75.drewN | apply IsS75.drew | apply IsS75.set_1 | refine IsS75.far ?_ NB0_458.out _ | refine IsS75.far ?_ NB0_459.out _) | exact HI0.out)) hb); have n6_ := aK (KeepBut.trans (by repeat (first | (with_reducible first | exact HK.out | apply KeepBut.set_ | apply keep_drewN | apply keep_drew | apply keep_alloc | refine keep_far ?_ GW458.out _ | refine keep_far ?_ GW459.out _) | exact HK.out)) (KeepBut.of_below hb g none) (.inl rfl)); have n7_ := aK (below_step (by repeat (first | (with_reducible first | exact HB.out | apply below_alloc | apply pw_below_drewN | apply below_drew1 | refine below_set ?_ (IsS75.ge HI0.out) | refine below_set ?_ GE458.out | refine below_set ?_ GE459.out) | exact HB.out)) hb); clear HO_3 HO472 BK458 BK459 HI0 HK HB; have HO_3 := n0_; have HO472 := n1_; have HO476 := n2_; have BK458 := n3_; have BK459 := n4_; have HI0 := n5_; have HK := n6_; have HB := n7_; clear n0_ n1_ n2_ n3_ n4_ n5_ n6_ n7_; (try clear hb ho0)))
      go_roundg kj7
      case measure => have := HK1.out; have := HJ7.out; omega
      case rel => exact ⟨(t474), (wrap64 (x4_1 - 1)), (t462), (by first | rfl | (simp; done) | (simp [*]; done)), H', ⟨by have := HK1.out; have := HJ7.out; omega⟩, ⟨by (with_reducible repeat (first | apply Kd.R_alloc | apply Kd.R_drewN | apply Kd.R_drew)); exact Kd.R_mono HO476.out (fun _ hk => trivial)⟩, ⟨by repeat (first | (with_reducible first | exact HI0.out | apply IsS75.alloc | apply IsS75.drewN | apply IsS75.drew | apply IsS75.set_1 | refine IsS75.far ?_ NB0_458.out _ | refine IsS75.far ?_ NB0_459.out _) | exact HI0.out)⟩, ⟨by repeat (first | (with_reducible first | exact HK.out | apply KeepBut.set_ | apply keep_drewN | apply keep_drew | apply keep_alloc | refine keep_far ?_ GW458.out _ | refine keep_far ?_ GW459.out _) | exact HK.out)⟩, ⟨by repeat (first | (with_reducible first | exact HB.out | apply below_alloc | apply pw_below_drewN | apply below_drew1 | refine below_set ?_ (IsS75.ge HI0.out) | refine below_set ?_ GE458.out | refine below_set ?_ GE459.out) | exact HB.out)⟩⟩
     rw [if_pos c26] at H
     have c26b0 : (t461 == 0) = true := beq_iff_eq.mpr c26
     have c26b1 : (t461 != 0) = false := bne_eq_false_iff_eq.mpr c26
     clear c26
     obtain ⟨⟨t463, t466⟩, A27, H⟩ := oB H
     try dsimp only at H
     obtain ⟨t467, A28, H⟩ := oB H
     try dsimp only at H
     have H' := Aside0.mk H
     clear H
     go_wp2_with (first | ((with_reducible refine gate_callee (f := 73) rfl ?_); refine gL (some 26) rfl Try.func73 #[.pointer (some ⟨g, 0, none⟩), .int .i64 5] rfl ?_; (with_reducible refine (cc_Int.calls g s0_0 t457 5 t461 t462 w0 _ ?side1 ?side2 A25.out).mono ?_); (case side1 => repeat (first | (with_reducible first | exact HI0.out | apply IsS75.alloc | apply IsS75.drewN | apply IsS75.drew | apply IsS75.set_1 | refine IsS75.far ?_ NB0_458.out _ | refine IsS75.far ?_ NB0_459.out _) | exact HI0.out)); (case side2 => repeat (first | (with_reducible first | exact HB.out | apply below_alloc | apply pw_below_drewN | apply below_drew1 | refine below_set ?_ (IsS75.ge HI0.out) | refine below_set ?_ GE458.out | refine below_set ?_ GE459.out) | exact HB.out)); rintro e w29 ⟨rfl, hi, hb, hk⟩; refine ⟨_, rfl, ?_⟩; have n0_ := aK (Kd.R_mono (Kd.R_keep (IsS75.apart (show IsS75 w0 _ g s0_0 t457 from by repeat (first | (with_reducible first | exact HI0.out | apply IsS75.alloc | apply IsS75.drewN | apply IsS75.drew | apply IsS75.set_1 | refine IsS75.far ?_ NB0_458.out _ | refine IsS75.far ?_ NB0_459.out _) | exact HI0.out)) (rX HO_3.out) (by decide)) hk (fun _ h => h.2)) (fun _ h => h.1)); have n1_ := aK (KeepBut.blk hk (g' := gb458) (o := .cells #[.int .i64 x459000_7, .int .i64 x459001_7, .string x459002_7] 24 (0, 0)) (bX BK458.out) NB458_0.out (by simp)); have n2_ := aK (KeepBut.blk hk (g' := gb459) (o := .cells #[.int .i64 x460000_7, .int .i64 x460001_7, .string x460002_7] 24 (0, 0)) (bX BK459.out) NB459_0.out (by simp)); have n3_ := aK (KeepBut.trans (by repeat (first | (with_reducible first | exact HK.out | apply KeepBut.set_ | apply keep_drewN | apply keep_drew | apply keep_alloc | refine keep_far ?_ GW458.out _ | refine keep_far ?_ GW459.out _) | exact HK.out)) hk (.inl rfl)); have n4_ := aK (hb); have n5_ := aK (hi); clear HO_3 BK458 BK459 HK HB HI0; have HO_3 := n0_; have BK458 := n1_; have BK459 := n2_; have HK := n3_; have HB := n4_; have HI0 := n5_; clear n0_ n1_ n2_ n3_ n4_ n5_; (try clear hb hk hi); have hnb30 := NB458_459.out; have hnc30 := NB459_458.out; have hnb31 := NB458_0.out; have hnc31 := NB0_458.out; obtain ⟨hcz32_0, hcz32_1, hcz32_2⟩ := z3 BK458.out (.int .i64 x459000_7) (.int .i64 x459001_7) (.string x459002_7); obtain ⟨hfz32_0, hfz32_1, hfz32_2⟩ := f3 BK458.out) | ((with_reducible refine gate_callee (f := 44) rfl ?_); refine gL (some 37) rfl Try.func44 #[.agg #[.int .i64 x459000_7, .int .i64 x459001_7, .string x459002_7]] rfl ?_; (with_reducible refine (r3_From.calls kj7 x459000_7 x459001_7 x459002_7 t463 t466 _ A27.out).mono ?_); rintro e w33 ⟨v464, rfl, ho0, hb⟩; refine ⟨_, rfl, ?_⟩; have n0_ := aK (Kd.R_elder' (rX HO_3.out) (Kd.R_base ho0) hb); have n1_ := aK (Kd.R_lower (Kd.R_new' ho0 (Kd.R_lt (rX HO_3.out))) (keep_size (w := w) (g := g) (row := none) (by repeat (first | (with_reducible first | exact HK.out | apply KeepBut.set_ | apply keep_drewN | apply keep_drew | apply keep_alloc | refine keep_far ?_ GW458.out _ | refine keep_far ?_ GW459.out _) | exact HK.out)))); have n2_ := aK (blk_below (bX BK458.out) hb); have n3_ := aK (blk_below (bX BK459.out) hb); have n4_ := aK (IsS75.below (by repeat (first | (with_reducible first | exact HI0.out | apply IsS75.alloc | apply IsS75.drewN | apply IsS75.drew | apply IsS75.set_1 | refine IsS75.far ?_ NB0_458.out _ | refine IsS75.far ?_ NB0_459.out _) | exact HI0.out)) hb); have n5_ := aK (KeepBut.trans (by repeat (first | (with_reducible first | exact HK.out | apply KeepBut.set_ | apply keep_drewN | apply keep_drew | apply keep_alloc | refine keep_far ?_ GW458.out _ | refine keep_far ?_ GW459.out _) | exact HK.out)) (KeepBut.of_below hb g none) (.inl rfl)); have n6_ := aK (below_step (by repeat (first | (with_reducible first | exact HB.out | apply below_alloc | apply pw_below_drewN | apply below_drew1 | refine below_set ?_ (IsS75.ge HI0.out) | refine below_set ?_ GE458.out | refine below_set ?_ GE459.out) | exact HB.out)) hb); clear HO_3 BK458 BK459 HI0 HK HB; have HO_3 := n0_; have HO465 := n1_; have BK458 := n2_; have BK459 := n3_; have HI0 := n4_; have HK := n5_; have HB := n6_; clear n0_ n1_ n2_ n3_ n4_ n5_ n6_; (try clear hb ho0); obtain ⟨Ao34, co34, eo34⟩ := Kd.R_slice HO_3.out; subst eo34; obtain ⟨Ao35, co35, eo35⟩ := Kd.R_slice HO465.out; subst eo35) | ((with_reducible refine gate_callee (f := 75) rfl ?_); refine gL (some 49) rfl Try.func75 #[.int .i64 1, .slice Ao34 x3_1.length co34, .slice Ao35 t463.length co35] rfl ?_; (with_reducible refine (r3_Combine.calls kj7 1 (fun k_ => some k_ = (.slice Ao34 x3_1.length co34 : Value).ownBlock) _ _ x3_1 (fun k_ => some k_ = (.slice Ao35 t463.length co35 : Value).ownBlock) _ _ t463 t467 _ ?side1 ?side2 A28.out).mono ?_); (case side1 => exact Kd.R_V (Kd.R_tight rfl (IsS75.apart HI0.out (Kd.R_types (Kd.R_types (HO_3.out) BK458.out (by decide)) BK459.out (by decide)) (by decide)))); (case side2 => exact Kd.R_V (Kd.R_tight rfl (IsS75.apart HI0.out (Kd.R_types (Kd.R_types (HO465.out) BK458.out (by decide)) BK459.out (by decide)) (by decide)))); rintro e w36 ⟨v468, rfl, ho0, hb⟩; refine ⟨_, rfl, ?_⟩; have n0_ := aK (Kd.R_elder' (rX HO_3.out) (Kd.R_base ho0) hb); have n1_ := aK (Kd.R_elder' (rX HO465.out) (Kd.R_base ho0) hb); have n2_ := aK (Kd.R_lower (Kd.R_new' (Kd.R_new' (Kd.R_mono (ok' := fun k_ => True) ho0 (fun _ hk_ => trivial)) (Kd.R_lt (rX HO_3.out))) (Kd.R_lt (rX HO465.out))) (keep_size (w := w) (g := g) (row := none) (by repeat (first | (with_reducible first | exact HK.out | apply KeepBut.set_ | apply keep_drewN | apply keep_drew | apply keep_alloc | refine keep_far ?_ GW458.out _ | refine keep_far ?_ GW459.out _) | exact HK.out)))); have n3_ := aK (blk_below (bX BK458.out) hb); have n4_ := aK (blk_below (bX BK459.out) hb); have n5_ := aK (IsS75.below (by repeat (first | (with_reducible first | exact HI0.out | apply IsS75.alloc | apply IsS75.drewN | apply IsS75.drew | apply IsS75.set_1 | refine IsS75.far ?_ NB0_458.out _ | refine IsS75.far ?_ NB0_459.out _) | exact HI0.out)) hb); have n6_ := aK (KeepBut.trans (by repeat (first | (with_reducible first | exact HK.out | apply KeepBut.set_ | apply keep_drewN | apply keep_drew | apply keep_alloc | refine keep_far ?_ GW458.out _ | refine keep_far ?_ GW459.out _) | exact HK.out)) (KeepBut.of_below hb g none) (.inl rfl)); have n7_ := aK (below_step (by repeat (first | (with_reducible first | exact HB.out | apply below_alloc | apply pw_below_drewN | apply below_drew1 | refine below_set ?_ (IsS75.ge HI0.out) | refine below_set ?_ GE458.out | refine below_set ?_ GE459.out) | exact HB.out)) hb); clear HO_3 HO465 BK458 BK459 HI0 HK HB; have HO_3 := n0_; have HO465 := n1_; have HO469 := n2_; have BK458 := n3_; have BK459 := n4_; have HI0 := n5_; have HK := n6_; have HB := n7_; clear n0_ n1_ n2_ n3_ n4_ n5_ n6_ n7_; (try clear hb ho0)))
     go_roundg kj7
     case measure => have := HK1.out; have := HJ7.out; omega
     case rel => exact ⟨(t467), (wrap64 (x4_1 - 1)), (t462), (by first | rfl | (simp; done) | (simp [*]; done)), H', ⟨by have := HK1.out; have := HJ7.out; omega⟩, ⟨by (with_reducible repeat (first | apply Kd.R_alloc | apply Kd.R_drewN | apply Kd.R_drew)); exact Kd.R_mono HO469.out (fun _ hk => trivial)⟩, ⟨by repeat (first | (with_reducible first | exact HI0.out | apply IsS75.alloc | apply IsS75.drewN | apply IsS75.drew | apply IsS75.set_1 | refine IsS75.far ?_ NB0_458.out _ | refine IsS75.far ?_ NB0_459.out _) | exact HI0.out)⟩, ⟨by repeat (first | (with_reducible first | exact HK.out | apply KeepBut.set_ | apply keep_drewN | apply keep_drew | apply keep_alloc | refine keep_far ?_ GW458.out _ | refine keep_far ?_ GW459.out _) | exact HK.out)⟩, ⟨by repeat (first | (with_reducible first | exact HB.out | apply below_alloc | apply pw_below_drewN | apply below_drew1 | refine below_set ?_ (IsS75.ge HI0.out) | refine below_set ?_ GE458.out | refine below_set ?_ GE459.out) | exact HB.out)⟩⟩
def i_Intersect.f (k : Nat) (l0 : List (S65)) (l1 : List (S65)) : Option ((List (S65)) × Int) := (i_combine.f k l0 l1 kAnd).bind fun bt550 => (some (bt550.1, bt550.2))
set_option maxHeartbeats 8000000 in
set_option maxRecDepth 100000 in
theorem i_Intersect.calls (k : Nat) (A0 : Option Addr) (c0 : Nat) (l0 : List (S65)) (A1 : Option Addr) (c1 : Nat) (l1 : List (S65)) (r1 : List (S65)) (r2 : Int) (w : World) (hr0 : Kd.C k65 w A0 l0.length l0) (hc0 : l0.length ≤ c0) (hr1 : Kd.C k65 w A1 l1.length l1) (hc1 : l1.length ≤ c1) (h : i_Intersect.f k l0 l1 = some (r1, r2)) :
  Calls Try.prog 31 #[.slice A0 l0.length c0, .slice A1 l1.length c1] w fun e w' => ∃ v0_ : Value, e = .returned (.tuple #[v0_, .int .i64 r2]) ∧ Kd.R k65 65 w' w.heap.size (fun _ => True) v0_ r1 ∧ Below w.heap.size w w' := by
 have HR0 := Aside0.mk hr0
 have HC0 := Aside0.mk hc0
 clear hr0 hc0
 have HR1 := Aside0.mk hr1
 have HC1 := Aside0.mk hc1
 clear hr1 hc1
 have HB := aK (Below.refl w.heap.size w)
 have H : ((i_combine.f k l0 l1 kAnd).bind fun bt550 => (some (bt550.1, bt550.2))) = some (r1, r2) := h
 clear h
 obtain ⟨⟨t550, t551⟩, A3, H⟩ := oB H
 try dsimp only at H
 simp only [Option.some.injEq, Prod.mk.injEq] at H
 obtain ⟨rfl, rfl⟩ := H
 go_enter Try.func31, Try.ntmps31
 go_wp2_with (first | ((with_reducible refine gate_callee (f := 77) rfl ?_); refine gL (some 8) rfl Try.func77 #[.slice A0 l0.length c0, .slice A1 l1.length c1, .func (.func 79) #[] #[]] rfl ?_; (with_reducible refine (i_combine.calls k _ _ l0 _ _ l1 kAnd 79 keep79 t550 t551 _ ?side1 ?side2 ?side3 ?side4 A3.out).mono ?_); (case side1 => exact cX HR0.out); (case side2 => exact HC0.out); (case side3 => exact cX HR1.out); (case side4 => exact HC1.out); rintro e w4 ⟨v552, rfl, ho0, hb⟩; refine ⟨_, rfl, ?_⟩; have n0_ := aK (Kd.R_lower ho0 (below_size bO)); have n1_ := aK (below_step bO hb); clear HB; have HO553 := n0_; have HB := n1_; clear n0_ n1_; (try clear hb ho0)))
 go_ret2
 exact ⟨_, eW, by (with_reducible repeat (first | apply Kd.R_alloc | apply Kd.R_drewN | apply Kd.R_drew)); exact HO553.out, bO⟩
def i_Minus.f (k : Nat) (l0 : List (S65)) (l1 : List (S65)) : Option ((List (S65)) × Int) := (i_combine.f k l0 l1 kMinus).bind fun bt554 => (some (bt554.1, bt554.2))
set_option maxHeartbeats 8000000 in
set_option maxRecDepth 100000 in
theorem i_Minus.calls (k : Nat) (A0 : Option Addr) (c0 : Nat) (l0 : List (S65)) (A1 : Option Addr) (c1 : Nat) (l1 : List (S65)) (r1 : List (S65)) (r2 : Int) (w : World) (hr0 : Kd.C k65 w A0 l0.length l0) (hc0 : l0.length ≤ c0) (hr1 : Kd.C k65 w A1 l1.length l1) (hc1 : l1.length ≤ c1) (h : i_Minus.f k l0 l1 = some (r1, r2)) :
  Calls Try.prog 32 #[.slice A0 l0.length c0, .slice A1 l1.length c1] w fun e w' => ∃ v0_ : Value, e = .returned (.tuple #[v0_, .int .i64 r2]) ∧ Kd.R k65 65 w' w.heap.size (fun _ => True) v0_ r1 ∧ Below w.heap.size w w' := by
 have HR0 := Aside0.mk hr0
 have HC0 := Aside0.mk hc0
 clear hr0 hc0
 have HR1 := Aside0.mk hr1
 have HC1 := Aside0.mk hc1
 clear hr1 hc1
 have HB := aK (Below.refl w.heap.size w)
 have H : ((i_combine.f k l0 l1 kMinus).bind fun bt554 => (some (bt554.1, bt554.2))) = some (r1, r2) := h
 clear h
 obtain ⟨⟨t554, t555⟩, A3, H⟩ := oB H
 try dsimp only at H
 simp only [Option.some.injEq, Prod.mk.injEq] at H
 obtain ⟨rfl, rfl⟩ := H
 go_enter Try.func32, Try.ntmps32
 go_wp2_with (first | ((with_reducible refine gate_callee (f := 77) rfl ?_); refine gL (some 8) rfl Try.func77 #[.slice A0 l0.length c0, .slice A1 l1.length c1, .func (.func 80) #[] #[]] rfl ?_; (with_reducible refine (i_combine.calls k _ _ l0 _ _ l1 kMinus 80 keep80 t554 t555 _ ?side1 ?side2 ?side3 ?side4 A3.out).mono ?_); (case side1 => exact cX HR0.out); (case side2 => exact HC0.out); (case side3 => exact cX HR1.out); (case side4 => exact HC1.out); rintro e w4 ⟨v556, rfl, ho0, hb⟩; refine ⟨_, rfl, ?_⟩; have n0_ := aK (Kd.R_lower ho0 (below_size bO)); have n1_ := aK (below_step bO hb); clear HB; have HO557 := n0_; have HB := n1_; clear n0_ n1_; (try clear hb ho0)))
 go_ret2
 exact ⟨_, eW, by (with_reducible repeat (first | apply Kd.R_alloc | apply Kd.R_drewN | apply Kd.R_drew)); exact HO557.out, bO⟩
def i_Complement.f (k : Nat) (l0 : List (S65)) : Option ((List (S65)) × Int) := (i_combine.f k l0 ([] : List (S65)) kNot).bind fun bt558 => (some (bt558.1, bt558.2))
set_option maxHeartbeats 8000000 in
set_option maxRecDepth 100000 in
theorem i_Complement.calls (k : Nat) (A0 : Option Addr) (c0 : Nat) (l0 : List (S65)) (r1 : List (S65)) (r2 : Int) (w : World) (hr0 : Kd.C k65 w A0 l0.length l0) (hc0 : l0.length ≤ c0) (h : i_Complement.f k l0 = some (r1, r2)) :
  Calls Try.prog 33 #[.slice A0 l0.length c0] w fun e w' => ∃ v0_ : Value, e = .returned (.tuple #[v0_, .int .i64 r2]) ∧ Kd.R k65 65 w' w.heap.size (fun _ => True) v0_ r1 ∧ Below w.heap.size w w' := by
 have HR0 := Aside0.mk hr0
 have HC0 := Aside0.mk hc0
 clear hr0 hc0
 have HB := aK (Below.refl w.heap.size w)
 have H : ((i_combine.f k l0 ([] : List (S65)) kNot).bind fun bt558 => (some (bt558.1, bt558.2))) = some (r1, r2) := h
 clear h
 obtain ⟨⟨t558, t559⟩, A2, H⟩ := oB H
 try dsimp only at H
 simp only [Option.some.injEq, Prod.mk.injEq] at H
 obtain ⟨rfl, rfl⟩ := H
 go_enter Try.func33, Try.ntmps33
 go_wp2_with (first | ((with_reducible refine gate_callee (f := 77) rfl ?_); refine gL (some 5) rfl Try.func77 #[.slice A0 l0.length c0, .slice none 0 0, .func (.func 81) #[] #[]] rfl ?_; (refine (i_combine.calls k _ _ l0 _ _ ([] : List (S65)) kNot 81 keep81 t558 t559 _ ?side1 ?side2 ?side3 ?side4 A2.out).mono ?_); (case side1 => exact cX HR0.out); (case side2 => exact HC0.out); (case side3 => exact Kd.C_nil _ _); (case side4 => exact Nat.le_refl _); rintro e w3 ⟨v560, rfl, ho0, hb⟩; refine ⟨_, rfl, ?_⟩; have n0_ := aK (Kd.R_lower ho0 (below_size bO)); have n1_ := aK (below_step bO hb); clear HB; have HO561 := n0_; have HB := n1_; clear n0_ n1_; (try clear hb ho0)))
 go_ret2
 exact ⟨_, eW, by (with_reducible repeat (first | apply Kd.R_alloc | apply Kd.R_drewN | apply Kd.R_drew)); exact HO561.out, bO⟩
def i_Covers.f (k : Nat) (l0 : List (S65)) (l1 : List (S65)) : Option (Bool × Int) := (i_Valid.f k l0).bind fun t562 => (if t562 = true then ((i_Valid.f k l1).bind fun t563 => (if t563 = true then ((i_merge.f k l0 l1 kCov).bind fun t564 => (some (((t564.length : Int) == 0), 0))) else (some (false, 30)))) else (some (false, 30)))
set_option maxHeartbeats 8000000 in
set_option maxRecDepth 100000 in
theorem i_Covers.calls (k : Nat) (A0 : Option Addr) (c0 : Nat) (l0 : List (S65)) (A1 : Option Addr) (c1 : Nat) (l1 : List (S65)) (r1 : Bool) (r2 : Int) (w : World) (hr0 : Kd.C k65 w A0 l0.length l0) (hc0 : l0.length ≤ c0) (hr1 : Kd.C k65 w A1 l1.length l1) (hc1 : l1.length ≤ c1) (h : i_Covers.f k l0 l1 = some (r1, r2)) :
  Calls Try.prog 34 #[.slice A0 l0.length c0, .slice A1 l1.length c1] w fun e w' => e = .returned (.tuple #[.bool r1, .int .i64 r2]) ∧ Below w.heap.size w w' := by
 have HR0 := Aside0.mk hr0
 have HC0 := Aside0.mk hc0
 clear hr0 hc0
 have HR1 := Aside0.mk hr1
 have HC1 := Aside0.mk hc1
 clear hr1 hc1
 have HB := aK (Below.refl w.heap.size w)
 have H : ((i_Valid.f k l0).bind fun t562 => (if t562 = true then ((i_Valid.f k l1).bind fun t563 => (if t563 = true then ((i_merge.f k l0 l1 kCov).bind fun t564 => (some (((t564.length : Int) == 0), 0))) else (some (false, 30)))) else (some (false, 30)))) = some (r1, r2) := h
 clear h
 obtain ⟨t562, A3, H⟩ := oB H
 try dsimp only at H
 by_cases c4 : t562 = true
 rotate_left
 ·replace c4 := Bool.eq_false_iff.mpr c4
  subst c4
  rw [if_neg (show ¬ (false = true) by decide)] at H
  simp only [Option.some.injEq, Prod.mk.injEq] at H
  obtain ⟨rfl, rfl⟩ := H
  go_enter Try.func34, Try.ntmps34
  go_wp2_with (first | ((with_reducible refine gate_callee (f := 37) rfl ?_); refine gL (some 7) rfl Try.func37 #[.slice A0 l0.length c0] rfl ?_; (with_reducible refine (i_Valid.calls k _ _ l0 false _ ?side1 ?side2 A3.out).mono ?_); (case side1 => exact cX HR0.out); (case side2 => exact HC0.out); rintro e w14 ⟨rfl, hb⟩; refine ⟨_, rfl, ?_⟩; have n0_ := aK (below_step bO hb); clear HB; have HB := n0_; clear n0_; (try clear hb)))
  go_ret2
  exact ⟨eW, bO⟩
 subst c4
 rw [if_pos rfl] at H
 obtain ⟨t563, A5, H⟩ := oB H
 try dsimp only at H
 by_cases c6 : t563 = true
 rotate_left
 ·replace c6 := Bool.eq_false_iff.mpr c6
  subst c6
  rw [if_neg (show ¬ (false = true) by decide)] at H
  simp only [Option.some.injEq, Prod.mk.injEq] at H
  obtain ⟨rfl, rfl⟩ := H
  go_enter Try.func34, Try.ntmps34
  go_wp2_with (first | ((with_reducible refine gate_callee (f := 37) rfl ?_); refine gL (some 7) rfl Try.func37 #[.slice A0 l0.length c0] rfl ?_; (with_reducible refine (i_Valid.calls k _ _ l0 true _ ?side1 ?side2 A3.out).mono ?_); (case side1 => exact cX HR0.out); (case side2 => exact HC0.out); rintro e w12 ⟨rfl, hb⟩; refine ⟨_, rfl, ?_⟩; have n0_ := aK (below_step bO hb); clear HB; have HB := n0_; clear n0_; (try clear hb)) | (go_at_call 37; (with_reducible refine (i_Valid.calls k _ _ l1 false _ ?side1 ?side2 A5.out).mono ?_); (case side1 => repeat (first | exact (Kd.C_below HR1.out HB.out) | (with_reducible refine Kd.C_alloc ?_ _) | (with_reducible refine Kd.C_drewN ?_ _) | (with_reducible refine Kd.C_drew ?_))); (case side2 => exact HC1.out); rintro e w13 ⟨rfl, hb⟩; have n0_ := aK (below_step bO hb); clear HB; have HB := n0_; clear n0_; (try clear hb)))
  go_ret2
  exact ⟨eW, bO⟩
 subst c6
 rw [if_pos rfl] at H
 obtain ⟨t564, A7, H⟩ := oB H
 try dsimp only at H
 simp only [Option.some.injEq, Prod.mk.injEq] at H
 obtain ⟨rfl, rfl⟩ := H
 go_enter Try.func34, Try.ntmps34
 go_wp2_with (first | ((with_reducible refine gate_callee (f := 37) rfl ?_); refine gL (some 7) rfl Try.func37 #[.slice A0 l0.length c0] rfl ?_; (with_reducible refine (i_Valid.calls k _ _ l0 true _ ?side1 ?side2 A3.out).mono ?_); (case side1 => exact cX HR0.out); (case side2 => exact HC0.out); rintro e w8 ⟨rfl, hb⟩; refine ⟨_, rfl, ?_⟩; have n0_ := aK (below_step bO hb); clear HB; have HB := n0_; clear n0_; (try clear hb)) | (go_at_call 37; (with_reducible refine (i_Valid.calls k _ _ l1 true _ ?side1 ?side2 A5.out).mono ?_); (case side1 => repeat (first | exact (Kd.C_below HR1.out HB.out) | (with_reducible refine Kd.C_alloc ?_ _) | (with_reducible refine Kd.C_drewN ?_ _) | (with_reducible refine Kd.C_drew ?_))); (case side2 => exact HC1.out); rintro e w9 ⟨rfl, hb⟩; have n0_ := aK (below_step bO hb); clear HB; have HB := n0_; clear n0_; (try clear hb)) | ((with_reducible refine gate_callee (f := 82) rfl ?_); refine gL (some 16) rfl Try.func82 #[.slice A0 l0.length c0, .slice A1 l1.length c1, .func (.func 83) #[] #[]] rfl ?_; (with_reducible refine (i_merge.calls k (fun k_ => k_ < w.heap.size) _ _ l0 (fun k_ => k_ < w.heap.size) _ _ l1 kCov 83 keep83 t564 _ ?side1 ?side2 A7.out).mono ?_); (case side1 => exact Kd.V_mk HC0.out (Kd.F_below (Kd.C_F k65_heap HR0.out) bO)); (case side2 => exact Kd.V_mk HC1.out (Kd.F_below (Kd.C_F k65_heap HR1.out) bO)); rintro e w10 ⟨v565, rfl, ho0, hb⟩; refine ⟨_, rfl, ?_⟩; have n0_ := aK (Kd.R_lower (Kd.R_mono (ok' := fun k_ => True) ho0 (fun _ hk_ => trivial)) (below_size bO)); have n1_ := aK (below_step bO hb); clear HB; have HO566 := n0_; have HB := n1_; clear n0_ n1_; (try clear hb ho0); obtain ⟨Ao11, co11, eo11⟩ := Kd.R_slice HO566.out; subst eo11))
 go_ret2
 exact ⟨eW, bO⟩
theorem eqA65 (d : Nat) (w : World) (x0 y0 : Int) (x1 y1 : Int) (x2 y2 : ByteArray) (x3 y3 : Int) (x4 y4 : Int) (x5 y5 : ByteArray) (x6 y6 : Bool) :
  (Op.equalIn (d + 3) 65 (.agg #[.int .i64 x0, .int .i64 x1, .string x2, .int .i64 x3, .int .i64 x4, .string x5, .bool x6]) (.agg #[.int .i64 y0, .int .i64 y1, .string y2, .int .i64 y3, .int .i64 y4, .string y5, .bool y6])).run Try.prog w = .ok ((x0 == y0 && (x1 == y1 && (x2.toList == y2.toList))) && ((x3 == y3 && (x4 == y4 && (x5.toList == y5.toList))) && (x6 == y6))) w := by
 refine eqA_of Try.underlying65 (by kernel_rfl) ?_
 refine eqf_cons (by rfl) (by go_simp) (by go_simp) (eqA24 (d + 0) w _ _ _ _ _ _) ?_
 refine eqf_cons (by rfl) (by go_simp) (by go_simp) (eqA24 (d + 0) w _ _ _ _ _ _) ?_
 exact eqf_last (by rfl) (by go_simp; rfl) (by go_simp; rfl) (by go_simp)
end Go.Proofs.Ytpjcdacnhalclaa.Q
namespace Go.Proofs.Ytpjcdacnhalclaa.Q
open Go.RowKit Go.Proofs.YtpjcdacnhalclaaW.PrintWords Go.Proofs.YtpjcdacnhalclaaW.PrintLast Go.Proofs.YtpjcdacnhalclaaW.PrintMore
attribute [local go_sem] max2_int min2_int max_two min_two max_three min_three max_four min_four
def v_First.j0 : Nat → Int → Int → Bool → Option (Int × Int × ByteArray × Bool)
 | 0, _, _, _ => none
 | k + 1, x0, x4, x5 => if x5 = true then (some (x0, 0, (⟨#[]⟩ : ByteArray), true)) else (if x4 = 4 then (some (x0, (-9223372036854775808), (⟨#[]⟩ : ByteArray), true)) else (some (0, 0, (⟨#[]⟩ : ByteArray), false)))
def v_First.f (k : Nat) (a0 : Int) : Option (Int × Int × ByteArray × Bool) := if a0 = 1 then (v_First.j0 k a0 a0 (a0 == 1)) else (if a0 = 2 then (v_First.j0 k a0 a0 (a0 == 2)) else (if a0 = 3 then (v_First.j0 k a0 a0 (a0 == 3)) else (v_First.j0 k a0 a0 (a0 == 5))))
theorem v_First.mono_l : ∀ k, (∀ y0 y1 y2, LeO (v_First.j0 k y0 y1 y2) (v_First.j0 (k + 1) y0 y1 y2))
 | 0 => fun _ _ _ r h => by simp [v_First.j0] at h
 | k + 1 => by
  have ih0 := v_First.mono_l k
  ·intro y0 y1 y2
   unfold v_First.j0
   repeat' first
   | (with_reducible exact ih0 _ _ _)
   | (with_reducible exact LeO.refl _)
   | (with_reducible exact LeO.none _)
   | (with_reducible refine LeO.ite ?_ ?_)
   | (with_reducible refine LeO.bind ?_ (fun _ => ?_))
   | exact ih0 _ _ _
   | exact LeO.none _
   | refine LeO.ite ?_ ?_
   | refine LeO.bind ?_ (fun _ => ?_)
theorem v_First.mono : ∀ a0 k, LeO (v_First.f k a0) (v_First.f (k + 1) a0) := by
 intro a0 k
 have ih0 := v_First.mono_l k
 unfold v_First.f
 repeat' first
   | (with_reducible exact ih0 _ _ _)
   | (with_reducible exact LeO.refl _)
   | (with_reducible exact LeO.none _)
   | (with_reducible refine LeO.ite ?_ ?_)
   | (with_reducible refine LeO.bind ?_ (fun _ => ?_))
   | exact ih0 _ _ _
   | exact LeO.none _
   | refine LeO.ite ?_ ?_
   | refine LeO.bind ?_ (fun _ => ?_)
end Go.Proofs.Ytpjcdacnhalclaa.Q
