/- A part of a proof: facts of functions that the law calls; conditions stand in each. -/
import Derived.Test.YtpjcdacnhalclaaM14x3
import Derived.Test.YtpjcdacnhalclaaM14x15
import Derived.Test.YtpjcdacnhalclaaM14x19
import Derived.Test.YtpjcdacnhalclaaM14x20
import Derived.Test.YtpjcdacnhalclaaM14x11
set_option linter.unusedVariables false
set_option linter.unusedSimpArgs false
namespace Go.Proofs.Ytpjcdacnhalclaa.Q
open Go.RowKit Go.Proofs.YtpjcdacnhalclaaW.PrintWords Go.Proofs.YtpjcdacnhalclaaW.PrintLast Go.Proofs.YtpjcdacnhalclaaW.PrintMore
attribute [local go_sem] max2_int min2_int max_two min_two max_three min_three max_four min_four
def r3_Combine.l0 : Nat → Int → List (S65) → List (S65) → List (S24) → List (S65) → List (S24) → Int → Int → Option ((List (S65)))
 | 0, _, _, _, _, _, _, _, _ => none
 | k + 1, x0, x1, x2, x7, x8, x15, x16, x17 => if x17 < x16 then (if 0 ≤ x17 then (if x17 < (x15.length : Int) then ((r3_In.f k x1 ((rd_T24 x15 x17).f0) ((rd_T24 x15 x17).f1) ((rd_T24 x15 x17).f2)).bind fun t440 => ((r3_In.f k x2 ((rd_T24 x15 x17).f0) ((rd_T24 x15 x17).f1) ((rd_T24 x15 x17).f2)).bind fun t441 => ((r3_Apply.f x0 t440 t441).bind fun t442 => (if t442 = true then ((r3_Join.f x8 x7 x17).bind fun t443 => (r3_Combine.l0 k x0 x1 x2 x7 t443 x15 x16 (wrap64 (x17 + 1)))) else (r3_Combine.l0 k x0 x1 x2 x7 x8 x15 x16 (wrap64 (x17 + 1))))))) else (none)) else (none)) else (some x8)
def r3_Combine.f (k : Nat) (a0 : Int) (l1 : List (S65)) (l2 : List (S65)) : Option ((List (S65))) := (r3_Points.f k (([l1, l2] : List (List (S65))))).bind fun t435 => (r3_Combine.l0 k a0 l1 l2 t435 ([] : List (S65)) t435 (t435.length : Int) 0)
def r3_Combine.T6 : Bool × List (List Nat × List Nat) := (true, [([], []), ([], []), ([], []), ([1, 2], [1, 2]), ([], []), ([], []), ([4, 5, 3], [4, 5]), ([0, 3, 6, 6], [0, 3, 6])])
def r3_Combine.B6 : List Nat := [0, 0, 0, 6, 0, 0, 62, 127]
theorem r3_Combine.tab6 : rtab .any (opsOf Try.f75 6) = r3_Combine.T6 := by kernel_rfl
theorem r3_Combine.bits6 : waitsOk r3_Combine.T6.2 r3_Combine.B6 = true := by kernel_rfl
set_option maxHeartbeats 8000000 in
set_option maxRecDepth 100000 in
theorem r3_Combine.calls (k : Nat) (a0 : Int) (P1_ : Nat → Prop) (A1 : Option Addr) (c1 : Nat) (l1 : List (S65)) (P2_ : Nat → Prop) (A2 : Option Addr) (c2 : Nat) (l2 : List (S65)) (r : List (S65)) (w : World) (hs1 : Kd.V k65 65 w w.heap.size (fun k_ => P1_ k_) (.slice A1 l1.length c1) l1) (hs2 : Kd.V k65 65 w w.heap.size (fun k_ => P2_ k_) (.slice A2 l2.length c2) l2) (h : r3_Combine.f k a0 l1 l2 = some r) :
  Calls Try.prog 75 #[.int .i64 a0, .slice A1 l1.length c1, .slice A2 l2.length c2] w fun e w' => ∃ v0_ : Value, e = .returned (v0_) ∧ Kd.R k65 65 w' w.heap.size (fun k_ => (w.heap.size ≤ k_)) v0_ r ∧ Below w.heap.size w w' := by
 have hu24 := Try.underlying24
 have HO1 := aK (show Kd.V k65 65 w w.heap.size (fun k_ => ((P1_ k_ ∨ P2_ k_) ∨ w.heap.size ≤ k_)) (.slice A1 l1.length c1) l1 from Kd.V_mono hs1 (fun k_ hk => .inl (.inl hk)))
 have HO2 := aK (show Kd.V k65 65 w w.heap.size (fun k_ => ((P1_ k_ ∨ P2_ k_) ∨ w.heap.size ≤ k_)) (.slice A2 l2.length c2) l2 from Kd.V_mono hs2 (fun k_ hk => .inl (.inr hk)))
 have HB := aK (Below.refl w.heap.size w)
 have H : ((r3_Points.f k (([l1, l2] : List (List (S65))))).bind fun t435 => (r3_Combine.l0 k a0 l1 l2 t435 ([] : List (S65)) t435 (t435.length : Int) 0)) = some r := h
 clear h
 obtain ⟨y432, hy432⟩ : ∃ y_ : List (List (S65)), y_ = (([l1, l2] : List (List (S65)))) := ⟨_, rfl⟩
 replace H : ((r3_Points.f k y432).bind fun t435 => (r3_Combine.l0 k a0 l1 l2 t435 ([] : List (S65)) t435 (t435.length : Int) 0)) = some r := by first | (rw [hy432]; with_reducible exact H) | (have H2_ := (Option.bind_some _ _).symm.trans H; rw [hy432]; with_reducible exact H2_) | (have H2_ := (Option.bind_some _ _).symm.trans H; with_reducible exact H2_) | with_reducible exact H | (rw [hy432]; exact H) | exact H
 have Ny432 := Aside0.mk hy432
 clear hy432
 obtain ⟨t435, A4, H⟩ := oB H
 try dsimp only at H
 have H' := Aside0.mk H
 clear H
 go_enter Try.func75, Try.ntmps75
 go_wp2_with (first | ((with_reducible refine gate_dst (N := 13) rfl ?_); refine Kd.N_lit (Kd.slice 65 k65) _ 36 ?hg (N' := 13) ?hd (xs := ([l1, l2] : List (List (S65)))) (inner := [.slice A1 l1.length c1, .slice A2 l2.length c2]) (ok := (fun k_ => ((P1_ k_ ∨ P2_ k_) ∨ w.heap.size ≤ k_))) (okp := (fun k_ => ((P1_ k_ ∨ P2_ k_) ∨ w.heap.size ≤ k_))) ?hr ?hp (fun _ hk => hk) ((show ∀ k_, w.heap.size ≤ k_ → (fun k_ => ((P1_ k_ ∨ P2_ k_) ∨ w.heap.size ≤ k_)) k_ from fun k_ hk => (.inr (Nat.le_trans (below_size bO) hk))) _ (Nat.le_refl _)) (Below.refl _ _) (Nat.le_refl _) (by simp) ?_; (case hd => rfl); (case hg => rfl); (case hr => exact hR); (case hp => exact (Reps.one (show Kd.FK (Kd.slice 65 k65) _ _ l1 [.slice A1 l1.length c1] from (Kd.FK_slice_mk (Kd.V_reads' (Kd.V_mono (ok' := (fun k_ => ((P1_ k_ ∨ P2_ k_) ∨ w.heap.size ≤ k_))) (HO1.out) (fun k_ hk => hk))).2.1 (Kd.V_F (Kd.V_mono (ok' := (fun k_ => ((P1_ k_ ∨ P2_ k_) ∨ w.heap.size ≤ k_))) (HO1.out) (fun k_ hk => hk))))) (Reps.one (show Kd.FK (Kd.slice 65 k65) _ _ l2 [.slice A2 l2.length c2] from (Kd.FK_slice_mk (Kd.V_reads' (Kd.V_mono (ok' := (fun k_ => ((P1_ k_ ∨ P2_ k_) ∨ w.heap.size ≤ k_))) (HO2.out) (fun k_ hk => hk))).2.1 (Kd.V_F (Kd.V_mono (ok' := (fun k_ => ((P1_ k_ ∨ P2_ k_) ∨ w.heap.size ≤ k_))) (HO2.out) (fun k_ hk => hk))))) (Reps.none _ _)))); intro v433 w5 ho6 hb hg_ hnew_; clear hg_ hnew_; (first | rw [← Ny432.out] at ho6 | (simp only [Int.reduceToNat] at ho6; rw [← Ny432.out] at ho6)); have n0_ := aK (Kd.V_elder' (vX HO1.out) (Kd.N_base ho6) hb); have n1_ := aK (Kd.V_elder' (vX HO2.out) (Kd.N_base ho6) hb); have n2_ := aK (Kd.N_lower ho6 (below_size bO)); have n3_ := aK (below_step bO hb); clear HO1 HO2 HB; have HO1 := n0_; have HO2 := n1_; have HO434 := n2_; have HB := n3_; clear n0_ n1_ n2_ n3_ hb ho6; obtain ⟨Ao7, co7, eo7⟩ := Kd.N_slice HO434.out; subst eo7) | ((with_reducible refine gate_callee (f := 96) rfl ?_); refine gL (some 14) rfl Try.func96 #[.slice Ao7 y432.length co7] rfl ?_; (with_reducible refine (r3_Points.calls k _ _ y432 t435 _ ?side1 ?side2 A4.out).mono ?_); (case side1 => exact cX (Kd.N_reads' HO434.out).2.2); (case side2 => exact (Kd.N_reads' HO434.out).2.1); rintro e w8 ⟨v436, rfl, ho0, hb⟩; refine ⟨_, rfl, ?_⟩; have n0_ := aK (Kd.V_elder' (vX HO1.out) (Kd.R_base ho0) hb); have n1_ := aK (Kd.V_elder' (vX HO2.out) (Kd.R_base ho0) hb); have n2_ := aK (Kd.N_elder' (by (with_reducible repeat (first | apply Kd.N_alloc | apply Kd.N_drewN | apply Kd.N_drew)); exact HO434.out) (Kd.R_base ho0) hb); have n3_ := aK (Kd.R_lower (Kd.R_newM (M := fun k_ => (w.heap.size ≤ k_)) ho0 (below_size bO) (fun k_ h_ => h_)) (below_size bO)); have n4_ := aK (below_step bO hb); clear HO1 HO2 HO434 HB; have HO1 := n0_; have HO2 := n1_; have HO434 := n2_; have HO437 := n3_; have HB := n4_; clear n0_ n1_ n2_ n3_ n4_; (try clear hb ho0); obtain ⟨Ao9, co9, eo9⟩ := Kd.R_slice HO437.out; subst eo9))
 go_loopg [8, 17] k (fun kq v8 v17 w' => ∃ (x8_1 : List (S65)) (x17_1 : Int), v17 = .int .i64 x17_1 ∧ Aside0 (r3_Combine.l0 kq a0 l1 l2 t435 x8_1 t435 (t435.length : Int) x17_1 = some r) ∧ Aside0 (kq ≤ k) ∧ Aside0 (Kd.V k65 65 w' w.heap.size (fun k_ => ((P1_ k_ ∨ P2_ k_) ∨ w.heap.size ≤ k_) ∧ some k_ ≠ ((.slice Ao9 t435.length co9) : Value).ownBlock ∧ some k_ ≠ (v8 : Value).ownBlock ∧ some k_ ≠ ((.slice Ao9 t435.length co9) : Value).ownBlock) (.slice A1 l1.length c1) l1) ∧ Aside0 (Kd.V k65 65 w' w.heap.size (fun k_ => ((P1_ k_ ∨ P2_ k_) ∨ w.heap.size ≤ k_) ∧ some k_ ≠ ((.slice Ao9 t435.length co9) : Value).ownBlock ∧ some k_ ≠ (v8 : Value).ownBlock ∧ some k_ ≠ ((.slice Ao9 t435.length co9) : Value).ownBlock) (.slice A2 l2.length c2) l2) ∧ Aside0 (Kd.R k24 24 w' w.heap.size (fun k_ => (w.heap.size ≤ k_)) (.slice Ao9 t435.length co9) t435) ∧ Aside0 (Kd.R k65 65 w' w.heap.size (fun k_ => (w.heap.size ≤ k_)) v8 x8_1) ∧ Aside0 (Kd.R k24 24 w' w.heap.size (fun k_ => (w.heap.size ≤ k_)) (.slice Ao9 t435.length co9) t435) ∧ Aside0 (Below w.heap.size w w'))
 case atStart => exact ⟨(([] : List (S65))), (0), (by first | rfl | (simp; done) | (simp [*]; done)), H', ⟨Nat.le_refl _⟩, ⟨by (with_reducible repeat (first | apply Kd.V_alloc | apply Kd.V_drewN | apply Kd.V_drew)); exact Kd.V_mono HO1.out (fun _ hk => ⟨hk.1.1, ⟨hk.2, ⟨(by simp [Value.ownBlock]), hk.2⟩⟩⟩)⟩, ⟨by (with_reducible repeat (first | apply Kd.V_alloc | apply Kd.V_drewN | apply Kd.V_drew)); exact Kd.V_mono HO2.out (fun _ hk => ⟨hk.1.1, ⟨hk.2, ⟨(by simp [Value.ownBlock]), hk.2⟩⟩⟩)⟩, ⟨by (with_reducible repeat (first | apply Kd.R_alloc | apply Kd.R_drewN | apply Kd.R_drew)); exact Kd.R_mono HO437.out (fun _ hk => hk.1)⟩, ⟨by first | exact Kd.R_nil _ _ _ _ _ | exact Kd.N_nil _ _ _ _ _ | exact Kd.V_nil _ _ _ _ _ | exact Kd.Q_nil _ _ _ _ _ | exact Kd.S_nil _ _ _ _ _⟩, ⟨by (with_reducible repeat (first | apply Kd.R_alloc | apply Kd.R_drewN | apply Kd.R_drew)); exact Kd.R_mono HO437.out (fun _ hk => hk.1)⟩, ⟨bO⟩⟩
 case round =>
  clear H'
  try clear c1
  try clear c2
  try clear p2
  try clear c7
  try clear c9
  obtain ⟨x8_1, x17_1, rfl, HA, HK1, HO_1, HO_2, HO_7, HO_8, HO_15, HB⟩ := hrel
  cases gk with
  | zero => exact absurd HA.out (by simp [r3_Combine.l0])
  | succ k1 =>
   have H := HA.out
   clear HA
   simp only [r3_Combine.l0] at H
   by_cases c10 : x17_1 < (t435.length : Int)
   rotate_left
   ·rw [if_neg c10] at H
    have c10b0 : decide (x17_1 < (t435.length : Int)) = false := decide_eq_false c10
    clear c10
    obtain rfl := Option.some.inj H
    go_wp2
    go_ret
    exact ⟨_, eW, rX HO_8.out, bO⟩
   rw [if_pos c10] at H
   have c10b0 : decide (x17_1 < (t435.length : Int)) = true := decide_eq_true c10
   clear c10
   by_cases c11 : 0 ≤ x17_1
   rotate_left
   ·rw [if_neg c11] at H
    exact absurd H (by simp)
   rw [if_pos c11] at H
   have c11b0 : decide (0 ≤ x17_1) = true := decide_eq_true c11
   clear c11
   by_cases c12 : x17_1 < (t435.length : Int)
   rotate_left
   ·rw [if_neg c12] at H
    exact absurd H (by simp)
   rw [if_pos c12] at H
   have c12b0 : decide (x17_1 < (t435.length : Int)) = true := decide_eq_true c12
   clear c12
   obtain ⟨t440, A13, H⟩ := oB H
   try dsimp only at H
   obtain ⟨t441, A14, H⟩ := oB H
   try dsimp only at H
   obtain ⟨t442, A15, H⟩ := oB H
   try dsimp only at H
   by_cases c16 : t442 = true
   rotate_left
   ·replace c16 := Bool.eq_false_iff.mpr c16
    subst c16
    rw [if_neg (show ¬ (false = true) by decide)] at H
    have H' := Aside0.mk H
    clear H
    have p438 : 0 ≤ (x17_1 : Int) := of_decide_eq_true (aA)
    have q438 : x17_1 < (t435.length : Int) := of_decide_eq_true (aA)
    obtain ⟨ad438, e438, hx438_0, hx438_1, hx438_2⟩ := at_T24 (Kd.R_reads' HO_15.out).2.2 x17_1 p438 q438
    cases e438
    replace p438 := eq_true p438
    replace q438 := eq_true q438
    try go_wp2_with (first | ((with_reducible refine gate_dst (N := 10) rfl ?_); refine box_event ?hg (N := 10) ?hd (cs := #[.int .i64 0, .int .i64 0, .string (⟨#[]⟩ : ByteArray)]) (t := 24) ?hr ?_; (case hd => rfl); (case hg => rfl); (case hr => exact hR); intro gb439 hg w26 hbox hb; have n0_ := aK (Kd.V_below (Kd.V_elderB (vX HO_1.out) gb439 (Nat.le_of_eq hg.symm)) hb); have n1_ := aK (Kd.V_below (Kd.V_elderB (vX HO_2.out) gb439 (Nat.le_of_eq hg.symm)) hb); have n2_ := aK (Kd.R_below (Kd.R_elderB (rX HO_7.out) gb439 (Nat.le_of_eq hg.symm)) hb); have n3_ := aK (Kd.R_below (rX HO_8.out) hb); have n4_ := aK (Kd.R_below (Kd.R_elderB (rX HO_15.out) gb439 (Nat.le_of_eq hg.symm)) hb); have n5_ := aK (below_step bO hb); have n6_ := aK (hbox); have n7_ := aK ((by rw [hg]; exact (below_size bO) : w.heap.size ≤ gb439)); have n8_ := aK ((by rw [hg]; exact (below_size bO) : w.heap.size ≤ gb439)); clear HO_1 HO_2 HO_7 HO_8 HO_15 HB; have HO_1 := n0_; have HO_2 := n1_; have HO_7 := n2_; have HO_8 := n3_; have HO_15 := n4_; have HB := n5_; have BK439 := n6_; have GW439 := n7_; have GE439 := n8_; clear n0_ n1_ n2_ n3_ n4_ n5_ n6_ n7_ n8_ hb hbox hg; obtain ⟨hcz27_0, hcz27_1, hcz27_2⟩ := z3 BK439.out (.int .i64 0) (.int .i64 0) (.string (⟨#[]⟩ : ByteArray)); obtain ⟨hfz27_0, hfz27_1, hfz27_2⟩ := f3 BK439.out))
    have n0_ : Aside0 (Kd.V k65 65 (((w26.setCell ⟨gb439, 0, none⟩ (.int .i64 ((rd_T24 t435 x17_1).f0))).setCell ⟨gb439, 1, none⟩ (.int .i64 ((rd_T24 t435 x17_1).f1))).setCell ⟨gb439, 2, none⟩ (.string ((rd_T24 t435 x17_1).f2))) w.heap.size (fun k_ => ((P1_ k_ ∨ P2_ k_) ∨ w.heap.size ≤ k_) ∧ some k_ ≠ (.slice (some ad438) t435.length co9 : Value).ownBlock ∧ some k_ ≠ (u8 : Value).ownBlock ∧ some k_ ≠ (.slice (some ad438) t435.length co9 : Value).ownBlock ∧ k_ ≠ gb439) (.slice A1 l1.length c1) l1) := ⟨by (with_reducible repeat (first | apply Kd.V_alloc | apply Kd.V_drewN | apply Kd.V_drew)); exact Kd.V_mono (Kd.V_far (p := ⟨gb439, 2, none⟩) (Kd.V_far (p := ⟨gb439, 1, none⟩) (Kd.V_far (p := ⟨gb439, 0, none⟩) (Kd.V_mono HO_1.out (fun k_ hk => (⟨hk, hk.2⟩ : _ ∧ k_ ≠ gb439))) (fun _ hk => hk.2) (.int .i64 ((rd_T24 t435 x17_1).f0))) (fun _ hk => hk.2) (.int .i64 ((rd_T24 t435 x17_1).f1))) (fun _ hk => hk.2) (.string ((rd_T24 t435 x17_1).f2))) (fun _ hk => ⟨hk.1.1.1, ⟨hk.1.1.2.1, ⟨hk.1.1.2.2.1, ⟨hk.1.1.2.2.2, hk.1.2⟩⟩⟩⟩)⟩
    have n1_ : Aside0 (Kd.V k65 65 (((w26.setCell ⟨gb439, 0, none⟩ (.int .i64 ((rd_T24 t435 x17_1).f0))).setCell ⟨gb439, 1, none⟩ (.int .i64 ((rd_T24 t435 x17_1).f1))).setCell ⟨gb439, 2, none⟩ (.string ((rd_T24 t435 x17_1).f2))) w.heap.size (fun k_ => ((P1_ k_ ∨ P2_ k_) ∨ w.heap.size ≤ k_) ∧ some k_ ≠ (.slice (some ad438) t435.length co9 : Value).ownBlock ∧ some k_ ≠ (u8 : Value).ownBlock ∧ some k_ ≠ (.slice (some ad438) t435.length co9 : Value).ownBlock ∧ k_ ≠ gb439) (.slice A2 l2.length c2) l2) := ⟨by (with_reducible repeat (first | apply Kd.V_alloc | apply Kd.V_drewN | apply Kd.V_drew)); exact Kd.V_mono (Kd.V_far (p := ⟨gb439, 2, none⟩) (Kd.V_far (p := ⟨gb439, 1, none⟩) (Kd.V_far (p := ⟨gb439, 0, none⟩) (Kd.V_mono HO_2.out (fun k_ hk => (⟨hk, hk.2⟩ : _ ∧ k_ ≠ gb439))) (fun _ hk => hk.2) (.int .i64 ((rd_T24 t435 x17_1).f0))) (fun _ hk => hk.2) (.int .i64 ((rd_T24 t435 x17_1).f1))) (fun _ hk => hk.2) (.string ((rd_T24 t435 x17_1).f2))) (fun _ hk => ⟨hk.1.1.1, ⟨hk.1.1.2.1, ⟨hk.1.1.2.2.1, ⟨hk.1.1.2.2.2, hk.1.2⟩⟩⟩⟩)⟩
    have n2_ : Aside0 (Kd.R k24 24 (((w26.setCell ⟨gb439, 0, none⟩ (.int .i64 ((rd_T24 t435 x17_1).f0))).setCell ⟨gb439, 1, none⟩ (.int .i64 ((rd_T24 t435 x17_1).f1))).setCell ⟨gb439, 2, none⟩ (.string ((rd_T24 t435 x17_1).f2))) w.heap.size (fun k_ => (w.heap.size ≤ k_) ∧ k_ ≠ gb439) (.slice (some ad438) t435.length co9) t435) := ⟨by (with_reducible repeat (first | apply Kd.R_alloc | apply Kd.R_drewN | apply Kd.R_drew)); exact Kd.R_mono (Kd.R_far (p := ⟨gb439, 2, none⟩) (Kd.R_far (p := ⟨gb439, 1, none⟩) (Kd.R_far (p := ⟨gb439, 0, none⟩) (Kd.R_mono HO_7.out (fun k_ hk => (⟨hk, hk.2⟩ : _ ∧ k_ ≠ gb439))) (fun _ hk => hk.2) (.int .i64 ((rd_T24 t435 x17_1).f0))) (fun _ hk => hk.2) (.int .i64 ((rd_T24 t435 x17_1).f1))) (fun _ hk => hk.2) (.string ((rd_T24 t435 x17_1).f2))) (fun _ hk => ⟨hk.1.1, hk.1.2⟩)⟩
    have n3_ : Aside0 (Kd.R k65 65 (((w26.setCell ⟨gb439, 0, none⟩ (.int .i64 ((rd_T24 t435 x17_1).f0))).setCell ⟨gb439, 1, none⟩ (.int .i64 ((rd_T24 t435 x17_1).f1))).setCell ⟨gb439, 2, none⟩ (.string ((rd_T24 t435 x17_1).f2))) w.heap.size (fun k_ => (w.heap.size ≤ k_)) u8 x8_1) := ⟨by (with_reducible repeat (first | apply Kd.R_alloc | apply Kd.R_drewN | apply Kd.R_drew)); exact Kd.R_mono (Kd.R_far (p := ⟨gb439, 2, none⟩) (Kd.R_far (p := ⟨gb439, 1, none⟩) (Kd.R_far (p := ⟨gb439, 0, none⟩) (Kd.R_types HO_8.out BK439.out (by decide)) (fun _ hk => hk.2) (.int .i64 ((rd_T24 t435 x17_1).f0))) (fun _ hk => hk.2) (.int .i64 ((rd_T24 t435 x17_1).f1))) (fun _ hk => hk.2) (.string ((rd_T24 t435 x17_1).f2))) (fun _ hk => hk.1)⟩
    have n4_ : Aside0 (Kd.R k24 24 (((w26.setCell ⟨gb439, 0, none⟩ (.int .i64 ((rd_T24 t435 x17_1).f0))).setCell ⟨gb439, 1, none⟩ (.int .i64 ((rd_T24 t435 x17_1).f1))).setCell ⟨gb439, 2, none⟩ (.string ((rd_T24 t435 x17_1).f2))) w.heap.size (fun k_ => (w.heap.size ≤ k_) ∧ k_ ≠ gb439) (.slice (some ad438) t435.length co9) t435) := ⟨by (with_reducible repeat (first | apply Kd.R_alloc | apply Kd.R_drewN | apply Kd.R_drew)); exact Kd.R_mono (Kd.R_far (p := ⟨gb439, 2, none⟩) (Kd.R_far (p := ⟨gb439, 1, none⟩) (Kd.R_far (p := ⟨gb439, 0, none⟩) (Kd.R_mono HO_15.out (fun k_ hk => (⟨hk, hk.2⟩ : _ ∧ k_ ≠ gb439))) (fun _ hk => hk.2) (.int .i64 ((rd_T24 t435 x17_1).f0))) (fun _ hk => hk.2) (.int .i64 ((rd_T24 t435 x17_1).f1))) (fun _ hk => hk.2) (.string ((rd_T24 t435 x17_1).f2))) (fun _ hk => ⟨hk.1.1, hk.1.2⟩)⟩
    have n5_ : Aside0 ((((w26.setCell ⟨gb439, 0, none⟩ (.int .i64 ((rd_T24 t435 x17_1).f0))).setCell ⟨gb439, 1, none⟩ (.int .i64 ((rd_T24 t435 x17_1).f1))).setCell ⟨gb439, 2, none⟩ (.string ((rd_T24 t435 x17_1).f2))).heap[gb439]? = some (.cells #[.int .i64 ((rd_T24 t435 x17_1).f0), .int .i64 ((rd_T24 t435 x17_1).f1), .string ((rd_T24 t435 x17_1).f2)] 24 (0, 0))) := ⟨by (with_reducible repeat (first | refine blk_drewN ?_ _ | refine blk_drew ?_ | refine blk_alloc ?_ _)); refine blk_put (cs := #[.int .i64 ((rd_T24 t435 x17_1).f0), .int .i64 ((rd_T24 t435 x17_1).f1), .string (⟨#[]⟩ : ByteArray)]) ?_ 2 _ rfl; (with_reducible repeat (first | refine blk_drewN ?_ _ | refine blk_drew ?_ | refine blk_alloc ?_ _)); refine blk_put (cs := #[.int .i64 ((rd_T24 t435 x17_1).f0), .int .i64 0, .string (⟨#[]⟩ : ByteArray)]) ?_ 1 _ rfl; (with_reducible repeat (first | refine blk_drewN ?_ _ | refine blk_drew ?_ | refine blk_alloc ?_ _)); refine blk_put (cs := #[.int .i64 0, .int .i64 0, .string (⟨#[]⟩ : ByteArray)]) ?_ 0 _ rfl; (with_reducible repeat (first | refine blk_drewN ?_ _ | refine blk_drew ?_ | refine blk_alloc ?_ _)); exact BK439.out⟩
    have n6_ : Aside0 (Below w.heap.size w (((w26.setCell ⟨gb439, 0, none⟩ (.int .i64 ((rd_T24 t435 x17_1).f0))).setCell ⟨gb439, 1, none⟩ (.int .i64 ((rd_T24 t435 x17_1).f1))).setCell ⟨gb439, 2, none⟩ (.string ((rd_T24 t435 x17_1).f2)))) := ⟨bS GE439.out⟩
    (try clear HO_1)
    (try clear HO_2)
    (try clear HO_7)
    (try clear HO_8)
    (try clear HO_15)
    (try clear BK439)
    (try clear HB)
    generalize (((w26.setCell ⟨gb439, 0, none⟩ (.int .i64 ((rd_T24 t435 x17_1).f0))).setCell ⟨gb439, 1, none⟩ (.int .i64 ((rd_T24 t435 x17_1).f1))).setCell ⟨gb439, 2, none⟩ (.string ((rd_T24 t435 x17_1).f2))) = w28 at n0_ n1_ n2_ n3_ n4_ n5_ n6_ ⊢
    have HO_1 := n0_
    have HO_2 := n1_
    have HO_7 := n2_
    have HO_8 := n3_
    have HO_15 := n4_
    have BK439 := n5_
    have HB := n6_
    clear n0_ n1_ n2_ n3_ n4_ n5_ n6_
    have n0_ := aK (Kd.V_drew HO_1.out)
    have n1_ := aK (Kd.V_drew HO_2.out)
    have n2_ := aK (Kd.R_drew HO_7.out)
    have n3_ := aK (Kd.R_drew HO_8.out)
    have n4_ := aK (Kd.R_drew HO_15.out)
    have n5_ := aK (blk_drew BK439.out)
    have n6_ := aK (below_drew1 HB.out)
    clear HO_1
    clear HO_2
    clear HO_7
    clear HO_8
    clear HO_15
    clear BK439
    clear HB
    have HO_1 := n0_
    have HO_2 := n1_
    have HO_7 := n2_
    have HO_8 := n3_
    have HO_15 := n4_
    have BK439 := n5_
    have HB := n6_
    clear n0_ n1_ n2_ n3_ n4_ n5_ n6_
    refine start_ (n := 8) (S := fun w' => w'.cell? ⟨gb439, 0, none⟩ = some (.int .i64 ((rd_T24 t435 x17_1).f0)) ∧ w'.cell? ⟨gb439, 1, none⟩ = some (.int .i64 ((rd_T24 t435 x17_1).f1)) ∧ w'.cell? ⟨gb439, 2, none⟩ = some (.string ((rd_T24 t435 x17_1).f2))) (ds := []) #[false, false, false, false, false, false, false, false] (by kernel_rfl) rfl rfl ⟨(blk_cell BK439.out 0).trans rfl, (blk_cell BK439.out 1).trans rfl, (blk_cell BK439.out 2).trans rfl⟩ (fun hHeld => ?_); refine with_tabW r3_Combine.tab6 r3_Combine.bits6 (fun HT_ HW_ => ?_)
    generalize w28.drew = w29 at HO_1 HO_2 HO_7 HO_8 HO_15 BK439 HB hHeld ⊢
    refine pY (i := 0) (N := some 22) (tf 1 7) rfl rfl HT_.out ?_
    refine pY (i := 1) (N := some 23) (tf 2 6) rfl rfl HT_.out ?_
    refine pY (i := 4) (N := some 26) #[true, true, false, false, true, false, false, false] rfl rfl HT_.out ?_
    refine take_ (i := 2) (N := some 24) (v := ?_) (a' := ?_) #[true, true, true, false, true, false, false, false] rfl rfl (take_ofW HT_.out HW_.out (by kernel_rfl)) (fun _ _ _ h => h) (Or.inl ⟨by rfl, ?_⟩) hHeld ?_ ?_
    rotate_left
    ·rintro w' ⟨s0, s1, s2⟩
     go_simp
     with_reducible rfl
    rotate_left
    ·exact aP
    refine take_ (i := 5) (N := some 27) (v := ?_) (a' := ?_) #[true, true, true, false, true, true, false, false] rfl rfl (take_ofW HT_.out HW_.out (by kernel_rfl)) (fun _ _ _ h => h) (Or.inl ⟨by rfl, ?_⟩) hHeld ?_ ?_
    rotate_left
    ·rintro w' ⟨s0, s1, s2⟩
     go_simp
     with_reducible rfl
    rotate_left
    ·exact aP
    refine one_ (i := 3) (N := some 25) (tf 6 2) rfl rfl (one_of HT_.out (by kernel_rfl)) (by decide) (fun K hK => ?_)
    refine goes_ Try.func92 (by kernel_rfl) rfl #[.slice A1 l1.length c1, .agg #[.int .i64 ((rd_T24 t435 x17_1).f0), .int .i64 ((rd_T24 t435 x17_1).f1), .string ((rd_T24 t435 x17_1).f2)]] (by rfl) rfl rfl (by (try simp only [List.map_toArray, List.map_cons, List.map_nil]); first | done | rfl | (simp only [List.length_drop, List.length_take]; rfl)) ?_
    with_reducible refine (r3_In.calls k1 _ _ l1 ((rd_T24 t435 x17_1).f0) ((rd_T24 t435 x17_1).f1) ((rd_T24 t435 x17_1).f2) t440 _ ?side1 ?side2 A13.out).mono ?_
    (case side1 => exact cX (Kd.V_reads' HO_1.out).2.2)
    (case side2 => exact (Kd.V_reads' HO_1.out).2.1)
    rintro e w30 ⟨rfl, hb⟩
    refine ⟨_, rfl, ?_⟩
    have n0_ := aK (Kd.V_below (vX HO_1.out) hb)
    have n1_ := aK (Kd.V_below (vX HO_2.out) hb)
    have n2_ := aK (Kd.R_below (rX HO_7.out) hb)
    have n3_ := aK (Kd.R_below (rX HO_8.out) hb)
    have n4_ := aK (Kd.R_below (rX HO_15.out) hb)
    have n5_ := aK (blk_below (bX BK439.out) hb)
    have n6_ := aK (below_step (bS GE439.out) hb)
    clear HO_1
    clear HO_2
    clear HO_7
    clear HO_8
    clear HO_15
    clear BK439
    clear HB
    have HO_1 := n0_
    have HO_2 := n1_
    have HO_7 := n2_
    have HO_8 := n3_
    have HO_15 := n4_
    have BK439 := n5_
    have HB := n6_
    clear n0_ n1_ n2_ n3_ n4_ n5_ n6_
    (try clear hb)
    (try clear hb2)
    (try clear hk)
    (try clear hi)
    refine hK.out _ _ ⟨(blk_cell BK439.out 0).trans rfl, (blk_cell BK439.out 1).trans rfl, (blk_cell BK439.out 2).trans rfl⟩ (fun hHeld => ?_)
    clear hK K
    refine norm_ (a' := ?_) ?_ ?_
    rotate_left
    ·show Act.put _ (some 25) _ = _
     simp only [Act.put, List.setIfInBounds_toArray, List.set_cons_zero, List.set_cons_succ, i64_w, i32_w]
     rfl
    refine one_ (i := 6) (N := some 28) (tf 7 1) rfl rfl (one_of HT_.out (by kernel_rfl)) (by decide) (fun K hK => ?_)
    refine goes_ Try.func92 (by kernel_rfl) rfl #[.slice A2 l2.length c2, .agg #[.int .i64 ((rd_T24 t435 x17_1).f0), .int .i64 ((rd_T24 t435 x17_1).f1), .string ((rd_T24 t435 x17_1).f2)]] (by rfl) rfl rfl (by (try simp only [List.map_toArray, List.map_cons, List.map_nil]); first | done | rfl | (simp only [List.length_drop, List.length_take]; rfl)) ?_
    with_reducible refine (r3_In.calls k1 _ _ l2 ((rd_T24 t435 x17_1).f0) ((rd_T24 t435 x17_1).f1) ((rd_T24 t435 x17_1).f2) t441 _ ?side1 ?side2 A14.out).mono ?_
    (case side1 => exact cX (Kd.V_reads' HO_2.out).2.2)
    (case side2 => exact (Kd.V_reads' HO_2.out).2.1)
    rintro e w31 ⟨rfl, hb⟩
    refine ⟨_, rfl, ?_⟩
    have n0_ := aK (Kd.V_below (vX HO_1.out) hb)
    have n1_ := aK (Kd.V_below (vX HO_2.out) hb)
    have n2_ := aK (Kd.R_below (rX HO_7.out) hb)
    have n3_ := aK (Kd.R_below (rX HO_8.out) hb)
    have n4_ := aK (Kd.R_below (rX HO_15.out) hb)
    have n5_ := aK (blk_below (bX BK439.out) hb)
    have n6_ := aK (below_step (bS GE439.out) hb)
    clear HO_1
    clear HO_2
    clear HO_7
    clear HO_8
    clear HO_15
    clear BK439
    clear HB
    have HO_1 := n0_
    have HO_2 := n1_
    have HO_7 := n2_
    have HO_8 := n3_
    have HO_15 := n4_
    have BK439 := n5_
    have HB := n6_
    clear n0_ n1_ n2_ n3_ n4_ n5_ n6_
    (try clear hb)
    (try clear hb2)
    (try clear hk)
    (try clear hi)
    refine hK.out _ _ ⟨(blk_cell BK439.out 0).trans rfl, (blk_cell BK439.out 1).trans rfl, (blk_cell BK439.out 2).trans rfl⟩ (fun hHeld => ?_)
    clear hK K
    refine norm_ (a' := ?_) ?_ ?_
    rotate_left
    ·show Act.put _ (some 28) _ = _
     simp only [Act.put, List.setIfInBounds_toArray, List.set_cons_zero, List.set_cons_succ, i64_w, i32_w]
     rfl
    refine one_ (i := 7) (N := some 29) (tf 8 0) rfl rfl (one_of HT_.out (by kernel_rfl)) (by decide) (fun K hK => ?_)
    refine goes_ Try.func97 (by kernel_rfl) rfl #[.int .i64 a0, .bool t440, .bool t441] (by rfl) rfl rfl (by (try simp only [List.map_toArray, List.map_cons, List.map_nil]); first | done | rfl | (simp only [List.length_drop, List.length_take]; rfl)) ?_
    with_reducible refine (r3_Apply.calls a0 t440 t441 false _ A15.out).mono ?_
    rintro e w' ⟨rfl, ⟨nd, rfl⟩⟩
    refine ⟨_, rfl, ?_⟩
    refine hK.out _ _ ⟨(blk_cell BK439.out 0).trans rfl, (blk_cell BK439.out 1).trans rfl, (blk_cell BK439.out 2).trans rfl⟩ (fun hHeld => ?_)
    clear hK K
    refine norm_ (a' := ?_) ?_ ?_
    rotate_left
    ·show Act.put _ (some 29) _ = _
     simp only [Act.put, List.setIfInBounds_toArray, List.set_cons_zero, List.set_cons_succ, i64_w, i32_w]
     rfl
    refine done_ (done_of HT_.out (by kernel_rfl)) ?_
    try go_wp2
    go_roundg k1
    case measure => have := HK1.out; omega
    case rel => exact ⟨(x8_1), (wrap64 (x17_1 + 1)), (by first | rfl | (simp; done) | (simp [*]; done)), H', ⟨by have := HK1.out; omega⟩, ⟨by (with_reducible repeat (first | apply Kd.V_alloc | apply Kd.V_drewN | apply Kd.V_drew)); exact Kd.V_mono HO_1.out (fun _ hk => ⟨hk.1, ⟨hk.2.1, ⟨hk.2.2.1, hk.2.2.2.1⟩⟩⟩)⟩, ⟨by (with_reducible repeat (first | apply Kd.V_alloc | apply Kd.V_drewN | apply Kd.V_drew)); exact Kd.V_mono HO_2.out (fun _ hk => ⟨hk.1, ⟨hk.2.1, ⟨hk.2.2.1, hk.2.2.2.1⟩⟩⟩)⟩, ⟨by (with_reducible repeat (first | apply Kd.R_alloc | apply Kd.R_drewN | apply Kd.R_drew)); exact Kd.R_mono HO_7.out (fun _ hk => hk.1)⟩, ⟨rX HO_8.out⟩, ⟨by (with_reducible repeat (first | apply Kd.R_alloc | apply Kd.R_drewN | apply Kd.R_drew)); exact Kd.R_mono HO_15.out (fun _ hk => hk.1)⟩, ⟨bS GE439.out⟩⟩
   subst c16
   rw [if_pos rfl] at H
   obtain ⟨t443, A17, H⟩ := oB H
   try dsimp only at H
   have H' := Aside0.mk H
   clear H
   have p438 : 0 ≤ (x17_1 : Int) := of_decide_eq_true (aA)
   have q438 : x17_1 < (t435.length : Int) := of_decide_eq_true (aA)
   obtain ⟨ad438, e438, hx438_0, hx438_1, hx438_2⟩ := at_T24 (Kd.R_reads' HO_15.out).2.2 x17_1 p438 q438
   cases e438
   replace p438 := eq_true p438
   replace q438 := eq_true q438
   try go_wp2_with (first | ((with_reducible refine gate_dst (N := 10) rfl ?_); refine box_event ?hg (N := 10) ?hd (cs := #[.int .i64 0, .int .i64 0, .string (⟨#[]⟩ : ByteArray)]) (t := 24) ?hr ?_; (case hd => rfl); (case hg => rfl); (case hr => exact hR); intro gb439 hg w18 hbox hb; have n0_ := aK (Kd.V_below (Kd.V_elderB (vX HO_1.out) gb439 (Nat.le_of_eq hg.symm)) hb); have n1_ := aK (Kd.V_below (Kd.V_elderB (vX HO_2.out) gb439 (Nat.le_of_eq hg.symm)) hb); have n2_ := aK (Kd.R_below (Kd.R_elderB (rX HO_7.out) gb439 (Nat.le_of_eq hg.symm)) hb); have n3_ := aK (Kd.R_below (rX HO_8.out) hb); have n4_ := aK (Kd.R_below (Kd.R_elderB (rX HO_15.out) gb439 (Nat.le_of_eq hg.symm)) hb); have n5_ := aK (below_step bO hb); have n6_ := aK (hbox); have n7_ := aK ((by rw [hg]; exact (below_size bO) : w.heap.size ≤ gb439)); have n8_ := aK ((by rw [hg]; exact (below_size bO) : w.heap.size ≤ gb439)); clear HO_1 HO_2 HO_7 HO_8 HO_15 HB; have HO_1 := n0_; have HO_2 := n1_; have HO_7 := n2_; have HO_8 := n3_; have HO_15 := n4_; have HB := n5_; have BK439 := n6_; have GW439 := n7_; have GE439 := n8_; clear n0_ n1_ n2_ n3_ n4_ n5_ n6_ n7_ n8_ hb hbox hg; obtain ⟨hcz19_0, hcz19_1, hcz19_2⟩ := z3 BK439.out (.int .i64 0) (.int .i64 0) (.string (⟨#[]⟩ : ByteArray)); obtain ⟨hfz19_0, hfz19_1, hfz19_2⟩ := f3 BK439.out))
   have n0_ : Aside0 (Kd.V k65 65 (((w18.setCell ⟨gb439, 0, none⟩ (.int .i64 ((rd_T24 t435 x17_1).f0))).setCell ⟨gb439, 1, none⟩ (.int .i64 ((rd_T24 t435 x17_1).f1))).setCell ⟨gb439, 2, none⟩ (.string ((rd_T24 t435 x17_1).f2))) w.heap.size (fun k_ => ((P1_ k_ ∨ P2_ k_) ∨ w.heap.size ≤ k_) ∧ some k_ ≠ (.slice (some ad438) t435.length co9 : Value).ownBlock ∧ some k_ ≠ (u8 : Value).ownBlock ∧ some k_ ≠ (.slice (some ad438) t435.length co9 : Value).ownBlock ∧ k_ ≠ gb439) (.slice A1 l1.length c1) l1) := ⟨by (with_reducible repeat (first | apply Kd.V_alloc | apply Kd.V_drewN | apply Kd.V_drew)); exact Kd.V_mono (Kd.V_far (p := ⟨gb439, 2, none⟩) (Kd.V_far (p := ⟨gb439, 1, none⟩) (Kd.V_far (p := ⟨gb439, 0, none⟩) (Kd.V_mono HO_1.out (fun k_ hk => (⟨hk, hk.2⟩ : _ ∧ k_ ≠ gb439))) (fun _ hk => hk.2) (.int .i64 ((rd_T24 t435 x17_1).f0))) (fun _ hk => hk.2) (.int .i64 ((rd_T24 t435 x17_1).f1))) (fun _ hk => hk.2) (.string ((rd_T24 t435 x17_1).f2))) (fun _ hk => ⟨hk.1.1.1, ⟨hk.1.1.2.1, ⟨hk.1.1.2.2.1, ⟨hk.1.1.2.2.2, hk.1.2⟩⟩⟩⟩)⟩
   have n1_ : Aside0 (Kd.V k65 65 (((w18.setCell ⟨gb439, 0, none⟩ (.int .i64 ((rd_T24 t435 x17_1).f0))).setCell ⟨gb439, 1, none⟩ (.int .i64 ((rd_T24 t435 x17_1).f1))).setCell ⟨gb439, 2, none⟩ (.string ((rd_T24 t435 x17_1).f2))) w.heap.size (fun k_ => ((P1_ k_ ∨ P2_ k_) ∨ w.heap.size ≤ k_) ∧ some k_ ≠ (.slice (some ad438) t435.length co9 : Value).ownBlock ∧ some k_ ≠ (u8 : Value).ownBlock ∧ some k_ ≠ (.slice (some ad438) t435.length co9 : Value).ownBlock ∧ k_ ≠ gb439) (.slice A2 l2.length c2) l2) := ⟨by (with_reducible repeat (first | apply Kd.V_alloc | apply Kd.V_drewN | apply Kd.V_drew)); exact Kd.V_mono (Kd.V_far (p := ⟨gb439, 2, none⟩) (Kd.V_far (p := ⟨gb439, 1, none⟩) (Kd.V_far (p := ⟨gb439, 0, none⟩) (Kd.V_mono HO_2.out (fun k_ hk => (⟨hk, hk.2⟩ : _ ∧ k_ ≠ gb439))) (fun _ hk => hk.2) (.int .i64 ((rd_T24 t435 x17_1).f0))) (fun _ hk => hk.2) (.int .i64 ((rd_T24 t435 x17_1).f1))) (fun _ hk => hk.2) (.string ((rd_T24 t435 x17_1).f2))) (fun _ hk => ⟨hk.1.1.1, ⟨hk.1.1.2.1, ⟨hk.1.1.2.2.1, ⟨hk.1.1.2.2.2, hk.1.2⟩⟩⟩⟩)⟩
   have n2_ : Aside0 (Kd.R k24 24 (((w18.setCell ⟨gb439, 0, none⟩ (.int .i64 ((rd_T24 t435 x17_1).f0))).setCell ⟨gb439, 1, none⟩ (.int .i64 ((rd_T24 t435 x17_1).f1))).setCell ⟨gb439, 2, none⟩ (.string ((rd_T24 t435 x17_1).f2))) w.heap.size (fun k_ => (w.heap.size ≤ k_) ∧ k_ ≠ gb439) (.slice (some ad438) t435.length co9) t435) := ⟨by (with_reducible repeat (first | apply Kd.R_alloc | apply Kd.R_drewN | apply Kd.R_drew)); exact Kd.R_mono (Kd.R_far (p := ⟨gb439, 2, none⟩) (Kd.R_far (p := ⟨gb439, 1, none⟩) (Kd.R_far (p := ⟨gb439, 0, none⟩) (Kd.R_mono HO_7.out (fun k_ hk => (⟨hk, hk.2⟩ : _ ∧ k_ ≠ gb439))) (fun _ hk => hk.2) (.int .i64 ((rd_T24 t435 x17_1).f0))) (fun _ hk => hk.2) (.int .i64 ((rd_T24 t435 x17_1).f1))) (fun _ hk => hk.2) (.string ((rd_T24 t435 x17_1).f2))) (fun _ hk => ⟨hk.1.1, hk.1.2⟩)⟩
   have n3_ : Aside0 (Kd.R k65 65 (((w18.setCell ⟨gb439, 0, none⟩ (.int .i64 ((rd_T24 t435 x17_1).f0))).setCell ⟨gb439, 1, none⟩ (.int .i64 ((rd_T24 t435 x17_1).f1))).setCell ⟨gb439, 2, none⟩ (.string ((rd_T24 t435 x17_1).f2))) w.heap.size (fun k_ => (w.heap.size ≤ k_)) u8 x8_1) := ⟨by (with_reducible repeat (first | apply Kd.R_alloc | apply Kd.R_drewN | apply Kd.R_drew)); exact Kd.R_mono (Kd.R_far (p := ⟨gb439, 2, none⟩) (Kd.R_far (p := ⟨gb439, 1, none⟩) (Kd.R_far (p := ⟨gb439, 0, none⟩) (Kd.R_types HO_8.out BK439.out (by decide)) (fun _ hk => hk.2) (.int .i64 ((rd_T24 t435 x17_1).f0))) (fun _ hk => hk.2) (.int .i64 ((rd_T24 t435 x17_1).f1))) (fun _ hk => hk.2) (.string ((rd_T24 t435 x17_1).f2))) (fun _ hk => hk.1)⟩
   have n4_ : Aside0 (Kd.R k24 24 (((w18.setCell ⟨gb439, 0, none⟩ (.int .i64 ((rd_T24 t435 x17_1).f0))).setCell ⟨gb439, 1, none⟩ (.int .i64 ((rd_T24 t435 x17_1).f1))).setCell ⟨gb439, 2, none⟩ (.string ((rd_T24 t435 x17_1).f2))) w.heap.size (fun k_ => (w.heap.size ≤ k_) ∧ k_ ≠ gb439) (.slice (some ad438) t435.length co9) t435) := ⟨by (with_reducible repeat (first | apply Kd.R_alloc | apply Kd.R_drewN | apply Kd.R_drew)); exact Kd.R_mono (Kd.R_far (p := ⟨gb439, 2, none⟩) (Kd.R_far (p := ⟨gb439, 1, none⟩) (Kd.R_far (p := ⟨gb439, 0, none⟩) (Kd.R_mono HO_15.out (fun k_ hk => (⟨hk, hk.2⟩ : _ ∧ k_ ≠ gb439))) (fun _ hk => hk.2) (.int .i64 ((rd_T24 t435 x17_1).f0))) (fun _ hk => hk.2) (.int .i64 ((rd_T24 t435 x17_1).f1))) (fun _ hk => hk.2) (.string ((rd_T24 t435 x17_1).f2))) (fun _ hk => ⟨hk.1.1, hk.1.2⟩)⟩
   have n5_ : Aside0 ((((w18.setCell ⟨gb439, 0, none⟩ (.int .i64 ((rd_T24 t435 x17_1).f0))).setCell ⟨gb439, 1, none⟩ (.int .i64 ((rd_T24 t435 x17_1).f1))).setCell ⟨gb439, 2, none⟩ (.string ((rd_T24 t435 x17_1).f2))).heap[gb439]? = some (.cells #[.int .i64 ((rd_T24 t435 x17_1).f0), .int .i64 ((rd_T24 t435 x17_1).f1), .string ((rd_T24 t435 x17_1).f2)] 24 (0, 0))) := ⟨by (with_reducible repeat (first | refine blk_drewN ?_ _ | refine blk_drew ?_ | refine blk_alloc ?_ _)); refine blk_put (cs := #[.int .i64 ((rd_T24 t435 x17_1).f0), .int .i64 ((rd_T24 t435 x17_1).f1), .string (⟨#[]⟩ : ByteArray)]) ?_ 2 _ rfl; (with_reducible repeat (first | refine blk_drewN ?_ _ | refine blk_drew ?_ | refine blk_alloc ?_ _)); refine blk_put (cs := #[.int .i64 ((rd_T24 t435 x17_1).f0), .int .i64 0, .string (⟨#[]⟩ : ByteArray)]) ?_ 1 _ rfl; (with_reducible repeat (first | refine blk_drewN ?_ _ | refine blk_drew ?_ | refine blk_alloc ?_ _)); refine blk_put (cs := #[.int .i64 0, .int .i64 0, .string (⟨#[]⟩ : ByteArray)]) ?_ 0 _ rfl; (with_reducible repeat (first | refine blk_drewN ?_ _ | refine blk_drew ?_ | refine blk_alloc ?_ _)); exact BK439.out⟩
   have n6_ : Aside0 (Below w.heap.size w (((w18.setCell ⟨gb439, 0, none⟩ (.int .i64 ((rd_T24 t435 x17_1).f0))).setCell ⟨gb439, 1, none⟩ (.int .i64 ((rd_T24 t435 x17_1).f1))).setCell ⟨gb439, 2, none⟩ (.string ((rd_T24 t435 x17_1).f2)))) := ⟨bS GE439.out⟩
   (try clear HO_1)
   (try clear HO_2)
   (try clear HO_7)
   (try clear HO_8)
   (try clear HO_15)
   (try clear BK439)
   (try clear HB)
   generalize (((w18.setCell ⟨gb439, 0, none⟩ (.int .i64 ((rd_T24 t435 x17_1).f0))).setCell ⟨gb439, 1, none⟩ (.int .i64 ((rd_T24 t435 x17_1).f1))).setCell ⟨gb439, 2, none⟩ (.string ((rd_T24 t435 x17_1).f2))) = w20 at n0_ n1_ n2_ n3_ n4_ n5_ n6_ ⊢
   have HO_1 := n0_
   have HO_2 := n1_
   have HO_7 := n2_
   have HO_8 := n3_
   have HO_15 := n4_
   have BK439 := n5_
   have HB := n6_
   clear n0_ n1_ n2_ n3_ n4_ n5_ n6_
   have n0_ := aK (Kd.V_drew HO_1.out)
   have n1_ := aK (Kd.V_drew HO_2.out)
   have n2_ := aK (Kd.R_drew HO_7.out)
   have n3_ := aK (Kd.R_drew HO_8.out)
   have n4_ := aK (Kd.R_drew HO_15.out)
   have n5_ := aK (blk_drew BK439.out)
   have n6_ := aK (below_drew1 HB.out)
   clear HO_1
   clear HO_2
   clear HO_7
   clear HO_8
   clear HO_15
   clear BK439
   clear HB
   have HO_1 := n0_
   have HO_2 := n1_
   have HO_7 := n2_
   have HO_8 := n3_
   have HO_15 := n4_
   have BK439 := n5_
   have HB := n6_
   clear n0_ n1_ n2_ n3_ n4_ n5_ n6_
   refine start_ (n := 8) (S := fun w' => w'.cell? ⟨gb439, 0, none⟩ = some (.int .i64 ((rd_T24 t435 x17_1).f0)) ∧ w'.cell? ⟨gb439, 1, none⟩ = some (.int .i64 ((rd_T24 t435 x17_1).f1)) ∧ w'.cell? ⟨gb439, 2, none⟩ = some (.string ((rd_T24 t435 x17_1).f2))) (ds := []) #[false, false, false, false, false, false, false, false] (by kernel_rfl) rfl rfl ⟨(blk_cell BK439.out 0).trans rfl, (blk_cell BK439.out 1).trans rfl, (blk_cell BK439.out 2).trans rfl⟩ (fun hHeld => ?_); refine with_tabW r3_Combine.tab6 r3_Combine.bits6 (fun HT_ HW_ => ?_)
   generalize w20.drew = w21 at HO_1 HO_2 HO_7 HO_8 HO_15 BK439 HB hHeld ⊢
   refine pY (i := 0) (N := some 22) (tf 1 7) rfl rfl HT_.out ?_
   refine pY (i := 1) (N := some 23) (tf 2 6) rfl rfl HT_.out ?_
   refine pY (i := 4) (N := some 26) #[true, true, false, false, true, false, false, false] rfl rfl HT_.out ?_
   refine take_ (i := 2) (N := some 24) (v := ?_) (a' := ?_) #[true, true, true, false, true, false, false, false] rfl rfl (take_ofW HT_.out HW_.out (by kernel_rfl)) (fun _ _ _ h => h) (Or.inl ⟨by rfl, ?_⟩) hHeld ?_ ?_
   rotate_left
   ·rintro w' ⟨s0, s1, s2⟩
    go_simp
    with_reducible rfl
   rotate_left
   ·exact aP
   refine take_ (i := 5) (N := some 27) (v := ?_) (a' := ?_) #[true, true, true, false, true, true, false, false] rfl rfl (take_ofW HT_.out HW_.out (by kernel_rfl)) (fun _ _ _ h => h) (Or.inl ⟨by rfl, ?_⟩) hHeld ?_ ?_
   rotate_left
   ·rintro w' ⟨s0, s1, s2⟩
    go_simp
    with_reducible rfl
   rotate_left
   ·exact aP
   refine one_ (i := 3) (N := some 25) (tf 6 2) rfl rfl (one_of HT_.out (by kernel_rfl)) (by decide) (fun K hK => ?_)
   refine goes_ Try.func92 (by kernel_rfl) rfl #[.slice A1 l1.length c1, .agg #[.int .i64 ((rd_T24 t435 x17_1).f0), .int .i64 ((rd_T24 t435 x17_1).f1), .string ((rd_T24 t435 x17_1).f2)]] (by rfl) rfl rfl (by (try simp only [List.map_toArray, List.map_cons, List.map_nil]); first | done | rfl | (simp only [List.length_drop, List.length_take]; rfl)) ?_
   with_reducible refine (r3_In.calls k1 _ _ l1 ((rd_T24 t435 x17_1).f0) ((rd_T24 t435 x17_1).f1) ((rd_T24 t435 x17_1).f2) t440 _ ?side1 ?side2 A13.out).mono ?_
   (case side1 => exact cX (Kd.V_reads' HO_1.out).2.2)
   (case side2 => exact (Kd.V_reads' HO_1.out).2.1)
   rintro e w22 ⟨rfl, hb⟩
   refine ⟨_, rfl, ?_⟩
   have n0_ := aK (Kd.V_below (vX HO_1.out) hb)
   have n1_ := aK (Kd.V_below (vX HO_2.out) hb)
   have n2_ := aK (Kd.R_below (rX HO_7.out) hb)
   have n3_ := aK (Kd.R_below (rX HO_8.out) hb)
   have n4_ := aK (Kd.R_below (rX HO_15.out) hb)
   have n5_ := aK (blk_below (bX BK439.out) hb)
   have n6_ := aK (below_step (bS GE439.out) hb)
   clear HO_1
   clear HO_2
   clear HO_7
   clear HO_8
   clear HO_15
   clear BK439
   clear HB
   have HO_1 := n0_
   have HO_2 := n1_
   have HO_7 := n2_
   have HO_8 := n3_
   have HO_15 := n4_
   have BK439 := n5_
   have HB := n6_
   clear n0_ n1_ n2_ n3_ n4_ n5_ n6_
   (try clear hb)
   (try clear hb2)
   (try clear hk)
   (try clear hi)
   refine hK.out _ _ ⟨(blk_cell BK439.out 0).trans rfl, (blk_cell BK439.out 1).trans rfl, (blk_cell BK439.out 2).trans rfl⟩ (fun hHeld => ?_)
   clear hK K
   refine norm_ (a' := ?_) ?_ ?_
   rotate_left
   ·show Act.put _ (some 25) _ = _
    simp only [Act.put, List.setIfInBounds_toArray, List.set_cons_zero, List.set_cons_succ, i64_w, i32_w]
    rfl
   refine one_ (i := 6) (N := some 28) (tf 7 1) rfl rfl (one_of HT_.out (by kernel_rfl)) (by decide) (fun K hK => ?_)
   refine goes_ Try.func92 (by kernel_rfl) rfl #[.slice A2 l2.length c2, .agg #[.int .i64 ((rd_T24 t435 x17_1).f0), .int .i64 ((rd_T24 t435 x17_1).f1), .string ((rd_T24 t435 x17_1).f2)]] (by rfl) rfl rfl (by (try simp only [List.map_toArray, List.map_cons, List.map_nil]); first | done | rfl | (simp only [List.length_drop, List.length_take]; rfl)) ?_
   with_reducible refine (r3_In.calls k1 _ _ l2 ((rd_T24 t435 x17_1).f0) ((rd_T24 t435 x17_1).f1) ((rd_T24 t435 x17_1).f2) t441 _ ?side1 ?side2 A14.out).mono ?_
   (case side1 => exact cX (Kd.V_reads' HO_2.out).2.2)
   (case side2 => exact (Kd.V_reads' HO_2.out).2.1)
   rintro e w23 ⟨rfl, hb⟩
   refine ⟨_, rfl, ?_⟩
   have n0_ := aK (Kd.V_below (vX HO_1.out) hb)
   have n1_ := aK (Kd.V_below (vX HO_2.out) hb)
   have n2_ := aK (Kd.R_below (rX HO_7.out) hb)
   have n3_ := aK (Kd.R_below (rX HO_8.out) hb)
   have n4_ := aK (Kd.R_below (rX HO_15.out) hb)
   have n5_ := aK (blk_below (bX BK439.out) hb)
   have n6_ := aK (below_step (bS GE439.out) hb)
   clear HO_1
   clear HO_2
   clear HO_7
   clear HO_8
   clear HO_15
   clear BK439
   clear HB
   have HO_1 := n0_
   have HO_2 := n1_
   have HO_7 := n2_
   have HO_8 := n3_
   have HO_15 := n4_
   have BK439 := n5_
   have HB := n6_
   clear n0_ n1_ n2_ n3_ n4_ n5_ n6_
   (try clear hb)
   (try clear hb2)
   (try clear hk)
   (try clear hi)
   refine hK.out _ _ ⟨(blk_cell BK439.out 0).trans rfl, (blk_cell BK439.out 1).trans rfl, (blk_cell BK439.out 2).trans rfl⟩ (fun hHeld => ?_)
   clear hK K
   refine norm_ (a' := ?_) ?_ ?_
   rotate_left
   ·show Act.put _ (some 28) _ = _
    simp only [Act.put, List.setIfInBounds_toArray, List.set_cons_zero, List.set_cons_succ, i64_w, i32_w]
    rfl
   refine one_ (i := 7) (N := some 29) (tf 8 0) rfl rfl (one_of HT_.out (by kernel_rfl)) (by decide) (fun K hK => ?_)
   refine goes_ Try.func97 (by kernel_rfl) rfl #[.int .i64 a0, .bool t440, .bool t441] (by rfl) rfl rfl (by (try simp only [List.map_toArray, List.map_cons, List.map_nil]); first | done | rfl | (simp only [List.length_drop, List.length_take]; rfl)) ?_
   with_reducible refine (r3_Apply.calls a0 t440 t441 true _ A15.out).mono ?_
   rintro e w' ⟨rfl, ⟨nd, rfl⟩⟩
   refine ⟨_, rfl, ?_⟩
   refine hK.out _ _ ⟨(blk_cell BK439.out 0).trans rfl, (blk_cell BK439.out 1).trans rfl, (blk_cell BK439.out 2).trans rfl⟩ (fun hHeld => ?_)
   clear hK K
   refine norm_ (a' := ?_) ?_ ?_
   rotate_left
   ·show Act.put _ (some 29) _ = _
    simp only [Act.put, List.setIfInBounds_toArray, List.set_cons_zero, List.set_cons_succ, i64_w, i32_w]
    rfl
   refine done_ (done_of HT_.out (by kernel_rfl)) ?_
   obtain ⟨Ao24, co24, eo24⟩ := Kd.R_slice HO_8.out
   subst eo24
   try go_wp2_with (first | ((with_reducible refine gate_callee (f := 98) rfl ?_); refine gL (some 33) rfl Try.func98 #[.slice Ao24 x8_1.length co24, .slice (some ad438) t435.length co9, .int .i64 x17_1] rfl ?_; (with_reducible refine (r3_Join.calls (fun k_ => some k_ = (.slice Ao24 x8_1.length co24 : Value).ownBlock) (.slice Ao24 x8_1.length co24) x8_1 _ _ t435 x17_1 t443 w _ ?side1 ?side2 ?side3 ?side4 A17.out).mono ?_); (case side1 => exact bS GE439.out); (case side2 => exact Kd.R_tight rfl HO_8.out); (case side3 => exact Kd.C_kept_own ((Kd.R_apart' HO_7.out (Kd.R_typed HO_8.out) (by decide))) (fun k_ hk_ hs_ => (hk_.2) hs_)); (case side4 => exact (Kd.R_reads' HO_7.out).2.1); rintro e w25 ⟨v444, rfl, ho0, hb, hkp⟩; refine ⟨_, rfl, ?_⟩; have n0_ := aK (Kd.V_mono (ok' := fun k_ => ((P1_ k_ ∨ P2_ k_) ∨ w.heap.size ≤ k_) ∧ some k_ ≠ (.slice (some ad438) t435.length co9 : Value).ownBlock ∧ some k_ ≠ (.slice (some ad438) t435.length co9 : Value).ownBlock ∧ k_ ≠ gb439 ∧ some k_ ≠ (v444 : Value).ownBlock) (Kd.V_keptB (HO_1.out) hkp (fun k_ hk_ hs_ => (hk_.2.2.1) hs_)) (fun k_ hk_ => ⟨hk_.1.1, hk_.1.2.1, hk_.1.2.2.2.1, hk_.1.2.2.2.2, fun e_ => Or.elim (ho0.1 k_ e_.symm) (fun hs_ => hk_.2.1 hs_) (fun hn_ => Nat.not_le.2 hk_.2.2 hn_)⟩)); have n1_ := aK (Kd.V_mono (ok' := fun k_ => ((P1_ k_ ∨ P2_ k_) ∨ w.heap.size ≤ k_) ∧ some k_ ≠ (.slice (some ad438) t435.length co9 : Value).ownBlock ∧ some k_ ≠ (.slice (some ad438) t435.length co9 : Value).ownBlock ∧ k_ ≠ gb439 ∧ some k_ ≠ (v444 : Value).ownBlock) (Kd.V_keptB (HO_2.out) hkp (fun k_ hk_ hs_ => (hk_.2.2.1) hs_)) (fun k_ hk_ => ⟨hk_.1.1, hk_.1.2.1, hk_.1.2.2.2.1, hk_.1.2.2.2.2, fun e_ => Or.elim (ho0.1 k_ e_.symm) (fun hs_ => hk_.2.1 hs_) (fun hn_ => Nat.not_le.2 hk_.2.2 hn_)⟩)); have n2_ := aK (Kd.R_mono (ok' := fun k_ => (w.heap.size ≤ k_) ∧ k_ ≠ gb439) (Kd.R_keptB ((Kd.R_apart' HO_7.out (Kd.R_typed HO_8.out) (by decide))) hkp (fun k_ hk_ hs_ => (hk_.2) hs_)) (fun k_ hk_ => ⟨hk_.1.1.1, hk_.1.1.2⟩)); have n3_ := aK (Kd.R_mono (ok' := fun k_ => (w.heap.size ≤ k_) ∧ k_ ≠ gb439) (Kd.R_keptB ((Kd.R_apart' HO_15.out (Kd.R_typed HO_8.out) (by decide))) hkp (fun k_ hk_ hs_ => (hk_.2) hs_)) (fun k_ hk_ => ⟨hk_.1.1.1, hk_.1.1.2⟩)); have n4_ := aK (blk_kept (bX BK439.out) hkp (fun hs_ => (fun e_ => (Kd.R_ne HO_8.out BK439.out (by decide)) e_) hs_)); have n5_ := aK (Kd.R_mono (ok' := fun k_ => (w.heap.size ≤ k_)) ho0 (fun k_ hk_ => Or.elim hk_ (fun hs_ => (HO_8.out.1 k_ (hs_).symm)) (fun hn_ => (Nat.le_trans (below_size (bS GE439.out)) hn_)))); have n6_ := aK (hb); clear HO_1 HO_2 HO_7 HO_15 BK439 HB HO_8; have HO_1 := n0_; have HO_2 := n1_; have HO_7 := n2_; have HO_15 := n3_; have BK439 := n4_; have HO445 := n5_; have HB := n6_; clear n0_ n1_ n2_ n3_ n4_ n5_ n6_; (try clear hb hkp ho0)))
   go_roundg k1
   case measure => have := HK1.out; omega
   case rel => exact ⟨(t443), (wrap64 (x17_1 + 1)), (by first | rfl | (simp; done) | (simp [*]; done)), H', ⟨by have := HK1.out; omega⟩, ⟨by (with_reducible repeat (first | apply Kd.V_alloc | apply Kd.V_drewN | apply Kd.V_drew)); exact Kd.V_mono HO_1.out (fun _ hk => ⟨hk.1, ⟨hk.2.1, ⟨hk.2.2.2.2, hk.2.2.1⟩⟩⟩)⟩, ⟨by (with_reducible repeat (first | apply Kd.V_alloc | apply Kd.V_drewN | apply Kd.V_drew)); exact Kd.V_mono HO_2.out (fun _ hk => ⟨hk.1, ⟨hk.2.1, ⟨hk.2.2.2.2, hk.2.2.1⟩⟩⟩)⟩, ⟨by (with_reducible repeat (first | apply Kd.R_alloc | apply Kd.R_drewN | apply Kd.R_drew)); exact Kd.R_mono HO_7.out (fun _ hk => hk.1)⟩, ⟨rX HO445.out⟩, ⟨by (with_reducible repeat (first | apply Kd.R_alloc | apply Kd.R_drewN | apply Kd.R_drew)); exact Kd.R_mono HO_15.out (fun _ hk => hk.1)⟩, ⟨bS GE439.out⟩⟩
def cc_Bool.f (s0_0 : List Int) (s0_1 : Int) (a1 : Int) : Option (Bool × Int) := (cc_Int.f s0_0 s0_1 a1).bind fun bt446 => (some ((bt446.1 == (wrap64 (a1 - 1))), bt446.2))
set_option maxHeartbeats 8000000 in
set_option maxRecDepth 100000 in
theorem cc_Bool.calls (g : Nat) (s0_0 : List Int) (s0_1 : Int) (a1 : Int) (r1 : Bool) (r2 : Int) (w0 w : World) (hI : IsS75 w0 w g s0_0 s0_1) (hB : Below w0.heap.size w0 w) (h : cc_Bool.f s0_0 s0_1 a1 = some (r1, r2)) :
  Calls Try.prog 76 #[.pointer (some ⟨g, 0, none⟩), .int .i64 a1] w fun e w' => e = .returned (.bool r1) ∧ IsS75 w0 w' g s0_0 r2 ∧ Below w0.heap.size w0 w' ∧ KeepBut w w' g none := by
 have HI0 := Aside0.mk hI
 have HK := aK (KeepBut.refl w g none)
 have HL := Aside0.mk hB.size
 clear hI
 have HW0 := Aside0.mk hB.size
 have HB := Aside0.mk hB
 clear hB
 have H : ((cc_Int.f s0_0 s0_1 a1).bind fun bt446 => (some ((bt446.1 == (wrap64 (a1 - 1))), bt446.2))) = some (r1, r2) := h
 clear h
 obtain ⟨⟨t446, t447⟩, A3, H⟩ := oB H
 try dsimp only at H
 simp only [Option.some.injEq, Prod.mk.injEq] at H
 obtain ⟨rfl, rfl⟩ := H
 go_enter Try.func76, Try.ntmps76
 go_wp2_with (first | ((with_reducible refine gate_callee (f := 73) rfl ?_); refine gL (some 7) rfl Try.func73 #[.pointer (some ⟨g, 0, none⟩), .int .i64 a1] rfl ?_; (with_reducible refine (cc_Int.calls g s0_0 s0_1 a1 t446 t447 w0 _ ?side1 ?side2 A3.out).mono ?_); (case side1 => exact iX HI0.out); (case side2 => exact bS (IsS75.ge HI0.out)); rintro e w4 ⟨rfl, hi, hb, hk⟩; refine ⟨_, rfl, ?_⟩; have n0_ := aK (KeepBut.trans kX hk (.inl rfl)); have n1_ := aK (hb); have n2_ := aK (hi); clear HK HB HI0; have HK := n0_; have HB := n1_; have HI0 := n2_; clear n0_ n1_ n2_; (try clear hb hk hi)))
 go_ret
 exact ⟨eW, iX HI0.out, bS (IsS75.ge HI0.out), kX⟩
end Go.Proofs.Ytpjcdacnhalclaa.Q
