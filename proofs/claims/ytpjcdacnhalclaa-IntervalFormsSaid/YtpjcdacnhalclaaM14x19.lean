/- A part of a proof: facts of functions that the law calls; conditions stand in each. -/
import Derived.Test.YtpjcdacnhalclaaM14x3
import Derived.Test.YtpjcdacnhalclaaM14x18
set_option linter.unusedVariables false
set_option linter.unusedSimpArgs false
namespace Go.Proofs.Ytpjcdacnhalclaa.Q
open Go.RowKit Go.Proofs.YtpjcdacnhalclaaW.PrintWords Go.Proofs.YtpjcdacnhalclaaW.PrintLast Go.Proofs.YtpjcdacnhalclaaW.PrintMore
attribute [local go_sem] max2_int min2_int max_two min_two max_three min_three max_four min_four
mutual
def r3_Points.l0 : Nat → List (List (S24)) → List (List (S65)) → Int → Int → Option ((List (S24)))
 | 0, _, _, _, _ => none
 | k + 1, x3, x11, x12, x13 => if x13 < x12 then (if 0 ≤ x13 then (if x13 < (x11.length : Int) then (r3_Points.l1 k x3 x11 x12 x13 (rd_L7 x11 x13) ((rd_L7 x11 x13).length : Int) 0) else (none)) else (none)) else ((r1_Set.f k x3).bind fun t393 => (r3_Points.l2 k ([] : List (S24)) t393 (t393.length : Int) 0))
def r3_Points.l1 : Nat → List (List (S24)) → List (List (S65)) → Int → Int → List (S65) → Int → Int → Option ((List (S24)))
 | 0, _, _, _, _, _, _, _ => none
 | k + 1, x3, x11, x12, x13, x17, x18, x19 => if x19 < x18 then (if 0 ≤ x19 then (if x19 < (x17.length : Int) then (if x3.length < 5864062014805 then ((some (x3 ++ [(([(⟨(rd_T65 x17 x19).f0.f0, (rd_T65 x17 x19).f0.f1, (rd_T65 x17 x19).f0.f2⟩ : S24)] : List (S24)))] : List (List (S24)))).bind fun y384 => (if ((rd_T65 x17 x19).f2 = true) then (r3_Points.l1 k y384 x11 x12 x13 x17 x18 (wrap64 (x19 + 1))) else (if y384.length < 5864062014805 then (r3_Points.l1 k (y384 ++ [(([(⟨(rd_T65 x17 x19).f1.f0, (rd_T65 x17 x19).f1.f1, (rd_T65 x17 x19).f1.f2⟩ : S24)] : List (S24)))]) x11 x12 x13 x17 x18 (wrap64 (x19 + 1))) else (none)))) else (none)) else (none)) else (none)) else (r3_Points.l0 k x3 x11 x12 (wrap64 (x13 + 1)))
def r3_Points.l2 : Nat → List (S24) → List (List (S24)) → Int → Int → Option ((List (S24)))
 | 0, _, _, _, _ => none
 | k + 1, x8, x41, x42, x43 => if x43 < x42 then (if 0 ≤ x43 then (if x43 < (x41.length : Int) then (if 0 < ((rd_L4 x41 x43).length : Int) then (if x8.length < 4398046511104 then (r3_Points.l2 k (x8 ++ [(⟨(rd_T24 (rd_L4 x41 x43) 0).f0, (rd_T24 (rd_L4 x41 x43) 0).f1, (rd_T24 (rd_L4 x41 x43) 0).f2⟩ : S24)]) x41 x42 (wrap64 (x43 + 1))) else (none)) else (none)) else (none)) else (none)) else (some x8)
end
def r3_Points.f (k : Nat) (l0 : List (List (S65))) : Option ((List (S24))) := r3_Points.l0 k ([] : List (List (S24))) l0 (l0.length : Int) 0
set_option maxHeartbeats 8000000 in
set_option maxRecDepth 100000 in
theorem r3_Points.calls (k : Nat) (A0 : Option Addr) (c0 : Nat) (l0 : List (List (S65))) (r : List (S24)) (w : World) (hr0 : Kd.C (Kd.slice 65 k65) w A0 l0.length l0) (hc0 : l0.length ≤ c0) (h : r3_Points.f k l0 = some r) :
  Calls Try.prog 96 #[.slice A0 l0.length c0] w fun e w' => ∃ v0_ : Value, e = .returned (v0_) ∧ Kd.R k24 24 w' w.heap.size (fun _ => True) v0_ r ∧ Below w.heap.size w w' := by
 have hu65 := Try.underlying65
 have hu24 := Try.underlying24
 have HR0 := Aside0.mk hr0
 have HC0 := Aside0.mk hc0
 clear hr0 hc0
 have HB := aK (Below.refl w.heap.size w)
 have H : (r3_Points.l0 k ([] : List (List (S24))) l0 (l0.length : Int) 0) = some r := h
 clear h
 have H' := Aside0.mk H
 clear H
 go_enter Try.func96, Try.ntmps96
 go_wp2
 go_loopg [3, 13] k (fun kq v3 v13 w' => ∃ (x3_1 : List (List (S24))) (x13_1 : Int), v13 = .int .i64 x13_1 ∧ Aside0 (r3_Points.l0 kq x3_1 l0 (l0.length : Int) x13_1 = some r) ∧ Aside0 (kq ≤ k) ∧ Aside0 (Kd.S (Kd.slice 24 k24) 54 w' w.heap.size (fun _ => True) v3 x3_1) ∧ Aside0 (Below w.heap.size w w'))
 case atStart => exact ⟨(([] : List (List (S24)))), (0), (by first | rfl | (simp; done) | (simp [*]; done)), H', ⟨Nat.le_refl _⟩, ⟨by first | exact Kd.S_nil _ _ _ _ _ | exact Kd.N_nil _ _ _ _ _ | exact Kd.V_nil _ _ _ _ _ | exact Kd.Q_nil _ _ _ _ _ | exact Kd.R_nil _ _ _ _ _⟩, ⟨bO⟩⟩
 case round =>
  clear H'
  obtain ⟨x3_1, x13_1, rfl, HA, HK1, HO_3, HB⟩ := hrel
  cases gk with
  | zero => exact absurd HA.out (by simp [r3_Points.l0])
  | succ k1 =>
   have H := HA.out
   clear HA
   simp only [r3_Points.l0] at H
   by_cases c2 : x13_1 < (l0.length : Int)
   rotate_left
   ·rw [if_neg c2] at H
    have c2b0 : decide (x13_1 < (l0.length : Int)) = false := decide_eq_false c2
    clear c2
    obtain ⟨t393, A30, H⟩ := oB H
    try dsimp only at H
    have H' := Aside0.mk H
    clear H
    obtain ⟨Ao31, co31, eo31⟩ := Kd.S_slice HO_3.out
    subst eo31
    go_wp2_with (first | ((with_reducible refine gate_callee (f := 57) rfl ?_); refine gL (some 41) rfl Try.func57 #[.slice Ao31 x3_1.length co31] rfl ?_; (with_reducible refine (r1_Set.calls k1 _ _ x3_1 t393 _ ?side1 ?side2 A30.out).mono ?_); (case side1 => exact cX (Kd.S_reads' HO_3.out).2.2); (case side2 => exact (Kd.S_reads' HO_3.out).2.1); rintro e w32 ⟨v394, rfl, ho0, hb⟩; refine ⟨_, rfl, ?_⟩; have n0_ := aK (Kd.S_elder' (by (with_reducible repeat (first | apply Kd.S_alloc | apply Kd.S_drewN | apply Kd.S_drew)); exact HO_3.out) (Kd.S_base ho0) hb); have n1_ := aK (Kd.S_lower (Kd.S_new' ho0 (Kd.S_lt (by (with_reducible repeat (first | apply Kd.S_alloc | apply Kd.S_drewN | apply Kd.S_drew)); exact HO_3.out))) (below_size bO)); have n2_ := aK (below_step bO hb); clear HO_3 HB; have HO_3 := n0_; have HO395 := n1_; have HB := n2_; clear n0_ n1_ n2_; (try clear hb ho0); obtain ⟨Ao33, co33, eo33⟩ := Kd.S_slice HO395.out; subst eo33))
    go_loopg [8, 43] k1 (fun kq v8 v43 w' => ∃ (x8_2 : List (S24)) (x43_2 : Int), v43 = .int .i64 x43_2 ∧ Aside0 (r3_Points.l2 kq x8_2 t393 (t393.length : Int) x43_2 = some r) ∧ Aside0 (kq ≤ k1) ∧ Aside0 (Kd.R k24 24 w' w.heap.size (fun _ => True) v8 x8_2) ∧ Aside0 (Kd.S (Kd.slice 24 k24) 54 w' w.heap.size (fun k_ => some k_ ≠ (v8 : Value).ownBlock) (.slice Ao33 t393.length co33) t393) ∧ Aside0 (Below w.heap.size w w'))
    case atStart => exact ⟨(([] : List (S24))), (0), (by first | rfl | (simp; done) | (simp [*]; done)), H', ⟨Nat.le_refl _⟩, ⟨by first | exact Kd.R_nil _ _ _ _ _ | exact Kd.N_nil _ _ _ _ _ | exact Kd.V_nil _ _ _ _ _ | exact Kd.Q_nil _ _ _ _ _ | exact Kd.S_nil _ _ _ _ _⟩, ⟨by (with_reducible repeat (first | apply Kd.S_alloc | apply Kd.S_drewN | apply Kd.S_drew)); exact Kd.S_mono HO395.out (fun _ hk => (by simp [Value.ownBlock]))⟩, ⟨bO⟩⟩
    case round =>
     clear H'
     try clear c1
     try clear c2
     try clear c2b0
     try clear p2
     try clear c3
     try clear c3b0
     try clear p3
     try clear q3
     try clear hx3
     try clear c4
     try clear c4b0
     try clear c5
     try clear c5b0
     try clear c6
     try clear c6b0
     try clear p6
     try clear c7
     try clear c7b0
     try clear c8
     try clear c9
     try clear q9
     try clear c10
     try clear c18
     try clear hcz12_0 hcz12_1 hcz12_2 hcz12_3 hcz12_4 hcz12_5 hcz12_6
     try clear hcz17_0 hcz17_1 hcz17_2 hcz17_3 hcz17_4 hcz17_5 hcz17_6
     try clear hcz20_0 hcz20_1 hcz20_2 hcz20_3 hcz20_4 hcz20_5 hcz20_6
     try clear hcz25_0 hcz25_1 hcz25_2 hcz25_3 hcz25_4 hcz25_5 hcz25_6
     try clear hfz12_0 hfz12_1 hfz12_2 hfz12_3 hfz12_4 hfz12_5 hfz12_6
     try clear hfz17_0 hfz17_1 hfz17_2 hfz17_3 hfz17_4 hfz17_5 hfz17_6
     try clear hfz20_0 hfz20_1 hfz20_2 hfz20_3 hfz20_4 hfz20_5 hfz20_6
     try clear hfz25_0 hfz25_1 hfz25_2 hfz25_3 hfz25_4 hfz25_5 hfz25_6
     try clear hx378_0
     try clear hx379_0
     try clear hx379_1
     try clear hx379_2
     try clear hx379_3
     try clear hx379_4
     try clear hx379_5
     try clear hx379_6
     try clear p2
     try clear p3
     try clear p378
     try clear p379
     try clear q3
     try clear q378
     try clear q379
     obtain ⟨x8_2, x43_2, rfl, HA, HK2, HO_8, HO_41, HB⟩ := hrel
     cases gk with
     | zero => exact absurd HA.out (by simp [r3_Points.l2])
     | succ k2 =>
      have H := HA.out
      clear HA
      simp only [r3_Points.l2] at H
      by_cases c34 : x43_2 < (t393.length : Int)
      rotate_left
      ·rw [if_neg c34] at H
       have c34b0 : decide (x43_2 < (t393.length : Int)) = false := decide_eq_false c34
       clear c34
       obtain rfl := Option.some.inj H
       go_wp2
       go_ret
       exact ⟨_, eW, rX HO_8.out, bO⟩
      rw [if_pos c34] at H
      have c34b0 : decide (x43_2 < (t393.length : Int)) = true := decide_eq_true c34
      clear c34
      by_cases c35 : 0 ≤ x43_2
      rotate_left
      ·rw [if_neg c35] at H
       exact absurd H (by simp)
      rw [if_pos c35] at H
      have c35b0 : decide (0 ≤ x43_2) = true := decide_eq_true c35
      clear c35
      by_cases c36 : x43_2 < (t393.length : Int)
      rotate_left
      ·rw [if_neg c36] at H
       exact absurd H (by simp)
      rw [if_pos c36] at H
      have c36b0 : decide (x43_2 < (t393.length : Int)) = true := decide_eq_true c36
      clear c36
      by_cases c37 : 0 < ((rd_L4 t393 x43_2).length : Int)
      rotate_left
      ·rw [if_neg c37] at H
       exact absurd H (by simp)
      rw [if_pos c37] at H
      have c37b0 : decide (0 < ((rd_L4 t393 x43_2).length : Int)) = true := decide_eq_true c37
      have c37b1 : decide (0 < (rd_L4 t393 x43_2).length) = true := decide_eq_true (by omega)
      clear c37
      by_cases c38 : x8_2.length < 4398046511104
      rotate_left
      ·rw [if_neg c38] at H
       exact absurd H (by simp)
      rw [if_pos c38] at H
      have LMc38 := Aside0.mk c38
      clear c38
      obtain ⟨y398, hy398⟩ : ∃ y_ : List (S24), y_ = (x8_2 ++ [(⟨(rd_T24 (rd_L4 t393 x43_2) 0).f0, (rd_T24 (rd_L4 t393 x43_2) 0).f1, (rd_T24 (rd_L4 t393 x43_2) 0).f2⟩ : S24)]) := ⟨_, rfl⟩
      replace H : (r3_Points.l2 k2 y398 t393 (t393.length : Int) (wrap64 (x43_2 + 1))) = some r := by first | (rw [hy398]; with_reducible exact H) | (have H2_ := (Option.bind_some _ _).symm.trans H; rw [hy398]; with_reducible exact H2_) | (have H2_ := (Option.bind_some _ _).symm.trans H; with_reducible exact H2_) | with_reducible exact H | (rw [hy398]; exact H) | exact H
      have Ny398 := Aside0.mk hy398
      clear hy398
      have H' := Aside0.mk H
      clear H
      have p396 : 0 ≤ (x43_2 : Int) := of_decide_eq_true (aA)
      have q396 : x43_2 < (t393.length : Int) := of_decide_eq_true (aA)
      obtain ⟨ad396, A396_0, c396_0, e396, hx396_0, hl396_0, hi396_0⟩ := at_L4 (Kd.S_reads' HO_41.out).2.2 x43_2 p396 q396
      cases e396
      obtain ⟨ce396, hce396, hMe396, hcc396⟩ := Kd.S_get HO_41.out [] x43_2 p396 (by first | exact q396 | exact of_decide_eq_true (aA) | (have e_ := (Kd.S_reads' HO_41.out).1; omega))
      obtain ⟨ve396_0, rfl, ge396_0⟩ := hMe396
      have hv396_0 := hcc396 0 _ rfl
      rw [Nat.add_zero, show ((Kd.slice 24 k24)).sz = 1 from rfl, Nat.mul_one] at hv396_0
      replace hv396_0 := Option.some.inj (hv396_0.symm.trans hx396_0)
      rw [hv396_0] at ge396_0
      have HL396_0 := aK (show Kd.R k24 24 _ _ _ _ (rd_L4 t393 x43_2) from ge396_0)
      clear hv396_0 ge396_0
      clear hcc396 hce396
      have HR396_0 := Aside0.mk hi396_0
      have HC396_0 := Aside0.mk hl396_0
      clear hi396_0 hl396_0
      replace p396 := eq_true p396
      replace q396 := eq_true q396
      have p397 : 0 ≤ (0 : Int) := (by omega)
      have q397 : 0 < ((rd_L4 t393 x43_2).length : Int) := of_decide_eq_true (aA)
      obtain ⟨ad397, e397, hx397_0, hx397_1, hx397_2⟩ := at_T24 (by repeat (first | (with_reducible exact HR396_0.out) | (with_reducible refine Kd.C_alloc ?_ _) | (with_reducible refine Kd.C_drewN ?_ _) | (with_reducible refine Kd.C_drew ?_) | exact HR396_0.out)) 0 p397 q397
      cases e397
      have qi397 : (0 < (rd_L4 t393 x43_2).length) = True := eq_true (by omega)
      (try rw [show ((0 : Int)).toNat = 0 from rfl] at hx397_0)
      (try rw [show 0 * 3 = 0 from rfl] at hx397_0)
      (try rw [Addr.add_zero'] at hx397_0)
      (try rw [show ((0 : Int)).toNat = 0 from rfl] at hx397_1)
      (try rw [show 0 * 3 = 0 from rfl] at hx397_1)
      (try rw [Addr.add_zero'] at hx397_1)
      (try rw [show ((0 : Int)).toNat = 0 from rfl] at hx397_2)
      (try rw [show 0 * 3 = 0 from rfl] at hx397_2)
      (try rw [Addr.add_zero'] at hx397_2)
      replace p397 := eq_true p397
      replace q397 := eq_true q397
      go_wp2_with (first | ((with_reducible refine gate_builtin (b := .append) (xs := #[.tmp 47, .tmp 51]) rfl ?_); at_builtin; refine Kd.R_append k24 (w0 := w) w.heap.size rfl (.tmp 47) (.tmp 51) 31 24 (.agg #[(.int .i64 0), (.int .i64 0), (.string ⟨#[]⟩)]) 32 rfl Try.underlying31 info24 rfl (by decide) (by omega) u8 x8_2 (⟨(rd_T24 (rd_L4 t393 x43_2) 0).f0, (rd_T24 (rd_L4 t393 x43_2) 0).f1, (rd_T24 (rd_L4 t393 x43_2) 0).f2⟩ : S24) [.int .i64 ((rd_T24 (rd_L4 t393 x43_2) 0).f0), .int .i64 ((rd_T24 (rd_L4 t393 x43_2) 0).f1), .string ((rd_T24 (rd_L4 t393 x43_2) 0).f2)] (fun _ => True) (fun _ => False) rfl rfl ?aP (fun _ hk => hk.elim) ?aF ?aO ?aB ?aS ?aL ?_; (case aP => exact k24_mkM _ _ _ (⟨(rd_T24 (rd_L4 t393 x43_2) 0).f0, (rd_T24 (rd_L4 t393 x43_2) 0).f1, (rd_T24 (rd_L4 t393 x43_2) 0).f2⟩ : S24)); (case aB => exact bO); (case aF => exact (fun _ _ => trivial)); (case aO => exact (rX HO_8.out)); (case aS => exact (below_size bO)); (case aL => have := LMc38.out; omega); intro v399 w39 ho hb hg hat; rw [← Ny398.out] at ho; have n0_ := aK (Kd.S_after (ok := (fun _ => True)) (by (with_reducible repeat (first | apply Kd.S_alloc | apply Kd.S_drewN | apply Kd.S_drew)); exact Kd.S_mono HO_41.out (fun _ hk => ⟨trivial, hk⟩)) hg hat); have n1_ := aK (Kd.R_after (ok := (fun k_ => some k_ ≠ (.slice (some ad396) t393.length co33 : Value).ownBlock)) (by (with_reducible repeat (first | apply Kd.R_alloc | apply Kd.R_drewN | apply Kd.R_drew)); exact Kd.R_mono HL396_0.out (fun _ hk => ⟨hk.2, hk.1⟩)) hg hat); have n2_ := aK (hb); have n3_ := aK (ho); clear HO_41 HL396_0 HB HO_8; have HO_41 := n0_; have HL396_0 := n1_; have HB := n2_; have HO400 := n3_; clear n0_ n1_ n2_ n3_ ho hb hg hat))
      go_roundg k2
      case measure => have := HK1.out; have := HK2.out; omega
      case rel => exact ⟨(y398), (wrap64 (x43_2 + 1)), (by first | rfl | (simp; done) | (simp [*]; done)), H', ⟨by have := HK1.out; have := HK2.out; omega⟩, ⟨rX HO400.out⟩, ⟨by (with_reducible repeat (first | apply Kd.S_alloc | apply Kd.S_drewN | apply Kd.S_drew)); exact Kd.S_mono HO_41.out (fun _ hk => hk.2)⟩, ⟨bO⟩⟩
   rw [if_pos c2] at H
   have c2b0 : decide (x13_1 < (l0.length : Int)) = true := decide_eq_true c2
   clear c2
   by_cases c3 : 0 ≤ x13_1
   rotate_left
   ·rw [if_neg c3] at H
    exact absurd H (by simp)
   rw [if_pos c3] at H
   have c3b0 : decide (0 ≤ x13_1) = true := decide_eq_true c3
   clear c3
   by_cases c4 : x13_1 < (l0.length : Int)
   rotate_left
   ·rw [if_neg c4] at H
    exact absurd H (by simp)
   rw [if_pos c4] at H
   have c4b0 : decide (x13_1 < (l0.length : Int)) = true := decide_eq_true c4
   clear c4
   have H' := Aside0.mk H
   clear H
   have p378 : 0 ≤ (x13_1 : Int) := of_decide_eq_true (aA)
   have q378 : x13_1 < (l0.length : Int) := of_decide_eq_true (aA)
   obtain ⟨ad378, A378_0, c378_0, e378, hx378_0, hl378_0, hi378_0⟩ := at_L7 HR0.out x13_1 p378 q378
   cases e378
   replace hx378_0 := hW HB.out hx378_0
   have HR378_0 := Aside0.mk hi378_0
   have HC378_0 := Aside0.mk hl378_0
   clear hi378_0 hl378_0
   replace p378 := eq_true p378
   replace q378 := eq_true q378
   go_wp2
   go_loopg [3, 19] k1 (fun kq v3 v19 w' => ∃ (x3_2 : List (List (S24))) (x19_2 : Int), v19 = .int .i64 x19_2 ∧ Aside0 (r3_Points.l1 kq x3_2 l0 (l0.length : Int) x13_1 (rd_L7 l0 x13_1) ((rd_L7 l0 x13_1).length : Int) x19_2 = some r) ∧ Aside0 (kq ≤ k1) ∧ Aside0 (Kd.S (Kd.slice 24 k24) 54 w' w.heap.size (fun _ => True) v3 x3_2) ∧ Aside0 (Below w.heap.size w w'))
   case atStart => exact ⟨(x3_1), (0), (by first | rfl | (simp; done) | (simp [*]; done)), H', ⟨Nat.le_refl _⟩, ⟨by (with_reducible repeat (first | apply Kd.S_alloc | apply Kd.S_drewN | apply Kd.S_drew)); exact HO_3.out⟩, ⟨bO⟩⟩
   case round =>
    clear H'
    try clear c2
    try clear c2b0
    try clear p2
    try clear c3
    try clear c3b0
    try clear p3
    try clear q3
    try clear hx3
    try clear c4
    try clear c4b0
    try clear hx378_0
    try clear p378
    try clear q378
    obtain ⟨x3_2, x19_2, rfl, HA, HK2, HO_3, HB⟩ := hrel
    cases gk with
    | zero => exact absurd HA.out (by simp [r3_Points.l1])
    | succ k2 =>
     have H := HA.out
     clear HA
     simp only [r3_Points.l1] at H
     by_cases c5 : x19_2 < ((rd_L7 l0 x13_1).length : Int)
     rotate_left
     ·rw [if_neg c5] at H
      have c5b0 : decide (x19_2 < ((rd_L7 l0 x13_1).length : Int)) = false := decide_eq_false c5
      clear c5
      have H' := Aside0.mk H
      clear H
      go_wp2
      go_roundg k2
      case measure => have := HK1.out; have := HK2.out; omega
      case rel => exact ⟨(x3_2), (wrap64 (x13_1 + 1)), (by first | rfl | (simp; done) | (simp [*]; done)), H', ⟨by have := HK1.out; have := HK2.out; omega⟩, ⟨by (with_reducible repeat (first | apply Kd.S_alloc | apply Kd.S_drewN | apply Kd.S_drew)); exact HO_3.out⟩, ⟨bO⟩⟩
     rw [if_pos c5] at H
     have c5b0 : decide (x19_2 < ((rd_L7 l0 x13_1).length : Int)) = true := decide_eq_true c5
     clear c5
     by_cases c6 : 0 ≤ x19_2
     rotate_left
     ·rw [if_neg c6] at H
      exact absurd H (by simp)
     rw [if_pos c6] at H
     have c6b0 : decide (0 ≤ x19_2) = true := decide_eq_true c6
     clear c6
     by_cases c7 : x19_2 < ((rd_L7 l0 x13_1).length : Int)
     rotate_left
     ·rw [if_neg c7] at H
      exact absurd H (by simp)
     rw [if_pos c7] at H
     have c7b0 : decide (x19_2 < ((rd_L7 l0 x13_1).length : Int)) = true := decide_eq_true c7
     clear c7
     obtain ⟨y381, hy381⟩ : ∃ y_ : List (S24), y_ = (([(⟨(rd_T65 (rd_L7 l0 x13_1) x19_2).f0.f0, (rd_T65 (rd_L7 l0 x13_1) x19_2).f0.f1, (rd_T65 (rd_L7 l0 x13_1) x19_2).f0.f2⟩ : S24)] : List (S24))) := ⟨_, rfl⟩
     replace H : (if x3_2.length < 5864062014805 then ((some (x3_2 ++ [y381] : List (List (S24)))).bind fun y384 => (if ((rd_T65 (rd_L7 l0 x13_1) x19_2).f2 = true) then (r3_Points.l1 k2 y384 l0 (l0.length : Int) x13_1 (rd_L7 l0 x13_1) ((rd_L7 l0 x13_1).length : Int) (wrap64 (x19_2 + 1))) else (if y384.length < 5864062014805 then (r3_Points.l1 k2 (y384 ++ [(([(⟨(rd_T65 (rd_L7 l0 x13_1) x19_2).f1.f0, (rd_T65 (rd_L7 l0 x13_1) x19_2).f1.f1, (rd_T65 (rd_L7 l0 x13_1) x19_2).f1.f2⟩ : S24)] : List (S24)))]) l0 (l0.length : Int) x13_1 (rd_L7 l0 x13_1) ((rd_L7 l0 x13_1).length : Int) (wrap64 (x19_2 + 1))) else (none)))) else (none)) = some r := by first | (rw [hy381]; with_reducible exact H) | (have H2_ := (Option.bind_some _ _).symm.trans H; rw [hy381]; with_reducible exact H2_) | (have H2_ := (Option.bind_some _ _).symm.trans H; with_reducible exact H2_) | with_reducible exact H | (rw [hy381]; exact H) | exact H
     have Ny381 := Aside0.mk hy381
     clear hy381
     by_cases c8 : x3_2.length < 5864062014805
     rotate_left
     ·rw [if_neg c8] at H
      exact absurd H (by simp)
     rw [if_pos c8] at H
     have LMc8 := Aside0.mk c8
     clear c8
     obtain ⟨y384, hy384⟩ : ∃ y_ : List (List (S24)), y_ = (x3_2 ++ [y381]) := ⟨_, rfl⟩
     replace H : (if ((rd_T65 (rd_L7 l0 x13_1) x19_2).f2 = true) then (r3_Points.l1 k2 y384 l0 (l0.length : Int) x13_1 (rd_L7 l0 x13_1) ((rd_L7 l0 x13_1).length : Int) (wrap64 (x19_2 + 1))) else (if y384.length < 5864062014805 then (r3_Points.l1 k2 (y384 ++ [(([(⟨(rd_T65 (rd_L7 l0 x13_1) x19_2).f1.f0, (rd_T65 (rd_L7 l0 x13_1) x19_2).f1.f1, (rd_T65 (rd_L7 l0 x13_1) x19_2).f1.f2⟩ : S24)] : List (S24)))]) l0 (l0.length : Int) x13_1 (rd_L7 l0 x13_1) ((rd_L7 l0 x13_1).length : Int) (wrap64 (x19_2 + 1))) else (none))) = some r := by first | (rw [hy384]; with_reducible exact H) | (have H2_ := (Option.bind_some _ _).symm.trans H; rw [hy384]; with_reducible exact H2_) | (have H2_ := (Option.bind_some _ _).symm.trans H; with_reducible exact H2_) | with_reducible exact H | (rw [hy384]; exact H) | exact H
     have Ny384 := Aside0.mk hy384
     clear hy384
     obtain ⟨bq9, hbq9⟩ : ∃ b_ : Bool, b_ = ((rd_T65 (rd_L7 l0 x13_1) x19_2).f2) := ⟨_, rfl⟩
     replace H : (if (bq9 = true) then (r3_Points.l1 k2 y384 l0 (l0.length : Int) x13_1 (rd_L7 l0 x13_1) ((rd_L7 l0 x13_1).length : Int) (wrap64 (x19_2 + 1))) else (if y384.length < 5864062014805 then (r3_Points.l1 k2 (y384 ++ [(([(⟨(rd_T65 (rd_L7 l0 x13_1) x19_2).f1.f0, (rd_T65 (rd_L7 l0 x13_1) x19_2).f1.f1, (rd_T65 (rd_L7 l0 x13_1) x19_2).f1.f2⟩ : S24)] : List (S24)))]) l0 (l0.length : Int) x13_1 (rd_L7 l0 x13_1) ((rd_L7 l0 x13_1).length : Int) (wrap64 (x19_2 + 1))) else (none))) = some r := by rw [← hbq9] at H; exact H
     have Nbq9 := Aside0.mk hbq9
     clear hbq9
     by_cases c10 : (bq9 = true)
     rotate_left
     ·replace c10 := Bool.eq_false_iff.mpr c10
      subst c10
      rw [if_neg (show ¬ (false = true) by decide)] at H
      obtain ⟨y387, hy387⟩ : ∃ y_ : List (S24), y_ = (([(⟨(rd_T65 (rd_L7 l0 x13_1) x19_2).f1.f0, (rd_T65 (rd_L7 l0 x13_1) x19_2).f1.f1, (rd_T65 (rd_L7 l0 x13_1) x19_2).f1.f2⟩ : S24)] : List (S24))) := ⟨_, rfl⟩
      replace H : (if y384.length < 5864062014805 then (r3_Points.l1 k2 (y384 ++ [y387]) l0 (l0.length : Int) x13_1 (rd_L7 l0 x13_1) ((rd_L7 l0 x13_1).length : Int) (wrap64 (x19_2 + 1))) else (none)) = some r := by first | (rw [hy387]; with_reducible exact H) | (have H2_ := (Option.bind_some _ _).symm.trans H; rw [hy387]; with_reducible exact H2_) | (have H2_ := (Option.bind_some _ _).symm.trans H; with_reducible exact H2_) | with_reducible exact H | (rw [hy387]; exact H) | exact H
      have Ny387 := Aside0.mk hy387
      clear hy387
      by_cases c18 : y384.length < 5864062014805
      rotate_left
      ·rw [if_neg c18] at H
       exact absurd H (by simp)
      rw [if_pos c18] at H
      have LMc18 := Aside0.mk c18
      clear c18
      obtain ⟨y390, hy390⟩ : ∃ y_ : List (List (S24)), y_ = (y384 ++ [y387]) := ⟨_, rfl⟩
      replace H : (r3_Points.l1 k2 y390 l0 (l0.length : Int) x13_1 (rd_L7 l0 x13_1) ((rd_L7 l0 x13_1).length : Int) (wrap64 (x19_2 + 1))) = some r := by first | (rw [hy390]; with_reducible exact H) | (have H2_ := (Option.bind_some _ _).symm.trans H; rw [hy390]; with_reducible exact H2_) | (have H2_ := (Option.bind_some _ _).symm.trans H; with_reducible exact H2_) | with_reducible exact H | (rw [hy390]; exact H) | exact H
      have Ny390 := Aside0.mk hy390
      clear hy390
      have H' := Aside0.mk H
      clear H
      have p379 : 0 ≤ (x19_2 : Int) := of_decide_eq_true (aA)
      have q379 : x19_2 < ((rd_L7 l0 x13_1).length : Int) := of_decide_eq_true (aA)
      obtain ⟨ad379, e379, hx379_0, hx379_1, hx379_2, hx379_3, hx379_4, hx379_5, hx379_6⟩ := at_T65 HR378_0.out x19_2 p379 q379
      (try rw [← Nbq9.out] at hx379_6)
      cases e379
      replace hx379_0 := hW HB.out hx379_0
      replace hx379_1 := hW HB.out hx379_1
      replace hx379_2 := hW HB.out hx379_2
      replace hx379_3 := hW HB.out hx379_3
      replace hx379_4 := hW HB.out hx379_4
      replace hx379_5 := hW HB.out hx379_5
      replace hx379_6 := hW HB.out hx379_6
      replace p379 := eq_true p379
      replace q379 := eq_true q379
      go_wp2_with (first | ((with_reducible refine gate_dst (N := 7) rfl ?_); refine box_event ?hg (N := 7) ?hd (cs := #[.int .i64 0, .int .i64 0, .string (⟨#[]⟩ : ByteArray), .int .i64 0, .int .i64 0, .string (⟨#[]⟩ : ByteArray), .bool false]) (t := 65) ?hr ?_; (case hd => rfl); (case hg => rfl); (case hr => exact hR); intro gb380 hg w19 hbox hb; have n0_ := aK (Kd.S_below (by (with_reducible repeat (first | apply Kd.S_alloc | apply Kd.S_drewN | apply Kd.S_drew)); exact HO_3.out) hb); have n1_ := aK (below_step bO hb); have n2_ := aK (hbox); have n3_ := aK ((by rw [hg]; exact (below_size bO) : w.heap.size ≤ gb380)); have n4_ := aK ((by rw [hg]; exact (below_size bO) : w.heap.size ≤ gb380)); clear HO_3 HB; have HO_3 := n0_; have HB := n1_; have BK380 := n2_; have GW380 := n3_; have GE380 := n4_; clear n0_ n1_ n2_ n3_ n4_ hb hbox hg; obtain ⟨hcz20_0, hcz20_1, hcz20_2, hcz20_3, hcz20_4, hcz20_5, hcz20_6⟩ := z7 BK380.out (.int .i64 0) (.int .i64 0) (.string (⟨#[]⟩ : ByteArray)) (.int .i64 0) (.int .i64 0) (.string (⟨#[]⟩ : ByteArray)) (.bool false); obtain ⟨hfz20_0, hfz20_1, hfz20_2, hfz20_3, hfz20_4, hfz20_5, hfz20_6⟩ := f7 BK380.out) | ((with_reducible refine gate_dst (N := 26) rfl ?_); refine Kd.R_lit k24 _ 24 ?hg (N := 26) ?hd (xs := ([(⟨(rd_T65 (rd_L7 l0 x13_1) x19_2).f0.f0, (rd_T65 (rd_L7 l0 x13_1) x19_2).f0.f1, (rd_T65 (rd_L7 l0 x13_1) x19_2).f0.f2⟩ : S24)] : List (S24))) (inner := [.int .i64 ((rd_T65 (rd_L7 l0 x13_1) x19_2).f0.f0), .int .i64 ((rd_T65 (rd_L7 l0 x13_1) x19_2).f0.f1), .string ((rd_T65 (rd_L7 l0 x13_1) x19_2).f0.f2)]) (ok := fun _ => True) (okp := fun _ => True) ?hr ?hp (fun _ hk => hk) trivial (Below.refl _ _) (Nat.le_refl _) (by simp) ?_; (case hd => rfl); (case hg => rfl); (case hr => exact hR); (case hp => exact (Reps.c3 (show Kd.M k24 _ _ _ (⟨(rd_T65 (rd_L7 l0 x13_1) x19_2).f0.f0, (rd_T65 (rd_L7 l0 x13_1) x19_2).f0.f1, (rd_T65 (rd_L7 l0 x13_1) x19_2).f0.f2⟩ : S24) [.int .i64 ((rd_T65 (rd_L7 l0 x13_1) x19_2).f0.f0), .int .i64 ((rd_T65 (rd_L7 l0 x13_1) x19_2).f0.f1), .string ((rd_T65 (rd_L7 l0 x13_1) x19_2).f0.f2)] from (k24_mkM _ _ _ (⟨(rd_T65 (rd_L7 l0 x13_1) x19_2).f0.f0, (rd_T65 (rd_L7 l0 x13_1) x19_2).f0.f1, (rd_T65 (rd_L7 l0 x13_1) x19_2).f0.f2⟩ : S24) )) (Reps.none _ _))); intro v382 w21 ho22 hb hg_ hnew_; clear hg_ hnew_; (first | rw [← Ny381.out] at ho22 | (simp only [Int.reduceToNat] at ho22; rw [← Ny381.out] at ho22)); have n0_ := aK (Kd.S_elder' (by (with_reducible repeat (first | apply Kd.S_alloc | apply Kd.S_drewN | apply Kd.S_drew)); exact (Kd.S_mono (Kd.S_far (p := ⟨gb380, 6, none⟩) (Kd.S_far (p := ⟨gb380, 5, none⟩) (Kd.S_far (p := ⟨gb380, 4, none⟩) (Kd.S_far (p := ⟨gb380, 3, none⟩) (Kd.S_far (p := ⟨gb380, 2, none⟩) (Kd.S_far (p := ⟨gb380, 1, none⟩) (Kd.S_far (p := ⟨gb380, 0, none⟩) (Kd.S_types HO_3.out BK380.out (by decide)) (fun _ hk => hk.2) (.int .i64 ((rd_T65 (rd_L7 l0 x13_1) x19_2).f0.f0))) (fun _ hk => hk.2) (.int .i64 ((rd_T65 (rd_L7 l0 x13_1) x19_2).f0.f1))) (fun _ hk => hk.2) (.string ((rd_T65 (rd_L7 l0 x13_1) x19_2).f0.f2))) (fun _ hk => hk.2) (.int .i64 ((rd_T65 (rd_L7 l0 x13_1) x19_2).f1.f0))) (fun _ hk => hk.2) (.int .i64 ((rd_T65 (rd_L7 l0 x13_1) x19_2).f1.f1))) (fun _ hk => hk.2) (.string ((rd_T65 (rd_L7 l0 x13_1) x19_2).f1.f2))) (fun _ hk => hk.2) (.bool false)) (fun _ h_ => h_.1))) (Kd.R_base ho22) hb); have n1_ := aK (Kd.R_lower ho22 (below_size (bS GE380.out))); have n2_ := aK (blk_below (g := gb380) (o := .cells #[.int .i64 ((rd_T65 (rd_L7 l0 x13_1) x19_2).f0.f0), .int .i64 ((rd_T65 (rd_L7 l0 x13_1) x19_2).f0.f1), .string ((rd_T65 (rd_L7 l0 x13_1) x19_2).f0.f2), .int .i64 ((rd_T65 (rd_L7 l0 x13_1) x19_2).f1.f0), .int .i64 ((rd_T65 (rd_L7 l0 x13_1) x19_2).f1.f1), .string ((rd_T65 (rd_L7 l0 x13_1) x19_2).f1.f2), .bool false] 65 (0, 0)) (put7 BK380.out) hb); have n3_ := aK (below_step (bS GE380.out) hb); clear HO_3 BK380 HB; have HO_3 := n0_; have HO383 := n1_; have BK380 := n2_; have HB := n3_; clear n0_ n1_ n2_ n3_ hb ho22; obtain ⟨Ao24, co24, eo24⟩ := Kd.R_slice HO383.out; subst eo24) | ((with_reducible refine gate_builtin (b := .append) (xs := #[.tmp 23, .tmp 27]) rfl ?_); at_builtin; refine Kd.S_append (Kd.slice 24 k24) (w0 := w) w.heap.size rfl (.tmp 23) (.tmp 27) 55 54 (.slice none 0 0) 24 rfl Try.underlying55 info54 rfl (by decide) (by omega) u3 x3_2 y381 [.slice Ao24 y381.length co24] (fun _ => True) (fun k_ => some k_ = (.slice Ao24 y381.length co24 : Value).ownBlock) rfl rfl ?aP (fun k_ hk_ => ((Kd.R_mono (ok' := fun k_ => ((fun _ => True)) k_ ∧ some k_ ≠ (u3 : Value).ownBlock) (Kd.R_apart' (HO383.out) (Kd.S_typed HO_3.out) (by decide)) (fun k_ hk => ⟨trivial, hk.2⟩))).1 k_ hk_.symm) ?aF ?aO ?aB ?aS ?aL ?_; (case aP => exact Kd.M_row (Kd.R_mono (Kd.R_tight rfl (Kd.R_mono (ok' := fun k_ => ((fun _ => True)) k_ ∧ some k_ ≠ (u3 : Value).ownBlock) (Kd.R_apart' (HO383.out) (Kd.S_typed HO_3.out) (by decide)) (fun k_ hk => ⟨trivial, hk.2⟩))) (fun _ h_ => h_))); (case aB => exact (bS GE380.out)); (case aF => exact (fun _ _ => trivial)); (case aO => exact (by (with_reducible repeat (first | apply Kd.S_alloc | apply Kd.S_drewN | apply Kd.S_drew)); exact Kd.S_mono HO_3.out (fun k_ hk => ⟨trivial, fun e_ => hk.2 e_⟩))); (case aS => exact (below_size (bS GE380.out))); (case aL => have := LMc8.out; omega); intro v385 w23 ho hb hg hat; rw [← Ny384.out] at ho; have n0_ := aK (blk_grown (g := gb380) (o := .cells #[.int .i64 ((rd_T65 (rd_L7 l0 x13_1) x19_2).f0.f0), .int .i64 ((rd_T65 (rd_L7 l0 x13_1) x19_2).f0.f1), .string ((rd_T65 (rd_L7 l0 x13_1) x19_2).f0.f2), .int .i64 ((rd_T65 (rd_L7 l0 x13_1) x19_2).f1.f0), .int .i64 ((rd_T65 (rd_L7 l0 x13_1) x19_2).f1.f1), .string ((rd_T65 (rd_L7 l0 x13_1) x19_2).f1.f2), .bool false] 65 (0, 0)) (bX BK380.out) hg (Kd.S_ne HO_3.out BK380.out (by decide))); have n1_ := aK (hb); have n2_ := aK (ho); clear BK380 HB HO_3 HO383; have BK380 := n0_; have HB := n1_; have HO386 := n2_; clear n0_ n1_ n2_ ho hb hg hat; obtain ⟨hcz25_0, hcz25_1, hcz25_2, hcz25_3, hcz25_4, hcz25_5, hcz25_6⟩ := z7 BK380.out (.int .i64 ((rd_T65 (rd_L7 l0 x13_1) x19_2).f0.f0)) (.int .i64 ((rd_T65 (rd_L7 l0 x13_1) x19_2).f0.f1)) (.string ((rd_T65 (rd_L7 l0 x13_1) x19_2).f0.f2)) (.int .i64 ((rd_T65 (rd_L7 l0 x13_1) x19_2).f1.f0)) (.int .i64 ((rd_T65 (rd_L7 l0 x13_1) x19_2).f1.f1)) (.string ((rd_T65 (rd_L7 l0 x13_1) x19_2).f1.f2)) (.bool false); obtain ⟨hfz25_0, hfz25_1, hfz25_2, hfz25_3, hfz25_4, hfz25_5, hfz25_6⟩ := f7 BK380.out) | ((with_reducible refine gate_dst (N := 35) rfl ?_); refine Kd.R_lit k24 _ 24 ?hg (N := 35) ?hd (xs := ([(⟨(rd_T65 (rd_L7 l0 x13_1) x19_2).f1.f0, (rd_T65 (rd_L7 l0 x13_1) x19_2).f1.f1, (rd_T65 (rd_L7 l0 x13_1) x19_2).f1.f2⟩ : S24)] : List (S24))) (inner := [.int .i64 ((rd_T65 (rd_L7 l0 x13_1) x19_2).f1.f0), .int .i64 ((rd_T65 (rd_L7 l0 x13_1) x19_2).f1.f1), .string ((rd_T65 (rd_L7 l0 x13_1) x19_2).f1.f2)]) (ok := fun _ => True) (okp := fun _ => True) ?hr ?hp (fun _ hk => hk) trivial (Below.refl _ _) (Nat.le_refl _) (by simp) ?_; (case hd => rfl); (case hg => rfl); (case hr => exact hR); (case hp => exact (Reps.c3 (show Kd.M k24 _ _ _ (⟨(rd_T65 (rd_L7 l0 x13_1) x19_2).f1.f0, (rd_T65 (rd_L7 l0 x13_1) x19_2).f1.f1, (rd_T65 (rd_L7 l0 x13_1) x19_2).f1.f2⟩ : S24) [.int .i64 ((rd_T65 (rd_L7 l0 x13_1) x19_2).f1.f0), .int .i64 ((rd_T65 (rd_L7 l0 x13_1) x19_2).f1.f1), .string ((rd_T65 (rd_L7 l0 x13_1) x19_2).f1.f2)] from (k24_mkM _ _ _ (⟨(rd_T65 (rd_L7 l0 x13_1) x19_2).f1.f0, (rd_T65 (rd_L7 l0 x13_1) x19_2).f1.f1, (rd_T65 (rd_L7 l0 x13_1) x19_2).f1.f2⟩ : S24) )) (Reps.none _ _))); intro v388 w26 ho27 hb hg_ hnew_; clear hg_ hnew_; (first | rw [← Ny387.out] at ho27 | (simp only [Int.reduceToNat] at ho27; rw [← Ny387.out] at ho27)); have n0_ := aK (Kd.S_elder' (by (with_reducible repeat (first | apply Kd.S_alloc | apply Kd.S_drewN | apply Kd.S_drew)); exact HO386.out) (Kd.R_base ho27) hb); have n1_ := aK (Kd.R_lower ho27 (below_size (bS GE380.out))); have n2_ := aK (blk_below (bX BK380.out) hb); have n3_ := aK (below_step (bS GE380.out) hb); clear HO386 BK380 HB; have HO386 := n0_; have HO389 := n1_; have BK380 := n2_; have HB := n3_; clear n0_ n1_ n2_ n3_ hb ho27; obtain ⟨Ao29, co29, eo29⟩ := Kd.R_slice HO389.out; subst eo29) | ((with_reducible refine gate_builtin (b := .append) (xs := #[.tmp 32, .tmp 36]) rfl ?_); at_builtin; refine Kd.S_append (Kd.slice 24 k24) (w0 := w) w.heap.size rfl (.tmp 32) (.tmp 36) 55 54 (.slice none 0 0) 24 rfl Try.underlying55 info54 rfl (by decide) (by omega) v385 y384 y387 [.slice Ao29 y387.length co29] (fun _ => True) (fun k_ => some k_ = (.slice Ao29 y387.length co29 : Value).ownBlock) rfl rfl ?aP (fun k_ hk_ => ((Kd.R_mono (ok' := fun k_ => ((fun _ => True)) k_ ∧ some k_ ≠ (v385 : Value).ownBlock) (Kd.R_apart' (HO389.out) (Kd.S_typed HO386.out) (by decide)) (fun k_ hk => ⟨trivial, hk.2⟩))).1 k_ hk_.symm) ?aF ?aO ?aB ?aS ?aL ?_; (case aP => exact Kd.M_row (Kd.R_mono (Kd.R_tight rfl (Kd.R_mono (ok' := fun k_ => ((fun _ => True)) k_ ∧ some k_ ≠ (v385 : Value).ownBlock) (Kd.R_apart' (HO389.out) (Kd.S_typed HO386.out) (by decide)) (fun k_ hk => ⟨trivial, hk.2⟩))) (fun _ h_ => h_))); (case aB => exact (bS GE380.out)); (case aF => exact (fun _ _ => trivial)); (case aO => exact (by (with_reducible repeat (first | apply Kd.S_alloc | apply Kd.S_drewN | apply Kd.S_drew)); exact Kd.S_mono HO386.out (fun k_ hk => ⟨trivial, fun e_ => hk.2 e_⟩))); (case aS => exact (below_size (bS GE380.out))); (case aL => have := LMc18.out; omega); intro v391 w28 ho hb hg hat; rw [← Ny390.out] at ho; have n0_ := aK (blk_grown (g := gb380) (o := .cells #[.int .i64 ((rd_T65 (rd_L7 l0 x13_1) x19_2).f0.f0), .int .i64 ((rd_T65 (rd_L7 l0 x13_1) x19_2).f0.f1), .string ((rd_T65 (rd_L7 l0 x13_1) x19_2).f0.f2), .int .i64 ((rd_T65 (rd_L7 l0 x13_1) x19_2).f1.f0), .int .i64 ((rd_T65 (rd_L7 l0 x13_1) x19_2).f1.f1), .string ((rd_T65 (rd_L7 l0 x13_1) x19_2).f1.f2), .bool false] 65 (0, 0)) (bX BK380.out) hg (Kd.S_ne HO386.out BK380.out (by decide))); have n1_ := aK (hb); have n2_ := aK (ho); clear BK380 HB HO386 HO389; have BK380 := n0_; have HB := n1_; have HO392 := n2_; clear n0_ n1_ n2_ ho hb hg hat))
      go_roundg k2
      case measure => have := HK1.out; have := HK2.out; omega
      case rel => exact ⟨(y390), (wrap64 (x19_2 + 1)), (by first | rfl | (simp; done) | (simp [*]; done)), H', ⟨by have := HK1.out; have := HK2.out; omega⟩, ⟨by (with_reducible repeat (first | apply Kd.S_alloc | apply Kd.S_drewN | apply Kd.S_drew)); exact HO392.out⟩, ⟨bS GE380.out⟩⟩
     subst c10
     rw [if_pos rfl] at H
     have H' := Aside0.mk H
     clear H
     have p379 : 0 ≤ (x19_2 : Int) := of_decide_eq_true (aA)
     have q379 : x19_2 < ((rd_L7 l0 x13_1).length : Int) := of_decide_eq_true (aA)
     obtain ⟨ad379, e379, hx379_0, hx379_1, hx379_2, hx379_3, hx379_4, hx379_5, hx379_6⟩ := at_T65 HR378_0.out x19_2 p379 q379
     (try rw [← Nbq9.out] at hx379_6)
     cases e379
     replace hx379_0 := hW HB.out hx379_0
     replace hx379_1 := hW HB.out hx379_1
     replace hx379_2 := hW HB.out hx379_2
     replace hx379_3 := hW HB.out hx379_3
     replace hx379_4 := hW HB.out hx379_4
     replace hx379_5 := hW HB.out hx379_5
     replace hx379_6 := hW HB.out hx379_6
     replace p379 := eq_true p379
     replace q379 := eq_true q379
     go_wp2_with (first | ((with_reducible refine gate_dst (N := 7) rfl ?_); refine box_event ?hg (N := 7) ?hd (cs := #[.int .i64 0, .int .i64 0, .string (⟨#[]⟩ : ByteArray), .int .i64 0, .int .i64 0, .string (⟨#[]⟩ : ByteArray), .bool false]) (t := 65) ?hr ?_; (case hd => rfl); (case hg => rfl); (case hr => exact hR); intro gb380 hg w11 hbox hb; have n0_ := aK (Kd.S_below (by (with_reducible repeat (first | apply Kd.S_alloc | apply Kd.S_drewN | apply Kd.S_drew)); exact HO_3.out) hb); have n1_ := aK (below_step bO hb); have n2_ := aK (hbox); have n3_ := aK ((by rw [hg]; exact (below_size bO) : w.heap.size ≤ gb380)); have n4_ := aK ((by rw [hg]; exact (below_size bO) : w.heap.size ≤ gb380)); clear HO_3 HB; have HO_3 := n0_; have HB := n1_; have BK380 := n2_; have GW380 := n3_; have GE380 := n4_; clear n0_ n1_ n2_ n3_ n4_ hb hbox hg; obtain ⟨hcz12_0, hcz12_1, hcz12_2, hcz12_3, hcz12_4, hcz12_5, hcz12_6⟩ := z7 BK380.out (.int .i64 0) (.int .i64 0) (.string (⟨#[]⟩ : ByteArray)) (.int .i64 0) (.int .i64 0) (.string (⟨#[]⟩ : ByteArray)) (.bool false); obtain ⟨hfz12_0, hfz12_1, hfz12_2, hfz12_3, hfz12_4, hfz12_5, hfz12_6⟩ := f7 BK380.out) | ((with_reducible refine gate_dst (N := 26) rfl ?_); refine Kd.R_lit k24 _ 24 ?hg (N := 26) ?hd (xs := ([(⟨(rd_T65 (rd_L7 l0 x13_1) x19_2).f0.f0, (rd_T65 (rd_L7 l0 x13_1) x19_2).f0.f1, (rd_T65 (rd_L7 l0 x13_1) x19_2).f0.f2⟩ : S24)] : List (S24))) (inner := [.int .i64 ((rd_T65 (rd_L7 l0 x13_1) x19_2).f0.f0), .int .i64 ((rd_T65 (rd_L7 l0 x13_1) x19_2).f0.f1), .string ((rd_T65 (rd_L7 l0 x13_1) x19_2).f0.f2)]) (ok := fun _ => True) (okp := fun _ => True) ?hr ?hp (fun _ hk => hk) trivial (Below.refl _ _) (Nat.le_refl _) (by simp) ?_; (case hd => rfl); (case hg => rfl); (case hr => exact hR); (case hp => exact (Reps.c3 (show Kd.M k24 _ _ _ (⟨(rd_T65 (rd_L7 l0 x13_1) x19_2).f0.f0, (rd_T65 (rd_L7 l0 x13_1) x19_2).f0.f1, (rd_T65 (rd_L7 l0 x13_1) x19_2).f0.f2⟩ : S24) [.int .i64 ((rd_T65 (rd_L7 l0 x13_1) x19_2).f0.f0), .int .i64 ((rd_T65 (rd_L7 l0 x13_1) x19_2).f0.f1), .string ((rd_T65 (rd_L7 l0 x13_1) x19_2).f0.f2)] from (k24_mkM _ _ _ (⟨(rd_T65 (rd_L7 l0 x13_1) x19_2).f0.f0, (rd_T65 (rd_L7 l0 x13_1) x19_2).f0.f1, (rd_T65 (rd_L7 l0 x13_1) x19_2).f0.f2⟩ : S24) )) (Reps.none _ _))); intro v382 w13 ho14 hb hg_ hnew_; clear hg_ hnew_; (first | rw [← Ny381.out] at ho14 | (simp only [Int.reduceToNat] at ho14; rw [← Ny381.out] at ho14)); have n0_ := aK (Kd.S_elder' (by (with_reducible repeat (first | apply Kd.S_alloc | apply Kd.S_drewN | apply Kd.S_drew)); exact (Kd.S_mono (Kd.S_far (p := ⟨gb380, 6, none⟩) (Kd.S_far (p := ⟨gb380, 5, none⟩) (Kd.S_far (p := ⟨gb380, 4, none⟩) (Kd.S_far (p := ⟨gb380, 3, none⟩) (Kd.S_far (p := ⟨gb380, 2, none⟩) (Kd.S_far (p := ⟨gb380, 1, none⟩) (Kd.S_far (p := ⟨gb380, 0, none⟩) (Kd.S_types HO_3.out BK380.out (by decide)) (fun _ hk => hk.2) (.int .i64 ((rd_T65 (rd_L7 l0 x13_1) x19_2).f0.f0))) (fun _ hk => hk.2) (.int .i64 ((rd_T65 (rd_L7 l0 x13_1) x19_2).f0.f1))) (fun _ hk => hk.2) (.string ((rd_T65 (rd_L7 l0 x13_1) x19_2).f0.f2))) (fun _ hk => hk.2) (.int .i64 ((rd_T65 (rd_L7 l0 x13_1) x19_2).f1.f0))) (fun _ hk => hk.2) (.int .i64 ((rd_T65 (rd_L7 l0 x13_1) x19_2).f1.f1))) (fun _ hk => hk.2) (.string ((rd_T65 (rd_L7 l0 x13_1) x19_2).f1.f2))) (fun _ hk => hk.2) (.bool true)) (fun _ h_ => h_.1))) (Kd.R_base ho14) hb); have n1_ := aK (Kd.R_lower ho14 (below_size (bS GE380.out))); have n2_ := aK (blk_below (g := gb380) (o := .cells #[.int .i64 ((rd_T65 (rd_L7 l0 x13_1) x19_2).f0.f0), .int .i64 ((rd_T65 (rd_L7 l0 x13_1) x19_2).f0.f1), .string ((rd_T65 (rd_L7 l0 x13_1) x19_2).f0.f2), .int .i64 ((rd_T65 (rd_L7 l0 x13_1) x19_2).f1.f0), .int .i64 ((rd_T65 (rd_L7 l0 x13_1) x19_2).f1.f1), .string ((rd_T65 (rd_L7 l0 x13_1) x19_2).f1.f2), .bool true] 65 (0, 0)) (put7 BK380.out) hb); have n3_ := aK (below_step (bS GE380.out) hb); clear HO_3 BK380 HB; have HO_3 := n0_; have HO383 := n1_; have BK380 := n2_; have HB := n3_; clear n0_ n1_ n2_ n3_ hb ho14; obtain ⟨Ao16, co16, eo16⟩ := Kd.R_slice HO383.out; subst eo16) | ((with_reducible refine gate_builtin (b := .append) (xs := #[.tmp 23, .tmp 27]) rfl ?_); at_builtin; refine Kd.S_append (Kd.slice 24 k24) (w0 := w) w.heap.size rfl (.tmp 23) (.tmp 27) 55 54 (.slice none 0 0) 24 rfl Try.underlying55 info54 rfl (by decide) (by omega) u3 x3_2 y381 [.slice Ao16 y381.length co16] (fun _ => True) (fun k_ => some k_ = (.slice Ao16 y381.length co16 : Value).ownBlock) rfl rfl ?aP (fun k_ hk_ => ((Kd.R_mono (ok' := fun k_ => ((fun _ => True)) k_ ∧ some k_ ≠ (u3 : Value).ownBlock) (Kd.R_apart' (HO383.out) (Kd.S_typed HO_3.out) (by decide)) (fun k_ hk => ⟨trivial, hk.2⟩))).1 k_ hk_.symm) ?aF ?aO ?aB ?aS ?aL ?_; (case aP => exact Kd.M_row (Kd.R_mono (Kd.R_tight rfl (Kd.R_mono (ok' := fun k_ => ((fun _ => True)) k_ ∧ some k_ ≠ (u3 : Value).ownBlock) (Kd.R_apart' (HO383.out) (Kd.S_typed HO_3.out) (by decide)) (fun k_ hk => ⟨trivial, hk.2⟩))) (fun _ h_ => h_))); (case aB => exact (bS GE380.out)); (case aF => exact (fun _ _ => trivial)); (case aO => exact (by (with_reducible repeat (first | apply Kd.S_alloc | apply Kd.S_drewN | apply Kd.S_drew)); exact Kd.S_mono HO_3.out (fun k_ hk => ⟨trivial, fun e_ => hk.2 e_⟩))); (case aS => exact (below_size (bS GE380.out))); (case aL => have := LMc8.out; omega); intro v385 w15 ho hb hg hat; rw [← Ny384.out] at ho; have n0_ := aK (blk_grown (g := gb380) (o := .cells #[.int .i64 ((rd_T65 (rd_L7 l0 x13_1) x19_2).f0.f0), .int .i64 ((rd_T65 (rd_L7 l0 x13_1) x19_2).f0.f1), .string ((rd_T65 (rd_L7 l0 x13_1) x19_2).f0.f2), .int .i64 ((rd_T65 (rd_L7 l0 x13_1) x19_2).f1.f0), .int .i64 ((rd_T65 (rd_L7 l0 x13_1) x19_2).f1.f1), .string ((rd_T65 (rd_L7 l0 x13_1) x19_2).f1.f2), .bool true] 65 (0, 0)) (bX BK380.out) hg (Kd.S_ne HO_3.out BK380.out (by decide))); have n1_ := aK (hb); have n2_ := aK (ho); clear BK380 HB HO_3 HO383; have BK380 := n0_; have HB := n1_; have HO386 := n2_; clear n0_ n1_ n2_ ho hb hg hat; obtain ⟨hcz17_0, hcz17_1, hcz17_2, hcz17_3, hcz17_4, hcz17_5, hcz17_6⟩ := z7 BK380.out (.int .i64 ((rd_T65 (rd_L7 l0 x13_1) x19_2).f0.f0)) (.int .i64 ((rd_T65 (rd_L7 l0 x13_1) x19_2).f0.f1)) (.string ((rd_T65 (rd_L7 l0 x13_1) x19_2).f0.f2)) (.int .i64 ((rd_T65 (rd_L7 l0 x13_1) x19_2).f1.f0)) (.int .i64 ((rd_T65 (rd_L7 l0 x13_1) x19_2).f1.f1)) (.string ((rd_T65 (rd_L7 l0 x13_1) x19_2).f1.f2)) (.bool true); obtain ⟨hfz17_0, hfz17_1, hfz17_2, hfz17_3, hfz17_4, hfz17_5, hfz17_6⟩ := f7 BK380.out))
     go_roundg k2
     case measure => have := HK1.out; have := HK2.out; omega
     case rel => exact ⟨(y384), (wrap64 (x19_2 + 1)), (by first | rfl | (simp; done) | (simp [*]; done)), H', ⟨by have := HK1.out; have := HK2.out; omega⟩, ⟨by (with_reducible repeat (first | apply Kd.S_alloc | apply Kd.S_drewN | apply Kd.S_drew)); exact HO386.out⟩, ⟨bS GE380.out⟩⟩
def r3_Apply.f (a0 : Int) (a1 : Bool) (a2 : Bool) : Option (Bool) := if a0 = 1 then (if a1 = true then (some true) else (some a2)) else (if a0 = 2 then (if a1 = true then (some a2) else (some false)) else (if a1 = true then (some (!a2)) else (some false)))
set_option maxHeartbeats 8000000 in
set_option maxRecDepth 100000 in
theorem r3_Apply.calls (a0 : Int) (a1 : Bool) (a2 : Bool) (r : Bool) (w : World) (h : r3_Apply.f a0 a1 a2 = some r) :
  Calls Try.prog 97 #[.int .i64 a0, .bool a1, .bool a2] w fun e w' => e = .returned (.bool r) ∧ Drawn0 w w' := by
 have H : (if a0 = 1 then (if a1 = true then (some true) else (some a2)) else (if a0 = 2 then (if a1 = true then (some a2) else (some false)) else (if a1 = true then (some (!a2)) else (some false)))) = some r := h
 clear h
 by_cases c4 : a0 = 1
 rotate_left
 ·rw [if_neg c4] at H
  have c4b0 : (a0 == 1) = false := beq_eq_false_iff_ne.mpr c4
  have c4b1 : (a0 != 1) = true := bne_iff_ne.mpr c4
  by_cases c6 : a0 = 2
  rotate_left
  ·rw [if_neg c6] at H
   have c6b0 : (a0 == 2) = false := beq_eq_false_iff_ne.mpr c6
   have c6b1 : (a0 != 2) = true := bne_iff_ne.mpr c6
   by_cases c8 : a1 = true
   rotate_left
   ·replace c8 := Bool.eq_false_iff.mpr c8
    subst c8
    rw [if_neg (show ¬ (false = true) by decide)] at H
    obtain rfl := Option.some.inj H
    go_enter Try.func97, Try.ntmps97
    go_wp2
    go_ret
    exact ⟨by first | rfl | (simp; done) | (simp [*]; done), by repeat (first | exact Drawn0.refl _ | apply Drawn0.step)⟩
   subst c8
   rw [if_pos rfl] at H
   obtain rfl := Option.some.inj H
   go_enter Try.func97, Try.ntmps97
   go_wp2
   go_ret
   exact ⟨by first | rfl | (simp; done) | (simp [*]; done), by repeat (first | exact Drawn0.refl _ | apply Drawn0.step)⟩
  rw [if_pos c6] at H
  have c6b0 : (a0 == 2) = true := beq_iff_eq.mpr c6
  have c6b1 : (a0 != 2) = false := bne_eq_false_iff_eq.mpr c6
  clear c6
  by_cases c7 : a1 = true
  rotate_left
  ·replace c7 := Bool.eq_false_iff.mpr c7
   subst c7
   rw [if_neg (show ¬ (false = true) by decide)] at H
   obtain rfl := Option.some.inj H
   go_enter Try.func97, Try.ntmps97
   go_wp2
   go_ret
   exact ⟨by first | rfl | (simp; done) | (simp [*]; done), by repeat (first | exact Drawn0.refl _ | apply Drawn0.step)⟩
  subst c7
  rw [if_pos rfl] at H
  obtain rfl := Option.some.inj H
  go_enter Try.func97, Try.ntmps97
  go_wp2
  go_ret
  exact ⟨by first | rfl | (simp; done) | (simp [*]; done), by repeat (first | exact Drawn0.refl _ | apply Drawn0.step)⟩
 rw [if_pos c4] at H
 have c4b0 : (a0 == 1) = true := beq_iff_eq.mpr c4
 have c4b1 : (a0 != 1) = false := bne_eq_false_iff_eq.mpr c4
 clear c4
 by_cases c5 : a1 = true
 rotate_left
 ·replace c5 := Bool.eq_false_iff.mpr c5
  subst c5
  rw [if_neg (show ¬ (false = true) by decide)] at H
  obtain rfl := Option.some.inj H
  go_enter Try.func97, Try.ntmps97
  go_wp2
  go_ret
  exact ⟨by first | rfl | (simp; done) | (simp [*]; done), by repeat (first | exact Drawn0.refl _ | apply Drawn0.step)⟩
 subst c5
 rw [if_pos rfl] at H
 obtain rfl := Option.some.inj H
 go_enter Try.func97, Try.ntmps97
 go_wp2
 go_ret
 exact ⟨by first | rfl | (simp; done) | (simp [*]; done), by repeat (first | exact Drawn0.refl _ | apply Drawn0.step)⟩
theorem join_stores {W : World} {base : Nat} {ok : Nat → Prop} {g n cap : Nat} {xs : List S65} (h : Kd.R k65 65 W base ok (.slice (some ⟨g, 0, none⟩) n cap) xs) (i : Int) (h0 : 0 ≤ i) (h1 : i < n) (y : S24) (b : Bool) :
  Kd.R k65 65 ((((W.setCell ⟨g, i.toNat * 7 + 3, none⟩ (.int .i64 y.f0)).setCell ⟨g, i.toNat * 7 + 3 + 1, none⟩ (.int .i64 y.f1)).setCell ⟨g, i.toNat * 7 + 3 + 2, none⟩ (.string y.f2)).setCell ⟨g, i.toNat * 7 + 6, none⟩ (.bool b)) base ok (.slice (some ⟨g, 0, none⟩) n cap) (xs.set i.toNat ⟨(rd_T65 xs i).f0, y, b⟩) := by
 obtain ⟨c, hcl, hM, hcc, _⟩ := Kd.R_elem h z65 i h0 h1
 obtain rfl := k65_openM hM
 have h2 := (Kd.R_seg h i h0 h1 (seg := [.int .i64 y.f0, .int .i64 y.f1, .string y.f2]) (j := 3) hcl hcc (show 6 ≤ 7 by decide) (x' := ⟨(rd_T65 xs i).f0, y, (rd_T65 xs i).f2⟩) (k65_mkM _ _ (fun k => ok k ∧ k ≠ g) ⟨(rd_T65 xs i).f0, y, (rd_T65 xs i).f2⟩) (fun _ hk => hk)).1
 obtain ⟨c, hcl2, hM2, hcc2, _⟩ := Kd.R_elem h2 z65 i h0 h1
 have hlen : i.toNat < xs.length := by have := (Kd.R_reads' h).1; omega
 have hget : (xs.set i.toNat ⟨(rd_T65 xs i).f0, y, (rd_T65 xs i).f2⟩).getD i.toNat z65 = ⟨(rd_T65 xs i).f0, y, (rd_T65 xs i).f2⟩ := by
  rw [List.getD_eq_getElem?_getD, List.getElem?_set_self hlen]
  rfl
 rw [hget] at hM2
 obtain rfl := k65_openM hM2
 have h3 := (Kd.R_seg h2 i h0 h1 (seg := [.bool b]) (j := 6) hcl2 hcc2 (show 7 ≤ 7 by decide) (x' := ⟨(rd_T65 xs i).f0, y, b⟩) (k65_mkM _ _ (fun k => ok k ∧ k ≠ g) ⟨(rd_T65 xs i).f0, y, b⟩) (fun _ hk => hk)).1
 rw [List.set_set] at h3
 exact h3
end Go.Proofs.Ytpjcdacnhalclaa.Q
