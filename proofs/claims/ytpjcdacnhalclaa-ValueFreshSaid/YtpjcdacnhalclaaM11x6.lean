/- A part of a proof: facts of functions that the law calls; conditions stand in each. -/
import Derived.Test.YtpjcdacnhalclaaM11x2
import Derived.Test.YtpjcdacnhalclaaM11x5
import Derived.Shelf.SlSortCmp.Whole1
import Derived.Sort.Walk0
import Derived.Lib.Bytes
import Derived.Shelf.SlSortCmp.WholeK
import Derived.Laws.CopyOwn
import Derived.Lib.SlBuf
import Derived.Test.YtpjcdacnhalclaaM11x4
set_option linter.unusedVariables false
set_option linter.unusedSimpArgs false
namespace Go.Proofs.Ytpjcdacnhalclaa.Q
open Go.RowKit Go.Proofs.YtpjcdacnhalclaaW.PrintWords Go.Proofs.YtpjcdacnhalclaaW.PrintLast Go.Proofs.YtpjcdacnhalclaaW.PrintMore
attribute [local go_sem] max2_int min2_int max_two min_two max_three min_three max_four min_four
mutual
def v_CompareRows.l0 : Nat → List (S24) → List (S24) → Int → Option (Int)
 | 0, _, _, _ => none
 | k + 1, x0, x1, x5 => if x5 < (x0.length : Int) then (v_CompareRows.j1 k x0 x1 x5 (decide (x5 < (x1.length : Int)))) else (v_CompareRows.j1 k x0 x1 x5 false)
def v_CompareRows.j1 : Nat → List (S24) → List (S24) → Int → Bool → Option (Int)
 | 0, _, _, _, _ => none
 | k + 1, x0, x1, x5, x16 => if x16 = true then (if 0 ≤ x5 then (if x5 < (x0.length : Int) then (if x5 < (x1.length : Int) then ((v_Compare.f ((rd_T24 x0 x5).f0) ((rd_T24 x0 x5).f1) ((rd_T24 x0 x5).f2) ((rd_T24 x1 x5).f0) ((rd_T24 x1 x5).f1) ((rd_T24 x1 x5).f2)).bind fun t155 => (if t155 = 0 then (v_CompareRows.l0 k x0 x1 (wrap64 (x5 + 1))) else (some t155))) else (none)) else (none)) else (none)) else (if (x0.length : Int) < (x1.length : Int) then (some (-1)) else (if (x0.length : Int) > (x1.length : Int) then (some 1) else (some 0)))
end
def v_CompareRows.f (k : Nat) (l0 : List (S24)) (l1 : List (S24)) : Option (Int) := v_CompareRows.l0 k l0 l1 0
theorem v_CompareRows.mono_l : ∀ k, (∀ y0 y1 y2, LeO (v_CompareRows.l0 k y0 y1 y2) (v_CompareRows.l0 (k + 1) y0 y1 y2)) ∧ (∀ y0 y1 y2 y3, LeO (v_CompareRows.j1 k y0 y1 y2 y3) (v_CompareRows.j1 (k + 1) y0 y1 y2 y3))
 | 0 => ⟨fun _ _ _ r h => by simp [v_CompareRows.l0] at h, fun _ _ _ _ r h => by simp [v_CompareRows.j1] at h⟩
 | k + 1 => by
  obtain ⟨ih0, ih1⟩ := v_CompareRows.mono_l k
  refine ⟨?_, ?_⟩
  ·intro y0 y1 y2
   unfold v_CompareRows.l0
   repeat' first
   | (with_reducible exact ih0 _ _ _)
   | (with_reducible exact ih1 _ _ _ _)
   | (with_reducible exact LeO.refl _)
   | (with_reducible exact LeO.none _)
   | (with_reducible refine LeO.ite ?_ ?_)
   | (with_reducible refine LeO.bind ?_ (fun _ => ?_))
   | exact ih0 _ _ _
   | exact ih1 _ _ _ _
   | exact LeO.none _
   | refine LeO.ite ?_ ?_
   | refine LeO.bind ?_ (fun _ => ?_)
  ·intro y0 y1 y2 y3
   unfold v_CompareRows.j1
   repeat' first
   | (with_reducible exact ih0 _ _ _)
   | (with_reducible exact ih1 _ _ _ _)
   | (with_reducible exact LeO.refl _)
   | (with_reducible exact LeO.none _)
   | (with_reducible refine LeO.ite ?_ ?_)
   | (with_reducible refine LeO.bind ?_ (fun _ => ?_))
   | exact ih0 _ _ _
   | exact ih1 _ _ _ _
   | exact LeO.none _
   | refine LeO.ite ?_ ?_
   | refine LeO.bind ?_ (fun _ => ?_)
theorem v_CompareRows.mono : ∀ a0 a1 k, LeO (v_CompareRows.f k a0 a1) (v_CompareRows.f (k + 1) a0 a1) := by
 intro a0 a1 k
 obtain ⟨ih0, ih1⟩ := v_CompareRows.mono_l k
 unfold v_CompareRows.f
 repeat' first
   | (with_reducible exact ih0 _ _ _)
   | (with_reducible exact ih1 _ _ _ _)
   | (with_reducible exact LeO.refl _)
   | (with_reducible exact LeO.none _)
   | (with_reducible refine LeO.ite ?_ ?_)
   | (with_reducible refine LeO.bind ?_ (fun _ => ?_))
   | exact ih0 _ _ _
   | exact ih1 _ _ _ _
   | exact LeO.none _
   | refine LeO.ite ?_ ?_
   | refine LeO.bind ?_ (fun _ => ?_)
def v_CompareRows.T4 : Bool × List (List Nat × List Nat) := (true, [([], []), ([], []), ([0, 1], [0, 1]), ([2], [2]), ([], []), ([], []), ([4, 5], [4, 5]), ([6], [6]), ([3, 7], [3, 7]), ([8, 8, 0, 1, 2, 3, 4, 5, 6, 7, 8], [8])])
def v_CompareRows.B4 : List Nat := [0, 0, 3, 7, 0, 0, 48, 112, 255, 511]
theorem v_CompareRows.tab4 : rtab .any (opsOf Try.f52 4) = v_CompareRows.T4 := by kernel_rfl
theorem v_CompareRows.bits4 : waitsOk v_CompareRows.T4.2 v_CompareRows.B4 = true := by kernel_rfl
set_option maxHeartbeats 8000000 in
set_option maxRecDepth 100000 in
theorem v_CompareRows.callsG (k : Nat) (A0 : Option Addr) (c0 : Nat) (l0 : List (S24)) (A1 : Option Addr) (c1 : Nat) (l1 : List (S24)) (r : Int) (w : World) (hr0 : Kd.C k24 w A0 l0.length l0) (hc0 : l0.length ≤ c0) (hr1 : Kd.C k24 w A1 l1.length l1) (hc1 : l1.length ≤ c1) (h : v_CompareRows.f k l0 l1 = some r) :
  Calls Try.prog 52 #[.slice A0 l0.length c0, .slice A1 l1.length c1] w fun e w' => e = .returned (.int .i64 r) ∧ BG w.heap.size w w' := by
 have hu24 := Try.underlying24
 have HR0 := Aside0.mk hr0
 have HC0 := Aside0.mk hc0
 clear hr0 hc0
 have HR1 := Aside0.mk hr1
 have HC1 := Aside0.mk hc1
 clear hr1 hc1
 have HB := aK (BG.refl w.heap.size w)
 have H : (v_CompareRows.l0 k l0 l1 0) = some r := h
 clear h
 have H' := Aside0.mk H
 clear H
 go_enter Try.func52, Try.ntmps52
 go_wp2
 go_loopg [5] k (fun kq v5 w' => ∃ (x5_1 : Int), v5 = .int .i64 x5_1 ∧ Aside0 (v_CompareRows.l0 kq l0 l1 x5_1 = some r) ∧ Aside0 (kq ≤ k) ∧ Aside0 (BG w.heap.size w w'))
 case atStart => exact ⟨(0), (by first | rfl | (simp; done) | (simp [*]; done)), H', ⟨Nat.le_refl _⟩, ⟨by repeat (first | (with_reducible first | exact HB.out | apply bg_alloc | apply bg_drewN | apply bg_drew1) | exact HB.out)⟩⟩
 case round =>
  clear H'
  try clear c1
  try clear p2
  obtain ⟨x5_1, rfl, HA, HK1, HB⟩ := hrel
  cases gk with
  | zero => exact absurd HA.out (by simp [v_CompareRows.l0])
  | succ k1 =>
   have H := HA.out
   clear HA
   simp only [v_CompareRows.l0] at H
   have HC3 := Aside0.mk H
   clear H
   go_upto_region 2 with (fail)
   go_cut [16] (fun v16 wc => ∃ (kq : Nat) (x16_2 : Bool), v16 = .bool x16_2 ∧ Aside0 (v_CompareRows.j1 kq l0 l1 x5_1 x16_2 = some r) ∧ Aside0 (kq ≤ k1) ∧ Aside0 (BG w.heap.size w wc))
   case first =>
    have H := HC3.out
    clear HC3
    by_cases c4 : x5_1 < (l0.length : Int)
    rotate_left
    ·rw [if_neg c4] at H
     have c4b0 : decide (x5_1 < (l0.length : Int)) = false := decide_eq_false c4
     clear c4
     (first | rw [c4b0] | (simp only [i64_w, i32_w]; rw [c4b0]) | skip)
     have H' := Aside0.mk H
     clear H
     go_wp2
     go_meet
     case rel => exact ⟨_, (false), (by first | rfl | (simp; done) | (simp [*]; done)), H', ⟨by have := HK1.out; first | omega | exact Nat.le_refl _⟩, ⟨by repeat (first | (with_reducible first | exact HB.out | apply bg_alloc | apply bg_drewN | apply bg_drew1) | exact HB.out)⟩⟩
    rw [if_pos c4] at H
    have c4b0 : decide (x5_1 < (l0.length : Int)) = true := decide_eq_true c4
    clear c4
    (first | rw [c4b0] | (simp only [i64_w, i32_w]; rw [c4b0]) | skip)
    have H' := Aside0.mk H
    clear H
    go_wp2
    go_meet
    case rel => exact ⟨_, (decide (x5_1 < (l1.length : Int))), (by first | rfl | (simp; done) | (simp [*]; done)), H', ⟨by have := HK1.out; first | omega | exact Nat.le_refl _⟩, ⟨by repeat (first | (with_reducible first | exact HB.out | apply bg_alloc | apply bg_drewN | apply bg_drew1) | exact HB.out)⟩⟩
   case rest =>
    clear HC3
    try clear c1
    try clear p2
    try clear c4
    try clear c4b0
    try clear p2
    obtain ⟨kq, x16_2, rfl, HA, HJ2, HB⟩ := hcut
    cases kq with
    | zero => exact absurd HA.out (by simp [v_CompareRows.j1])
    | succ kj2 =>
     have H := HA.out
     clear HA
     simp only [v_CompareRows.j1] at H
     by_cases c5 : x16_2 = true
     rotate_left
     ·replace c5 := Bool.eq_false_iff.mpr c5
      subst c5
      rw [if_neg (show ¬ (false = true) by decide)] at H
      by_cases c15 : (l0.length : Int) < (l1.length : Int)
      rotate_left
      ·rw [if_neg c15] at H
       have c15b0 : decide ((l0.length : Int) < (l1.length : Int)) = false := decide_eq_false c15
       have c15b1 : decide (l0.length < l1.length) = false := decide_eq_false (fun h => c15 (Int.ofNat_lt.mpr h))
       clear c15
       by_cases c16 : (l0.length : Int) > (l1.length : Int)
       rotate_left
       ·rw [if_neg c16] at H
        have c16b0 : decide ((l1.length : Int) < (l0.length : Int)) = false := decide_eq_false c16
        have c16b1 : decide (l1.length < l0.length) = false := decide_eq_false (fun h => c16 (Int.ofNat_lt.mpr h))
        clear c16
        obtain rfl := Option.some.inj H
        go_wp2
        go_ret
        exact ⟨eW, by repeat (first | (with_reducible first | exact HB.out | apply bg_alloc | apply bg_drewN | apply bg_drew1) | exact HB.out)⟩
       rw [if_pos c16] at H
       have c16b0 : decide ((l1.length : Int) < (l0.length : Int)) = true := decide_eq_true c16
       have c16b1 : decide (l1.length < l0.length) = true := decide_eq_true (Int.ofNat_lt.mp c16)
       clear c16
       obtain rfl := Option.some.inj H
       go_wp2
       go_ret
       exact ⟨eW, by repeat (first | (with_reducible first | exact HB.out | apply bg_alloc | apply bg_drewN | apply bg_drew1) | exact HB.out)⟩
      rw [if_pos c15] at H
      have c15b0 : decide ((l0.length : Int) < (l1.length : Int)) = true := decide_eq_true c15
      have c15b1 : decide (l0.length < l1.length) = true := decide_eq_true (Int.ofNat_lt.mp c15)
      clear c15
      obtain rfl := Option.some.inj H
      go_wp2
      go_ret
      exact ⟨eW, by repeat (first | (with_reducible first | exact HB.out | apply bg_alloc | apply bg_drewN | apply bg_drew1) | exact HB.out)⟩
     subst c5
     rw [if_pos rfl] at H
     by_cases c6 : 0 ≤ x5_1
     rotate_left
     ·rw [if_neg c6] at H
      exact absurd H (by simp)
     rw [if_pos c6] at H
     have c6b0 : decide (0 ≤ x5_1) = true := decide_eq_true c6
     clear c6
     by_cases c7 : x5_1 < (l0.length : Int)
     rotate_left
     ·rw [if_neg c7] at H
      exact absurd H (by simp)
     rw [if_pos c7] at H
     have c7b0 : decide (x5_1 < (l0.length : Int)) = true := decide_eq_true c7
     clear c7
     by_cases c8 : x5_1 < (l1.length : Int)
     rotate_left
     ·rw [if_neg c8] at H
      exact absurd H (by simp)
     rw [if_pos c8] at H
     have c8b0 : decide (x5_1 < (l1.length : Int)) = true := decide_eq_true c8
     clear c8
     obtain ⟨t155, A9, H⟩ := oB H
     try dsimp only at H
     by_cases c10 : t155 = 0
     rotate_left
     ·rw [if_neg c10] at H
      have c10b0 : (t155 == 0) = false := beq_eq_false_iff_ne.mpr c10
      have c10b1 : (t155 != 0) = true := bne_iff_ne.mpr c10
      obtain rfl := Option.some.inj H
      try go_wp2
      have n0_ := aK (bg_drew1 HB.out)
      clear HB
      have HB := n0_
      clear n0_
      have p153 : 0 ≤ (x5_1 : Int) := of_decide_eq_true (aA)
      have q153 : x5_1 < (l0.length : Int) := of_decide_eq_true (aA)
      obtain ⟨ad153, e153, hx153_0, hx153_1, hx153_2⟩ := at_T24 HR0.out x5_1 p153 q153
      have hw153_2 := hx153_2
      have hw153_1 := hx153_1
      have hw153_0 := hx153_0
      cases e153
      replace hx153_0 := (HB.out.cell (World.block_lt_of_cell? w _ hx153_0)).trans hx153_0
      replace hx153_1 := (HB.out.cell (World.block_lt_of_cell? w _ hx153_1)).trans hx153_1
      replace hx153_2 := (HB.out.cell (World.block_lt_of_cell? w _ hx153_2)).trans hx153_2
      replace p153 := eq_true p153
      replace q153 := eq_true q153
      have p154 : 0 ≤ (x5_1 : Int) := of_decide_eq_true (aA)
      have q154 : x5_1 < (l1.length : Int) := of_decide_eq_true (aA)
      obtain ⟨ad154, e154, hx154_0, hx154_1, hx154_2⟩ := at_T24 HR1.out x5_1 p154 q154
      have hw154_2 := hx154_2
      have hw154_1 := hx154_1
      have hw154_0 := hx154_0
      cases e154
      replace hx154_0 := (HB.out.cell (World.block_lt_of_cell? w _ hx154_0)).trans hx154_0
      replace hx154_1 := (HB.out.cell (World.block_lt_of_cell? w _ hx154_1)).trans hx154_1
      replace hx154_2 := (HB.out.cell (World.block_lt_of_cell? w _ hx154_2)).trans hx154_2
      replace p154 := eq_true p154
      replace q154 := eq_true q154
      refine start_ (n := 10) (S := fun w' => w'.cell? (ad153.add ((x5_1).toNat * 3)) = some (.int .i64 ((rd_T24 l0 x5_1).f0)) ∧ w'.cell? ⟨(ad153.add ((x5_1).toNat * 3)).block, (ad153.add ((x5_1).toNat * 3)).off + 1, none⟩ = some (.int .i64 ((rd_T24 l0 x5_1).f1)) ∧ w'.cell? ⟨(ad153.add ((x5_1).toNat * 3)).block, (ad153.add ((x5_1).toNat * 3)).off + 2, none⟩ = some (.string ((rd_T24 l0 x5_1).f2)) ∧ w'.cell? (ad154.add ((x5_1).toNat * 3)) = some (.int .i64 ((rd_T24 l1 x5_1).f0)) ∧ w'.cell? ⟨(ad154.add ((x5_1).toNat * 3)).block, (ad154.add ((x5_1).toNat * 3)).off + 1, none⟩ = some (.int .i64 ((rd_T24 l1 x5_1).f1)) ∧ w'.cell? ⟨(ad154.add ((x5_1).toNat * 3)).block, (ad154.add ((x5_1).toNat * 3)).off + 2, none⟩ = some (.string ((rd_T24 l1 x5_1).f2))) (ds := []) #[false, false, false, false, false, false, false, false, false, false] (by kernel_rfl) rfl rfl ⟨((HB.out.cell (World.block_lt_of_cell? w _ hw153_0)).trans hw153_0), ((HB.out.cell (World.block_lt_of_cell? w _ hw153_1)).trans hw153_1), ((HB.out.cell (World.block_lt_of_cell? w _ hw153_2)).trans hw153_2), ((HB.out.cell (World.block_lt_of_cell? w _ hw154_0)).trans hw154_0), ((HB.out.cell (World.block_lt_of_cell? w _ hw154_1)).trans hw154_1), ((HB.out.cell (World.block_lt_of_cell? w _ hw154_2)).trans hw154_2)⟩ (fun hHeld => ?_); refine with_tabW v_CompareRows.tab4 v_CompareRows.bits4 (fun HT_ HW_ => ?_)
      generalize wc.drew = w13 at HB hx153_0 hx153_1 hx153_2 hx154_0 hx154_1 hx154_2 hHeld ⊢
      refine pY (i := 0) (N := some 19) (tf 1 9) rfl rfl HT_.out ?_
      refine pY (i := 1) (N := some 20) (tf 2 8) rfl rfl HT_.out ?_
      refine pY (i := 2) (N := some 21) (tf 3 7) rfl rfl HT_.out ?_
      refine pY (i := 4) (N := some 23) #[true, true, true, false, true, false, false, false, false, false] rfl rfl HT_.out ?_
      refine pY (i := 5) (N := some 24) #[true, true, true, false, true, true, false, false, false, false] rfl rfl HT_.out ?_
      refine pY (i := 6) (N := some 25) #[true, true, true, false, true, true, true, false, false, false] rfl rfl HT_.out ?_
      refine take_ (i := 3) (N := some 22) (v := ?_) (a' := ?_) #[true, true, true, true, true, true, true, false, false, false] rfl rfl (take_ofW HT_.out HW_.out (by kernel_rfl)) (fun _ _ _ h => h) (Or.inl ⟨by rfl, ?_⟩) hHeld ?_ ?_
      rotate_left
      ·rintro w' ⟨s0, s1, s2, s3, s4, s5⟩
       go_simp
       with_reducible rfl
      rotate_left
      ·exact aP
      refine take_ (i := 7) (N := some 26) (v := ?_) (a' := ?_) #[true, true, true, true, true, true, true, true, false, false] rfl rfl (take_ofW HT_.out HW_.out (by kernel_rfl)) (fun _ _ _ h => h) (Or.inl ⟨by rfl, ?_⟩) hHeld ?_ ?_
      rotate_left
      ·rintro w' ⟨s0, s1, s2, s3, s4, s5⟩
       go_simp
       with_reducible rfl
      rotate_left
      ·exact aP
      refine one_ (i := 8) (N := some 27) #[true, true, true, true, true, true, true, true, true, false] rfl rfl (one_of HT_.out (by kernel_rfl)) (by decide) (fun K hK => ?_)
      refine goes_ Try.func25 (by kernel_rfl) rfl #[.agg #[.int .i64 ((rd_T24 l0 x5_1).f0), .int .i64 ((rd_T24 l0 x5_1).f1), .string ((rd_T24 l0 x5_1).f2)], .agg #[.int .i64 ((rd_T24 l1 x5_1).f0), .int .i64 ((rd_T24 l1 x5_1).f1), .string ((rd_T24 l1 x5_1).f2)]] (by rfl) rfl rfl (by (try simp only [List.map_toArray, List.map_cons, List.map_nil]); first | done | rfl | (simp only [List.length_drop, List.length_take]; rfl)) ?_
      with_reducible refine (v_Compare.callsG ((rd_T24 l0 x5_1).f0) ((rd_T24 l0 x5_1).f1) ((rd_T24 l0 x5_1).f2) ((rd_T24 l1 x5_1).f0) ((rd_T24 l1 x5_1).f1) ((rd_T24 l1 x5_1).f2) t155 _ A9.out).mono ?_
      rintro e w14 ⟨rfl, hb⟩
      refine ⟨_, rfl, ?_⟩
      have n0_ := aK (bg_step (by repeat (first | (with_reducible first | exact HB.out | apply bg_alloc | apply bg_drewN | apply bg_drew1) | exact HB.out)) hb)
      clear HB
      have HB := n0_
      clear n0_
      (try clear hb)
      (try clear hb2)
      (try clear hk)
      (try clear hi)
      refine hK.out _ _ ⟨((HB.out.cell (World.block_lt_of_cell? w _ hw153_0)).trans hw153_0), ((HB.out.cell (World.block_lt_of_cell? w _ hw153_1)).trans hw153_1), ((HB.out.cell (World.block_lt_of_cell? w _ hw153_2)).trans hw153_2), ((HB.out.cell (World.block_lt_of_cell? w _ hw154_0)).trans hw154_0), ((HB.out.cell (World.block_lt_of_cell? w _ hw154_1)).trans hw154_1), ((HB.out.cell (World.block_lt_of_cell? w _ hw154_2)).trans hw154_2)⟩ (fun hHeld => ?_)
      clear hK K
      refine norm_ (a' := ?_) ?_ ?_
      rotate_left
      ·show Act.put _ (some 27) _ = _
       simp only [Act.put, List.setIfInBounds_toArray, List.set_cons_zero, List.set_cons_succ, i64_w, i32_w]
       rfl
      refine pY (i := 9) (N := some 6) (tf 10 0) rfl rfl HT_.out ?_
      refine done_ (done_of HT_.out (by kernel_rfl)) ?_
      try go_wp2
      go_ret
      exact ⟨eW, by repeat (first | (with_reducible first | exact HB.out | apply bg_alloc | apply bg_drewN | apply bg_drew1) | exact HB.out)⟩
     rw [if_pos c10] at H
     have c10b0 : (t155 == 0) = true := beq_iff_eq.mpr c10
     have c10b1 : (t155 != 0) = false := bne_eq_false_iff_eq.mpr c10
     clear c10
     have H' := Aside0.mk H
     clear H
     try go_wp2
     have n0_ := aK (bg_drew1 HB.out)
     clear HB
     have HB := n0_
     clear n0_
     have p153 : 0 ≤ (x5_1 : Int) := of_decide_eq_true (aA)
     have q153 : x5_1 < (l0.length : Int) := of_decide_eq_true (aA)
     obtain ⟨ad153, e153, hx153_0, hx153_1, hx153_2⟩ := at_T24 HR0.out x5_1 p153 q153
     have hw153_2 := hx153_2
     have hw153_1 := hx153_1
     have hw153_0 := hx153_0
     cases e153
     replace hx153_0 := (HB.out.cell (World.block_lt_of_cell? w _ hx153_0)).trans hx153_0
     replace hx153_1 := (HB.out.cell (World.block_lt_of_cell? w _ hx153_1)).trans hx153_1
     replace hx153_2 := (HB.out.cell (World.block_lt_of_cell? w _ hx153_2)).trans hx153_2
     replace p153 := eq_true p153
     replace q153 := eq_true q153
     have p154 : 0 ≤ (x5_1 : Int) := of_decide_eq_true (aA)
     have q154 : x5_1 < (l1.length : Int) := of_decide_eq_true (aA)
     obtain ⟨ad154, e154, hx154_0, hx154_1, hx154_2⟩ := at_T24 HR1.out x5_1 p154 q154
     have hw154_2 := hx154_2
     have hw154_1 := hx154_1
     have hw154_0 := hx154_0
     cases e154
     replace hx154_0 := (HB.out.cell (World.block_lt_of_cell? w _ hx154_0)).trans hx154_0
     replace hx154_1 := (HB.out.cell (World.block_lt_of_cell? w _ hx154_1)).trans hx154_1
     replace hx154_2 := (HB.out.cell (World.block_lt_of_cell? w _ hx154_2)).trans hx154_2
     replace p154 := eq_true p154
     replace q154 := eq_true q154
     refine start_ (n := 10) (S := fun w' => w'.cell? (ad153.add ((x5_1).toNat * 3)) = some (.int .i64 ((rd_T24 l0 x5_1).f0)) ∧ w'.cell? ⟨(ad153.add ((x5_1).toNat * 3)).block, (ad153.add ((x5_1).toNat * 3)).off + 1, none⟩ = some (.int .i64 ((rd_T24 l0 x5_1).f1)) ∧ w'.cell? ⟨(ad153.add ((x5_1).toNat * 3)).block, (ad153.add ((x5_1).toNat * 3)).off + 2, none⟩ = some (.string ((rd_T24 l0 x5_1).f2)) ∧ w'.cell? (ad154.add ((x5_1).toNat * 3)) = some (.int .i64 ((rd_T24 l1 x5_1).f0)) ∧ w'.cell? ⟨(ad154.add ((x5_1).toNat * 3)).block, (ad154.add ((x5_1).toNat * 3)).off + 1, none⟩ = some (.int .i64 ((rd_T24 l1 x5_1).f1)) ∧ w'.cell? ⟨(ad154.add ((x5_1).toNat * 3)).block, (ad154.add ((x5_1).toNat * 3)).off + 2, none⟩ = some (.string ((rd_T24 l1 x5_1).f2))) (ds := []) #[false, false, false, false, false, false, false, false, false, false] (by kernel_rfl) rfl rfl ⟨((HB.out.cell (World.block_lt_of_cell? w _ hw153_0)).trans hw153_0), ((HB.out.cell (World.block_lt_of_cell? w _ hw153_1)).trans hw153_1), ((HB.out.cell (World.block_lt_of_cell? w _ hw153_2)).trans hw153_2), ((HB.out.cell (World.block_lt_of_cell? w _ hw154_0)).trans hw154_0), ((HB.out.cell (World.block_lt_of_cell? w _ hw154_1)).trans hw154_1), ((HB.out.cell (World.block_lt_of_cell? w _ hw154_2)).trans hw154_2)⟩ (fun hHeld => ?_); refine with_tabW v_CompareRows.tab4 v_CompareRows.bits4 (fun HT_ HW_ => ?_)
     generalize wc.drew = w11 at HB hx153_0 hx153_1 hx153_2 hx154_0 hx154_1 hx154_2 hHeld ⊢
     refine pY (i := 0) (N := some 19) (tf 1 9) rfl rfl HT_.out ?_
     refine pY (i := 1) (N := some 20) (tf 2 8) rfl rfl HT_.out ?_
     refine pY (i := 2) (N := some 21) (tf 3 7) rfl rfl HT_.out ?_
     refine pY (i := 4) (N := some 23) #[true, true, true, false, true, false, false, false, false, false] rfl rfl HT_.out ?_
     refine pY (i := 5) (N := some 24) #[true, true, true, false, true, true, false, false, false, false] rfl rfl HT_.out ?_
     refine pY (i := 6) (N := some 25) #[true, true, true, false, true, true, true, false, false, false] rfl rfl HT_.out ?_
     refine take_ (i := 3) (N := some 22) (v := ?_) (a' := ?_) #[true, true, true, true, true, true, true, false, false, false] rfl rfl (take_ofW HT_.out HW_.out (by kernel_rfl)) (fun _ _ _ h => h) (Or.inl ⟨by rfl, ?_⟩) hHeld ?_ ?_
     rotate_left
     ·rintro w' ⟨s0, s1, s2, s3, s4, s5⟩
      go_simp
      with_reducible rfl
     rotate_left
     ·exact aP
     refine take_ (i := 7) (N := some 26) (v := ?_) (a' := ?_) #[true, true, true, true, true, true, true, true, false, false] rfl rfl (take_ofW HT_.out HW_.out (by kernel_rfl)) (fun _ _ _ h => h) (Or.inl ⟨by rfl, ?_⟩) hHeld ?_ ?_
     rotate_left
     ·rintro w' ⟨s0, s1, s2, s3, s4, s5⟩
      go_simp
      with_reducible rfl
     rotate_left
     ·exact aP
     refine one_ (i := 8) (N := some 27) #[true, true, true, true, true, true, true, true, true, false] rfl rfl (one_of HT_.out (by kernel_rfl)) (by decide) (fun K hK => ?_)
     refine goes_ Try.func25 (by kernel_rfl) rfl #[.agg #[.int .i64 ((rd_T24 l0 x5_1).f0), .int .i64 ((rd_T24 l0 x5_1).f1), .string ((rd_T24 l0 x5_1).f2)], .agg #[.int .i64 ((rd_T24 l1 x5_1).f0), .int .i64 ((rd_T24 l1 x5_1).f1), .string ((rd_T24 l1 x5_1).f2)]] (by rfl) rfl rfl (by (try simp only [List.map_toArray, List.map_cons, List.map_nil]); first | done | rfl | (simp only [List.length_drop, List.length_take]; rfl)) ?_
     with_reducible refine (v_Compare.callsG ((rd_T24 l0 x5_1).f0) ((rd_T24 l0 x5_1).f1) ((rd_T24 l0 x5_1).f2) ((rd_T24 l1 x5_1).f0) ((rd_T24 l1 x5_1).f1) ((rd_T24 l1 x5_1).f2) t155 _ A9.out).mono ?_
     rintro e w12 ⟨rfl, hb⟩
     refine ⟨_, rfl, ?_⟩
     have n0_ := aK (bg_step (by repeat (first | (with_reducible first | exact HB.out | apply bg_alloc | apply bg_drewN | apply bg_drew1) | exact HB.out)) hb)
     clear HB
     have HB := n0_
     clear n0_
     (try clear hb)
     (try clear hb2)
     (try clear hk)
     (try clear hi)
     refine hK.out _ _ ⟨((HB.out.cell (World.block_lt_of_cell? w _ hw153_0)).trans hw153_0), ((HB.out.cell (World.block_lt_of_cell? w _ hw153_1)).trans hw153_1), ((HB.out.cell (World.block_lt_of_cell? w _ hw153_2)).trans hw153_2), ((HB.out.cell (World.block_lt_of_cell? w _ hw154_0)).trans hw154_0), ((HB.out.cell (World.block_lt_of_cell? w _ hw154_1)).trans hw154_1), ((HB.out.cell (World.block_lt_of_cell? w _ hw154_2)).trans hw154_2)⟩ (fun hHeld => ?_)
     clear hK K
     refine norm_ (a' := ?_) ?_ ?_
     rotate_left
     ·show Act.put _ (some 27) _ = _
      simp only [Act.put, List.setIfInBounds_toArray, List.set_cons_zero, List.set_cons_succ, i64_w, i32_w]
      rfl
     refine pY (i := 9) (N := some 6) (tf 10 0) rfl rfl HT_.out ?_
     refine done_ (done_of HT_.out (by kernel_rfl)) ?_
     try go_wp2
     go_roundg kj2
     case measure => have := HK1.out; have := HJ2.out; omega
     case rel => exact ⟨(wrap64 (x5_1 + 1)), (by first | rfl | (simp; done) | (simp [*]; done)), H', ⟨by have := HK1.out; have := HJ2.out; omega⟩, ⟨by repeat (first | (with_reducible first | exact HB.out | apply bg_alloc | apply bg_drewN | apply bg_drew1) | exact HB.out)⟩⟩
theorem v_CompareRows.calls (k : Nat) (A0 : Option Addr) (c0 : Nat) (l0 : List (S24)) (A1 : Option Addr) (c1 : Nat) (l1 : List (S24)) (r : Int) (w : World) (hr0 : Kd.C k24 w A0 l0.length l0) (hc0 : l0.length ≤ c0) (hr1 : Kd.C k24 w A1 l1.length l1) (hc1 : l1.length ≤ c1) (h : v_CompareRows.f k l0 l1 = some r) :
  Calls Try.prog 52 #[.slice A0 l0.length c0, .slice A1 l1.length c1] w fun e w' => e = .returned (.int .i64 r) ∧ Below w.heap.size w w' :=
 (v_CompareRows.callsG k A0 c0 l0 A1 c1 l1 r w hr0 hc0 hr1 hc1 h).mono fun _ _ ⟨he, hb⟩ => ⟨he, hb.toBelow⟩
def cells24 (l : List S24) : List Value := l.flatMap fun y => [.int .i64 y.f0, .int .i64 y.f1, .string y.f2]
theorem cells24_length (l : List S24) : (cells24 l).length = l.length * 3 := by
 unfold cells24
 rw [List.length_flatMap]
 simp [List.map_const', List.sum_replicate_nat]
theorem cells24_at : ∀ (l : List S24) (q : Nat) (hq : q < l.length), ((cells24 l).drop (q * 3)).take 3 = [Value.int .i64 (l[q]).f0, .int .i64 (l[q]).f1, .string (l[q]).f2]
 | [], _, hq => by simp at hq
 | a :: l, 0, _ => by simp [cells24]
 | a :: l, q + 1, hq => by
  have := cells24_at l q (by simpa using hq)
  simp only [cells24, List.flatMap_cons, List.getElem_cons_succ] at this ⊢
  rw [show (q + 1) * 3 = 3 + q * 3 from by omega, ← List.drop_drop]
  exact this
structure Hdr (w : World) where
 A : Option Addr
 c : Nat
 xs : List S24
 rd : Kd.C k24 w A xs.length xs
 le : xs.length ≤ c
def Hdr.enc {w : World} (h : Hdr w) : Value := .slice h.A h.xs.length h.c
instance (w : World) : Inhabited (Hdr w) := ⟨⟨none, 0, [], Kd.C_nil _ _, Nat.le_refl _⟩⟩
def kH (w : World) : Kd (Hdr w) := Kd.scalar Hdr.enc (fun _ => rfl)
theorem getElem?_one {α : Type} (v : α) (i : Nat) (u : α) (h : [v][i]? = some u) : i = 0 ∧ u = v := by
 cases i with
 | zero => simp at h; exact ⟨rfl, h.symm⟩
 | succ i => simp at h
theorem hdrs_of_C {w : World} {A : Option Addr} {n : Nat} {l : List (List S24)} (h : Kd.C (Kd.slice 24 k24) w A n l) : ∃ d : List (Hdr w), d.map Hdr.xs = l ∧ d.length = l.length ∧ Kd.C (kH w) w A n d := by
 obtain ⟨hl, hm, hr⟩ := h
 by_cases h0 : 0 < n
 ·obtain ⟨ad, rfl, hc⟩ := hr h0
  have hx : ∀ j : Nat, ∀ hj : j < l.length, ∃ x : Hdr w, x.xs = l[j] ∧ w.cell? (ad.add j) = some x.enc := by
   intro j hj
   obtain ⟨c, hcl, ⟨A1, c1, rfl, hle, hrd⟩, hcell⟩ := hc j l[j] (List.getElem?_eq_getElem hj)
   have := hcell 0 _ rfl
   have e : j * (Kd.slice 24 k24).sz + 0 = j := by show j * 1 + 0 = j; omega
   rw [e] at this
   exact ⟨⟨A1, c1, l[j], hrd, hle⟩, rfl, this⟩
  refine ⟨(List.finRange l.length).map (fun j => (hx j.1 j.2).choose), ?_, by simp, ?_, hm, fun _ => ⟨ad, rfl, ?_⟩⟩
  ·apply List.ext_getElem
   ·simp
   ·intro i h1 h2
    simp only [List.getElem_map, List.getElem_finRange]
    exact (hx i (by simpa using h2)).choose_spec.1
  ·simp [hl]
  ·intro j p hj
   obtain ⟨hj1, rfl⟩ := List.getElem?_eq_some_iff.1 hj
   refine ⟨[_], rfl, rfl, fun i u hu => ?_⟩
   obtain ⟨rfl, rfl⟩ := getElem?_one _ _ _ hu
   simp only [List.getElem_map, List.getElem_finRange]
   have := (hx j (by simpa using hj1)).choose_spec.2
   have e : j * (kH w).sz + 0 = j := by show j * 1 + 0 = j; omega
   rw [e]
   exact this
 ·have : l = [] := List.eq_nil_of_length_eq_zero (by omega)
  subst this
  exact ⟨[], rfl, rfl, by simpa using hl, hm, fun h => absurd h h0⟩
theorem hdr_cell {w W : World} {ad : Addr} {n : Nat} {d : List (Hdr w)} (h : Kd.C (kH w) W (some ad) n d) (j : Nat) (hj : j < d.length) : W.cell? (ad.add j) = some (d[j]).enc := by
 obtain ⟨hl, hm, hr⟩ := h
 obtain ⟨ad', he, hc⟩ := hr (by omega)
 injection he with he
 subst he
 obtain ⟨c, hcl, hk, hcell⟩ := hc j _ (List.getElem?_eq_getElem hj)
 cases hk
 have := hcell 0 _ rfl
 have e : j * (kH w).sz + 0 = j := by show j * 1 + 0 = j; omega
 rwa [e] at this
theorem BG.grow {w W : World} (h : BG w.heap.size w W) : ∃ q os, W = Go.Sort.grow (w.drewN q) os := by
 refine ⟨W.drawn - w.drawn, W.heap.extract w.heap.size W.heap.size, ?_⟩
 have hd := h.drawn
 have hh : W.heap = w.heap ++ W.heap.extract w.heap.size W.heap.size := by
  apply Array.ext_getElem?
  intro k
  rcases Nat.lt_or_ge k w.heap.size with hk | hk
  ·rw [Array.getElem?_append_left hk, h.block k hk]
  ·rw [Array.getElem?_append_right hk]
   rcases Nat.lt_or_ge k W.heap.size with hk2 | hk2
   ·rw [Array.getElem?_eq_getElem hk2, Array.getElem?_eq_getElem (by simp; omega)]
    simp only [Array.getElem_extract]
    congr 2
    omega
   ·rw [Array.getElem?_eq_none hk2, Array.getElem?_eq_none (by simp; omega)]
 have ho := h.os
 have ht := h.tape
 have hp := h.output
 obtain ⟨heap, tape, drawn, os, output⟩ := W
 obtain ⟨heap', tape', drawn', os', output'⟩ := w
 simp only at hd hh ho ht hp
 subst ho ht hp
 show _ = (⟨heap' ++ _, _, drawn' + _, _, _⟩ : World)
 congr 1
 show drawn = drawn' + (drawn - drawn')
 omega
def cmpV (x y : S24) : Int := (v_Compare.f x.f0 x.f1 x.f2 y.f0 y.f1 y.f2).getD 0
def cmpL : List S24 → List S24 → Int
 | [], [] => 0
 | [], _ :: _ => -1
 | _ :: _, [] => 1
 | x :: xs, y :: ys => if cmpV x y = 0 then cmpL xs ys else cmpV x y
theorem v_Compare.some_ (x y : S24) : v_Compare.f x.f0 x.f1 x.f2 y.f0 y.f1 y.f2 = some (cmpV x y) := by
 unfold cmpV
 unfold v_Compare.f
 repeat' split
 all_goals rfl
theorem wrap64_succ {i : Nat} (h : i < 9223372036854775807) : wrap64 ((i : Int) + 1) = ((i + 1 : Nat) : Int) := by unfold wrap64; omega
theorem rd_T24_nat (x : List S24) (i : Nat) (h : i < x.length) : rd_T24 x (i : Int) = x[i] := by
 unfold rd_T24
 rw [Int.toNat_natCast, List.getD_eq_getElem?_getD, List.getElem?_eq_getElem h]
 rfl
theorem v_CompareRows.at_ (x y : List S24) (hx : x.length ≤ 9223372036854775807) : ∀ (m i k : Nat), x.length - i = m → i ≤ x.length → i ≤ y.length → 2 * m + 2 ≤ k → v_CompareRows.l0 k x y i = some (cmpL (x.drop i) (y.drop i)) := by
 intro m
 induction m with
 | zero =>
  intro i k hm hi hj hk
  obtain ⟨k, rfl⟩ : ∃ j, k = j + 2 := ⟨k - 2, by omega⟩
  have hd : x.drop i = [] := List.drop_eq_nil_of_le (by omega)
  simp only [v_CompareRows.l0]
  rw [if_neg (by omega)]
  simp only [v_CompareRows.j1]
  rw [if_neg (by decide), hd]
  by_cases h1 : (x.length : Int) < y.length
  ·rw [if_pos h1, List.drop_eq_getElem_cons (by omega)]
   rfl
  ·rw [if_neg h1, if_neg (by omega), List.drop_eq_nil_of_le (by omega)]
   rfl
 | succ m ih =>
  intro i k hm hi hj hk
  obtain ⟨k, rfl⟩ : ∃ j, k = j + 2 := ⟨k - 2, by omega⟩
  have hlt : i < x.length := by omega
  simp only [v_CompareRows.l0]
  rw [if_pos (by omega)]
  simp only [v_CompareRows.j1]
  by_cases h1 : i < y.length
  ·rw [if_pos (by simpa using h1), if_pos (by omega), if_pos (by omega), if_pos (by omega), rd_T24_nat x i hlt, rd_T24_nat y i h1, v_Compare.some_, Option.bind_some, wrap64_succ (by omega), List.drop_eq_getElem_cons hlt, List.drop_eq_getElem_cons h1]
   by_cases hc : cmpV x[i] y[i] = 0
   ·rw [if_pos hc, ih (i + 1) k (by omega) (by omega) (by omega) (by omega)]
    show _ = some (if _ then _ else _)
    rw [if_pos hc]
   ·rw [if_neg hc]
    show _ = some (if _ then _ else _)
    rw [if_neg hc]
  ·rw [if_neg (by simpa using h1), if_neg (by omega), if_pos (by omega), List.drop_eq_getElem_cons hlt, show y.drop i = [] from List.drop_eq_nil_of_le (by omega)]
   rfl
theorem v_CompareRows.some_ (x y : List S24) (hx : x.length ≤ 9223372036854775807) (k : Nat) (hk : 2 * x.length + 2 ≤ k) : v_CompareRows.f k x y = some (cmpL x y) := by
 have := v_CompareRows.at_ x y hx x.length 0 k rfl (Nat.zero_le _) (Nat.zero_le _) hk
 exact this
theorem cmp_hdrs {w W : World} (hb : Below w.heap.size w W) (x y : Hdr w) : Calls Try.prog 52 #[x.enc, y.enc] W fun e w' => e = .returned (.int .i64 (cmpL x.xs y.xs)) ∧ BG W.heap.size W w' :=
 v_CompareRows.callsG (2 * x.xs.length + 2) x.A x.c x.xs y.A y.c y.xs _ W (Kd.C_below x.rd hb) x.le (Kd.C_below y.rd hb) y.le (v_CompareRows.some_ x.xs y.xs (Kd.C_max x.rd) _ (Nat.le_refl _))
def ltV (x y : S24) : Prop := x.f0 < y.f0 ∨ (x.f0 = y.f0 ∧ (x.f1 < y.f1 ∨ (x.f1 = y.f1 ∧ x.f2.toList < y.f2.toList)))
theorem S24.ext_ {x y : S24} (h0 : x.f0 = y.f0) (h1 : x.f1 = y.f1) (h2 : x.f2.toList = y.f2.toList) : x = y := by
 obtain ⟨a, b, c⟩ := x
 obtain ⟨a', b', c'⟩ := y
 simp only at h0 h1 h2
 subst h0 h1
 have : c = c' := by
  rw [Go.Lib.toList_data, Go.Lib.toList_data] at h2
  cases c
  cases c'
  congr 1
  exact Array.toList_inj.1 h2
 rw [this]
theorem ltV_irrefl (x : S24) : ¬ ltV x x := by
 rintro (h | ⟨_, h | ⟨_, h⟩⟩)
 ·omega
 ·omega
 ·exact List.lt_irrefl _ h
theorem ltV_trans {x y z : S24} (h : ltV x y) (k : ltV y z) : ltV x z := by
 rcases h with h | ⟨e, h | ⟨e', h⟩⟩
 ·rcases k with k | ⟨f, _⟩
  ·exact .inl (by omega)
  ·exact .inl (by omega)
 ·rcases k with k | ⟨f, k | ⟨f', k⟩⟩
  ·exact .inl (by omega)
  ·exact .inr ⟨by omega, .inl (by omega)⟩
  ·exact .inr ⟨by omega, .inl (by omega)⟩
 ·rcases k with k | ⟨f, k | ⟨f', k⟩⟩
  ·exact .inl (by omega)
  ·exact .inr ⟨by omega, .inl (by omega)⟩
  ·exact .inr ⟨by omega, .inr ⟨by omega, List.lt_trans h k⟩⟩
theorem ltV_tri (x y : S24) : ltV x y ∨ x = y ∨ ltV y x := by
 by_cases a : x.f0 < y.f0
 ·exact .inl (.inl a)
 by_cases b : y.f0 < x.f0
 ·exact .inr (.inr (.inl b))
 have e : x.f0 = y.f0 := by omega
 by_cases c : x.f1 < y.f1
 ·exact .inl (.inr ⟨e, .inl c⟩)
 by_cases d : y.f1 < x.f1
 ·exact .inr (.inr (.inr ⟨e.symm, .inl d⟩))
 have f : x.f1 = y.f1 := by omega
 by_cases g : x.f2.toList < y.f2.toList
 ·exact .inl (.inr ⟨e, .inr ⟨f, g⟩⟩)
 by_cases i : y.f2.toList < x.f2.toList
 ·exact .inr (.inr (.inr ⟨e.symm, .inr ⟨f.symm, i⟩⟩))
 ·exact .inr (.inl (S24.ext_ e f (List.le_antisymm (List.not_lt.1 i) (List.not_lt.1 g))))
theorem v_Compare.lt_ {x y : S24} (h : ltV x y) : cmpV x y = -1 := by
 have hne : (x.f0 == y.f0 && (x.f1 == y.f1 && (x.f2.toList == y.f2.toList))) = false := by
  rw [Bool.eq_false_iff]
  intro hh
  simp only [Bool.and_eq_true, beq_iff_eq] at hh
  exact ltV_irrefl x (by have := S24.ext_ hh.1 hh.2.1 hh.2.2; rwa [← this] at h)
 unfold cmpV v_Compare.f
 rw [if_neg (by rw [hne]; decide)]
 rcases h with h | ⟨e, h | ⟨e', h⟩⟩
 ·rw [if_neg (by omega), if_pos h]; rfl
 ·rw [if_pos e, if_neg (by omega), if_pos h]; rfl
 ·rw [if_pos e, if_pos e', if_pos (by rw [bytesLess_eq]; exact decide_eq_true h)]; rfl
theorem v_Compare.gt_ {x y : S24} (h : ltV y x) : cmpV x y = 1 := by
 have hne : (x.f0 == y.f0 && (x.f1 == y.f1 && (x.f2.toList == y.f2.toList))) = false := by
  rw [Bool.eq_false_iff]
  intro hh
  simp only [Bool.and_eq_true, beq_iff_eq] at hh
  exact ltV_irrefl x (by have := S24.ext_ hh.1 hh.2.1 hh.2.2; rwa [← this] at h)
 unfold cmpV v_Compare.f
 rw [if_neg (by rw [hne]; decide)]
 rcases h with h | ⟨e, h | ⟨e', h⟩⟩
 ·rw [if_neg (by omega), if_neg (by omega)]; rfl
 ·rw [if_pos e.symm, if_neg (by omega), if_neg (by omega)]; rfl
 ·rw [if_pos e.symm, if_pos e'.symm, if_neg (by rw [bytesLess_eq]; exact fun k => List.lt_asymm h (of_decide_eq_true k))]; rfl
theorem v_Compare.eq_ (x : S24) : cmpV x x = 0 := by
 unfold cmpV v_Compare.f
 rw [if_pos (by simp)]; rfl
theorem cmpV_cases (x y : S24) : (ltV x y ∧ cmpV x y = -1) ∨ (x = y ∧ cmpV x y = 0) ∨ (ltV y x ∧ cmpV x y = 1) := by
 rcases ltV_tri x y with h | rfl | h
 ·exact .inl ⟨h, v_Compare.lt_ h⟩
 ·exact .inr (.inl ⟨rfl, v_Compare.eq_ x⟩)
 ·exact .inr (.inr ⟨h, v_Compare.gt_ h⟩)
theorem cmpV_neg (x y : S24) : cmpV x y = - cmpV y x := by
 rcases cmpV_cases x y with ⟨h, k⟩ | ⟨rfl, k⟩ | ⟨h, k⟩
 ·rw [k, v_Compare.gt_ h]
 ·rw [k]; rfl
 ·rw [k, v_Compare.lt_ h]; rfl
theorem cmpL_cases : ∀ x y : List S24, cmpL x y = -1 ∨ (cmpL x y = 0 ∧ x = y) ∨ cmpL x y = 1
 | [], [] => .inr (.inl ⟨rfl, rfl⟩)
 | [], _ :: _ => .inl rfl
 | _ :: _, [] => .inr (.inr rfl)
 | x :: xs, y :: ys => by
  simp only [cmpL]
  rcases cmpV_cases x y with ⟨_, k⟩ | ⟨rfl, k⟩ | ⟨_, k⟩
  ·rw [if_neg (by omega)]; exact .inl k
  ·rw [if_pos k]
   rcases cmpL_cases xs ys with h | ⟨h, rfl⟩ | h
   ·exact .inl h
   ·exact .inr (.inl ⟨h, rfl⟩)
   ·exact .inr (.inr h)
  ·rw [if_neg (by omega)]; exact .inr (.inr k)
theorem cmpL_self : ∀ x : List S24, cmpL x x = 0
 | [] => rfl
 | x :: xs => by simp only [cmpL]; rw [if_pos (v_Compare.eq_ x), cmpL_self xs]
theorem cmpL_zero {x y : List S24} : cmpL x y = 0 ↔ x = y := by
 constructor
 ·intro h
  rcases cmpL_cases x y with k | ⟨_, k⟩ | k
  ·omega
  ·exact k
  ·omega
 ·rintro rfl; exact cmpL_self x
theorem cmpL_neg : ∀ x y : List S24, cmpL x y = - cmpL y x
 | [], [] => rfl
 | [], _ :: _ => rfl
 | _ :: _, [] => rfl
 | x :: xs, y :: ys => by
  simp only [cmpL]
  have h := cmpV_neg x y
  by_cases k : cmpV x y = 0
  ·rw [if_pos k, if_pos (by omega), cmpL_neg xs ys]
  ·rw [if_neg k, if_neg (by omega), h]
theorem cmpL_le_trans : ∀ {x y z : List S24}, cmpL x y ≤ 0 → cmpL y z ≤ 0 → cmpL x z ≤ 0
 | [], _, [], _, _ => by decide
 | [], _, _ :: _, _, _ => by show (-1 : Int) ≤ 0; decide
 | _ :: _, [], _, h, _ => by exact absurd h (by show ¬ (1 : Int) ≤ 0; decide)
 | _ :: _, _ :: _, [], _, k => by exact absurd k (by show ¬ (1 : Int) ≤ 0; decide)
 | x :: xs, y :: ys, z :: zs, h, k => by
  simp only [cmpL] at h k ⊢
  rcases cmpV_cases x y with ⟨a, ka⟩ | ⟨rfl, ka⟩ | ⟨_, ka⟩
  ·rcases cmpV_cases y z with ⟨b, kb⟩ | ⟨rfl, kb⟩ | ⟨_, kb⟩
   ·rw [if_neg (by rw [v_Compare.lt_ (ltV_trans a b)]; decide), v_Compare.lt_ (ltV_trans a b)]; decide
   ·rw [if_neg (by omega)]; omega
   ·rw [if_neg (by omega)] at k; omega
  ·rw [if_pos ka] at h
   by_cases c : cmpV x z = 0
   ·rw [if_pos c] at k ⊢
    exact cmpL_le_trans h k
   ·rw [if_neg c] at k ⊢
    exact k
  ·rw [if_neg (by omega)] at h; omega
def leL (x y : List S24) : Bool := decide (cmpL x y ≤ 0)
theorem leL_trans (x y z : List S24) (h : leL x y = true) (k : leL y z = true) : leL x z = true := decide_eq_true (cmpL_le_trans (of_decide_eq_true h) (of_decide_eq_true k))
theorem leL_total (x y : List S24) : (leL x y || leL y x) = true := by
 unfold leL
 have := cmpL_neg x y
 rw [Bool.or_eq_true, decide_eq_true_iff, decide_eq_true_iff]
 omega
theorem leL_antisymm {x y : List S24} (h : leL x y = true) (k : leL y x = true) : x = y := by
 unfold leL at h k
 have := cmpL_neg x y
 have h := of_decide_eq_true h
 have k := of_decide_eq_true k
 exact cmpL_zero.1 (by omega)
def ded : Option (List S24) → List (List S24) → List (List S24)
 | _, [] => []
 | none, x :: xs => x :: ded (some x) xs
 | some p, x :: xs => if cmpL p x = 0 then ded (some x) xs else x :: ded (some x) xs
def setOf (l : List (List S24)) : List (List S24) := ded none (l.mergeSort leL)
def lastOf : Option (List S24) → List (List S24) → Option (List S24)
 | o, [] => o
 | _, x :: xs => lastOf (some x) xs
theorem ded_snoc (x : List S24) : ∀ (l : List (List S24)) (o : Option (List S24)), ded o (l ++ [x]) = ded o l ++ (match lastOf o l with | none => [x] | some p => if cmpL p x = 0 then [] else [x])
 | [], none => rfl
 | [], some p => by simp only [List.nil_append, ded, lastOf]
 | y :: ys, none => by simp only [List.cons_append, ded, lastOf, ded_snoc x ys]
 | y :: ys, some p => by
  simp only [List.cons_append, ded, lastOf, ded_snoc x ys]
  split
  ·rfl
  ·rfl
theorem lastOf_snoc (x : List S24) : ∀ (l : List (List S24)) (o : Option (List S24)), lastOf o (l ++ [x]) = some x
 | [], _ => rfl
 | _ :: ys, _ => lastOf_snoc x ys _
theorem sorted_is {l l' : List (List S24)} (hp : l'.Perm l) (hs : l'.Pairwise (fun a b => leL a b = true)) : l' = l.mergeSort leL :=
 (hp.trans (List.mergeSort_perm l leL).symm).eq_of_pairwise (fun _ _ _ _ h k => leL_antisymm h k) hs (List.pairwise_mergeSort leL_trans leL_total l)
def sortRows_ren : Go.Shelf.Ren := ⟨fun | 6 => 88 | 15 => 102 | 14 => 101 | 28 => 113 | 29 => 114 | 20 => 105 | 21 => 106 | 22 => 107 | 23 => 108 | 24 => 109 | 25 => 110 | 26 => 111 | 27 => 112 | 46 => 123 | 47 => 124 | 48 => 125 | 49 => 126 | 50 => 127 | 57 => 131 | n => n, fun | 22 => 55 | 24 => 54 | 25 => 57 | 3 => 3 | 39 => 97 | 0 => 0 | 53 => 108 | 55 => 110 | 4 => 4 | 46 => 101 | 45 => 100 | 50 => 105 | 5 => 5 | 9 => 9 | 66 => 116 | 70 => 120 | 76 => 124 | 77 => 125 | n => n, fun | n => n⟩
theorem sortRows : Go.Proofs.SlLaysF.n6 Try.prog sortRows_ren := {
 mixed := by kernel_rfl
 f6 := ⟨Try.f88.name, by decide, Try.func88.trans (congrArg some (by kernel_rfl))⟩
 f14 := ⟨Try.f101.name, by decide, Try.func101.trans (congrArg some (by kernel_rfl))⟩
 f15 := Try.func102.trans (congrArg some (by kernel_rfl))
 f20 := ⟨Try.f105.name, by decide, Try.func105.trans (congrArg some (by kernel_rfl))⟩
 f21 := ⟨Try.f106.name, by decide, Try.func106.trans (congrArg some (by kernel_rfl))⟩
 f22 := ⟨Try.f107.name, by decide, Try.func107.trans (congrArg some (by kernel_rfl))⟩
 f23 := ⟨Try.f108.name, by decide, Try.func108.trans (congrArg some (by kernel_rfl))⟩
 f24 := ⟨Try.f109.name, by decide, Try.func109.trans (congrArg some (by kernel_rfl))⟩
 f25 := ⟨Try.f110.name, by decide, Try.func110.trans (congrArg some (by kernel_rfl))⟩
 f26 := ⟨Try.f111.name, by decide, Try.func111.trans (congrArg some (by kernel_rfl))⟩
 f27 := ⟨Try.f112.name, by decide, Try.func112.trans (congrArg some (by kernel_rfl))⟩
 f28 := Try.func113.trans (congrArg some (by kernel_rfl))
 f29 := Try.func114.trans (congrArg some (by kernel_rfl))
 f46 := ⟨Try.f123.name, by decide, Try.func123.trans (congrArg some (by kernel_rfl))⟩
 f47 := Try.func124.trans (congrArg some (by kernel_rfl))
 f48 := Try.func125.trans (congrArg some (by kernel_rfl))
 f49 := ⟨Try.f126.name, by decide, Try.func126.trans (congrArg some (by kernel_rfl))⟩
 f50 := ⟨Try.f127.name, by decide, Try.func127.trans (congrArg some (by kernel_rfl))⟩
 f57 := ⟨Try.f131.name, by decide, Try.func131.trans (congrArg some (by kernel_rfl))⟩
 t0 := Try.underlying0
 a0 := Try.isAgg0
 z0 := Try.sizeOf0
 v0 := Try.zeroValue0
 t3 := Try.underlying3
 a3 := Try.isAgg3
 z3 := Try.sizeOf3
 v3 := Try.zeroValue3
 t4 := Try.underlying4
 a4 := Try.isAgg4
 z4 := Try.sizeOf4
 v4 := Try.zeroValue4
 t5 := Try.underlying5
 a5 := Try.isAgg5
 z5 := Try.sizeOf5
 v5 := Try.zeroValue5
 t9 := Try.underlying9
 a9 := Try.isAgg9
 z9 := Try.sizeOf9
 v9 := Try.zeroValue9
 t22 := Try.underlying55
 a22 := Try.isAgg55
 z22 := Try.sizeOf55
 v22 := Try.zeroValue55
 a24 := Try.isAgg54
 z24 := Try.sizeOf54
 t25 := Try.underlying57
 a25 := Try.isAgg57
 z25 := Try.sizeOf57
 v25 := Try.zeroValue57
 t39 := Try.underlying97
 a39 := Try.isAgg97
 z39 := Try.sizeOf97
 v39 := Try.zeroValue97
 t45 := Try.underlying100
 a45 := Try.isAgg100
 z45 := Try.sizeOf100
 v45 := Try.zeroValue100
 t46 := Try.underlying101
 a46 := Try.isAgg101
 z46 := Try.sizeOf101
 v46 := Try.zeroValue101
 t50 := Try.underlying105
 a50 := Try.isAgg105
 z50 := Try.sizeOf105
 v50 := Try.zeroValue105
 t53 := Try.underlying108
 a53 := Try.isAgg108
 z53 := Try.sizeOf108
 v53 := Try.zeroValue108
 t55 := Try.underlying110
 a55 := Try.isAgg110
 z55 := Try.sizeOf110
 v55 := Try.zeroValue110
 t66 := Try.underlying116
 a66 := Try.isAgg116
 z66 := Try.sizeOf116
 v66 := Try.zeroValue116
 t70 := Try.underlying120
 a70 := Try.isAgg120
 z70 := Try.sizeOf120
 v70 := Try.zeroValue120
 t76 := Try.underlying124
 a76 := Try.isAgg124
 z76 := Try.sizeOf124
 v76 := Try.zeroValue124
 t77 := Try.underlying125
 a77 := Try.isAgg125
 z77 := Try.sizeOf125
 v77 := Try.zeroValue125 }
theorem run_make_rowN {P : Program} (t e : TypeId) (i : TypeInfo) (z : Value) (ht : P.underlying t = some (.slice e)) (hi : P.info? e = some i) (hz : i.zero = some z)
  (kl kc : IntKind) (n c : Nat) (hnc : n ≤ c) (hbytes : i.bytes * c ≤ 281474976710656) (h63 : c ≤ 9223372036854775807) (w : World) :
  (Instr.makeSlice t (.int kl (n : Int)) (.int kc (c : Int))).run P w = .ok (.slice (some ⟨w.heap.size, 0, none⟩) n c) (w.alloc (.cells (madeCells z.cells (c * i.size)) e)) := by
 have hb : (i.bytes : Int) * (c : Int) ≤ 281474976710656 := by
  have h : ((i.bytes * c : Nat) : Int) ≤ 281474976710656 := by omega
  rwa [Int.natCast_mul] at h
 have hr := run_make (P := P) w t e i z ht hi hz kl kc n c (by omega) (by omega) hb (by omega)
 simp only [Int.toNat_natCast] at hr
 exact hr
theorem run_copy_K {P : Program} (w : World) (dT sT ty elem : TypeId) (g n dCap sCap : Nat) (a : Addr) (cur : Array Value) (t : TypeId) (cs : List Value) (k : Nat)
  (hu : P.underlying dT = some (.slice elem)) (hs : (P.info? elem).map (·.size) = some k)
  (hg : w.heap[g]? = some (.cells cur t (0, 0))) (hn : cs.length = n * k) (hcur : cur.size = cs.length)
  (hsrc : ∀ j v, cs[j]? = some v → w.cell? (a.add j) = some v) (h1 : ∀ v ∈ cs, v.oneCell' = true) :
  (Builtin.copy_ #[dT, sT] ty #[.slice (some ⟨g, 0, none⟩) n dCap, .slice (some a) n sCap]).run P w = .ok (goInt n) (w.setRow g cs.toArray) := by
 have hl := run_loadCells_list (P := P) w a cs hsrc
 have hst := run_storeCells_at P g 0 t cs 0 cur w hg (by omega) h1
 cases hq : P.info? elem with
 | none => simp [hq] at hs
 | some i =>
  have hi : i.size = k := by simpa [hq] using hs
  have hd : List.drop (0 + 0 + cs.length) cur.toList = [] := List.drop_eq_nil_of_le (by rw [Array.length_toList]; omega)
  have hm : Nat.min n n = n := Nat.min_self n
  rw [hd] at hst
  simp only [Nat.add_zero, List.take_zero, List.nil_append, List.append_nil] at hst
  rw [hn] at hl
  simp [Builtin.copy_, run_underlying hu, Builtin.lenOf, Builtin.firstCells, sizeOf, typeInfo, hq, hi, hl, hst]
theorem run_copy_K0 {P : Program} (w : World) (dT sT ty elem : TypeId) (d a : Option Addr) (dCap sCap : Nat) (k : Nat) (hu : P.underlying dT = some (.slice elem)) (hs : (P.info? elem).map (·.size) = some k) :
  (Builtin.copy_ #[dT, sT] ty #[.slice d 0 dCap, .slice a 0 sCap]).run P w = .ok (goInt 0) w := by
 cases hq : P.info? elem with
 | none => simp [hq] at hs
 | some i =>
  have hl : ∀ (x : Addr), (loadCells x 0).run P w = .ok #[] w := fun x => by simpa using run_loadCells_list (P := P) w x [] (by simp)
  cases d <;> cases a <;> simp [Builtin.copy_, run_underlying hu, Builtin.lenOf, Builtin.firstCells, sizeOf, typeInfo, hq, storeCells, hl]
theorem below_sortWorld {α : Type} [Inhabited α] (enc : α → Value) {w W : World} (hb : Below w.heap.size w W) {g : Nat} (hg : w.heap.size ≤ g) (off m : Nat) (dk : Array α) (os : Array Obj) :
  Below w.heap.size w (sortWorld enc W g off m dk os) := by
 refine ⟨hb.os, hb.tape, hb.output, ?_, fun k hk => ?_⟩
 ·have := hb.size
  show w.heap.size ≤ ((Go.Sort.putRow enc (Go.Sort.ahead W m) g off dk).heap ++ os).size
  simp only [Go.Sort.putRow, Go.Sort.mapBlock, Go.Sort.ahead, Array.size_append, Array.size_modify]
  omega
 ·have h1 := hb.size
  have h2 := hb.block k hk
  show ((Go.Sort.putRow enc (Go.Sort.ahead W m) g off dk).heap ++ os)[k]? = _
  rw [Array.getElem?_append_left (by simp only [Go.Sort.putRow, Go.Sort.mapBlock, Go.Sort.ahead, Array.size_modify]; omega)]
  simp only [Go.Sort.putRow, Go.Sort.mapBlock, Go.Sort.ahead, Array.getElem?_modify]
  rw [if_neg (by omega)]
  exact h2
theorem perm_of_permIn {α : Type} [Inhabited α] {d d' : Array α} (h : Go.Sort.PermIn 0 d.size d d') : d'.toList.Perm d.toList := by
 obtain ⟨hs, _, hp⟩ := h
 have e1 : d.extract 0 d.size = d := by simp
 have e2 : d'.extract 0 d.size = d' := by rw [← hs]; simp
 rw [e1, e2] at hp
 exact hp
theorem ltOf_cmpL {w : World} (x y : Hdr w) : ltOf (fun x y : Hdr w => cmpL x.xs y.xs) x y = decide (cmpL x.xs y.xs < 0) := rfl
theorem swo_cmpL (w : World) : Go.Sort.SWO (ltOf fun x y : Hdr w => cmpL x.xs y.xs) where
 irrefl x := by rw [ltOf_cmpL, cmpL_self]; rfl
 trans x y z h k := by
  rw [ltOf_cmpL] at *
  have h := of_decide_eq_true h
  have k := of_decide_eq_true k
  have t := cmpL_le_trans (x := x.xs) (y := y.xs) (z := z.xs) (by omega) (by omega)
  refine decide_eq_true ?_
  have n := cmpL_neg x.xs z.xs
  by_cases e : cmpL x.xs z.xs = 0
  ·have e' := cmpL_zero.1 e
   rw [e'] at h
   have := cmpL_neg z.xs y.xs
   omega
  ·omega
 ntrans x y z h k := by
  rw [ltOf_cmpL] at *
  have h := of_decide_eq_false h
  have k := of_decide_eq_false k
  have n1 := cmpL_neg x.xs y.xs
  have n2 := cmpL_neg y.xs z.xs
  have n3 := cmpL_neg x.xs z.xs
  have t := cmpL_le_trans (x := z.xs) (y := y.xs) (z := x.xs) (by omega) (by omega)
  exact decide_eq_false (by omega)
theorem sortRows_call (w W : World) (hb : Below w.heap.size w W) (g : Nat) (hg : w.heap.size ≤ g) (d : List (Hdr w)) (hW : W.heap[g]? = some (.cells (d.map Hdr.enc).toArray 54 (0, 0))) (hsz : d.length < 4611686018427387904) :
  Calls Try.prog 88 #[.slice (some ⟨g, 0, none⟩) d.length d.length, .func (.func 52) #[] #[]] W fun e w' => e = .returned (.tuple #[]) ∧ ∃ s : List (Hdr w), s.map Hdr.xs = (d.map Hdr.xs).mergeSort leL ∧ s.length = d.length ∧
   (∀ j (h : j < s.length), w'.cell? ⟨g, j, none⟩ = some (s[j]).enc) ∧ Below w.heap.size w w' ∧ g < w'.heap.size := by
 have hlt := blk_lt hW
 have eg : ∀ args w, (callFunc 52 args).run Try.prog w = .ok (.enter 52 args) w := enters_of Try.func52 (by kernel_rfl) rfl
 have hH : Go.Sort.Holds Hdr.enc W g 0 d.toArray := by
  intro j hj
  have hj' : j < d.length := by simpa using hj
  refine ⟨?_, blk_frozen hW _⟩
  rw [blk_cell hW]
  simp [hj']
 have hcmp : CmpLays1 Try.prog 52 #[] Hdr.enc (fun x y : Hdr w => cmpL x.xs y.xs) g 0 d.toArray.size W := by
  intro m os dk _ x y
  have hb2 := below_sortWorld Hdr.enc hb hg 0 m dk os
  exact (cmp_hdrs hb2 x y).mono fun e w' ⟨he, hG⟩ => ⟨he, hG.grow⟩
 have hcon := Any.slices_SortFunc sortRows Hdr.enc (fun _ => rfl) (fun x y : Hdr w => cmpL x.xs y.xs) (swo_cmpL w) 52 #[] g 0 d.length d.toArray W eg hcmp hH hlt (by simpa using hsz)
 change Calls Try.prog 88 _ _ _ at hcon
 have e1 : d.toArray.size = d.length := by simp
 rw [e1] at hcon
 refine hcon.mono ?_
 rintro e w' ⟨he, d', m, os, hp, hs, rfl⟩
 rw [← e1] at hp hs
 have hperm := perm_of_permIn hp
 refine ⟨he, d'.toList, ?_, ?_, ?_, below_sortWorld Hdr.enc hb hg 0 m d' os, lt_sortWorld _ _ _ _ _ _ _ hlt⟩
 ·refine sorted_is (by simpa using hperm.map Hdr.xs) ?_
  rw [List.pairwise_map, List.pairwise_iff_getElem]
  intro i j hi hj hij
  have h := hs i j (Nat.zero_le _) hij (by have := hp.1; simp at hj; omega)
  have hi' : i < d'.size := by simpa using hi
  have hj' : j < d'.size := by simpa using hj
  rw [ltOf_cmpL] at h
  have h := of_decide_eq_false h
  rw [getElem!_pos d' i hi', getElem!_pos d' j hj'] at h
  have n := cmpL_neg (d'[i]).xs (d'[j]).xs
  simp only [Array.getElem_toList]
  exact decide_eq_true (by omega)
 ·have := hp.1; simpa using this
 ·intro j hj
  have hj' : j < d'.size := by simpa using hj
  have h := holds_sortWorld Hdr.enc W g 0 m d.toArray d' os hlt hH hp.1 j hj'
  have h1 := h.1
  rw [Nat.zero_add, getElem!_pos d' j hj'] at h1
  rw [h1]
  simp
def okRows (l0 : List (List S24)) : Bool := decide (l0.length < 65536) && l0.all (fun r => decide (r.length < 4398046511104))
def v_Set.f (_ : Nat) (l0 : List (List S24)) : Option (List (List S24)) := if okRows l0 = true then some (setOf l0) else none
theorem v_Set.mono : ∀ a0 k, LeO (v_Set.f k a0) (v_Set.f (k + 1) a0) := fun _ _ => LeO.refl _
theorem madeCells_one (z : Value) (n : Nat) : madeCells #[z] (n * 1) = (List.replicate n z).toArray := by
 apply Array.toList_inj.1
 rw [Nat.mul_one, toList_madeCells_one]
theorem cmp_hdrs' {w W : World} (hb : Below w.heap.size w W) (x y : Hdr w) (c : Int) (hc : cmpL x.xs y.xs = c) : Calls Try.prog 52 #[.slice x.A x.xs.length x.c, .slice y.A y.xs.length y.c] W fun e w' => e = .returned (.int .i64 c) ∧ Below W.heap.size W w' := by
 subst hc
 exact (cmp_hdrs hb x y).mono fun _ _ ⟨he, h⟩ => ⟨he, h.toBelow⟩
theorem cell_of_heap {w W : World} {g : Nat} (h : W.heap[g]? = w.heap[g]?) (j : Nat) : W.cell? ⟨g, j, none⟩ = w.cell? ⟨g, j, none⟩ := by simp only [World.cell?, h]
theorem lastOf_take (l : List (List S24)) (k : Nat) (h : k < l.length) : lastOf none (l.take (k + 1)) = some l[k] := by
 rw [List.take_succ_eq_append_getElem h]
 exact lastOf_snoc _ _ _
theorem ded_take0 (l : List (List S24)) (h : 0 < l.length) : ded none (l.take (0 + 1)) = ded none (l.take 0) ++ [l[0]] := by
 rw [List.take_succ_eq_append_getElem h]
 rfl
theorem ded_take (l : List (List S24)) (k : Nat) (h : k + 1 < l.length) : ded none (l.take (k + 1 + 1)) = ded none (l.take (k + 1)) ++ (if cmpL l[k] l[k + 1] = 0 then [] else [l[k + 1]]) := by
 rw [List.take_succ_eq_append_getElem h, ded_snoc, lastOf_take l k (by omega)]
theorem ded_len (l : List (List S24)) : ∀ o, (ded o l).length ≤ l.length := by
 induction l with
 | nil => intro o; cases o <;> simp [ded]
 | cons x xs ih =>
  intro o
  cases o with
  | none => simp only [ded, List.length_cons]; have := ih (some x); omega
  | some p =>
   simp only [ded]
   split
   ·have := ih (some x); simp only [List.length_cons]; omega
   ·have := ih (some x); simp only [List.length_cons]; omega
theorem copyRow {w W : World} (x : Hdr w) (hb : Below w.heap.size w W) (Z : Array Value) (hZ : Z.size = x.xs.length * 3) : ∃ W', (Builtin.copy_ #[54, 54] 3 #[.slice (some ⟨W.heap.size, 0, none⟩) x.xs.length x.xs.length, .slice x.A x.xs.length x.c]).run Try.prog (W.alloc (.cells Z 24)) = .ok (goInt x.xs.length) W' ∧
  Kd.R k24 24 W' W.heap.size (fun b => b = W.heap.size) (.slice (some ⟨W.heap.size, 0, none⟩) x.xs.length x.xs.length) x.xs ∧ Below W.heap.size W W' ∧ W.heap.size < W'.heap.size := by
 have hg := heap_alloc_new W (.cells Z 24)
 have hbw := below_alloc (Below.refl W.heap.size W) (.cells Z 24)
 have hrd := Kd.C_below x.rd (hb.trans (hbw.mono hb.size))
 obtain ⟨hl, hm, hr⟩ := hrd
 have hmax : x.xs.length ≤ maxLen := by unfold maxLen; exact hm
 have own : ∀ W' : World, W'.heap[W.heap.size]? = some (.cells (cells24 x.xs).toArray 24 (0, 0)) →
   Kd.R k24 24 W' W.heap.size (fun b => b = W.heap.size) (.slice (some ⟨W.heap.size, 0, none⟩) x.xs.length x.xs.length) x.xs := by
  intro W' hW'
  have hfl := cells24_length x.xs
  refine ⟨fun k hk => by simpa [Value.ownBlock] using hk.symm, _, ⟨hfl, .inr ⟨_, _, _, rfl, Nat.le_refl _, hW', Nat.le_refl _, hmax, by rw [List.size_toArray]; exact hfl, ?_⟩⟩, hfl, ?_⟩
  ·simp only [List.toList_toArray]
   exact List.take_of_length_le (by rw [hfl]; exact Nat.le_refl _)
  ·intro j p hj
   obtain ⟨hj1, rfl⟩ := List.getElem?_eq_some_iff.1 hj
   have e := cells24_at x.xs j hj1
   show k24.M W' W.heap.size _ _ (((cells24 x.xs).drop (j * 3)).take 3)
   rw [e]
   exact k24_mkM _ _ _ _
 by_cases h0 : x.xs.length = 0
 rotate_left
 ·obtain ⟨ad, hA, hc⟩ := hr (by omega)
  have hfl := cells24_length x.xs
  have hcp := run_copy_K (P := Try.prog) _ 54 54 3 24 W.heap.size x.xs.length x.xs.length x.c ad Z 24 (cells24 x.xs) 3 Try.underlying54 (by kernel_rfl) hg hfl (by omega) ?_ ?_
  ·exact ⟨_, by rw [hA]; exact hcp, own _ (setRow_heap _ _ _ _ _ _ hg), below_setRow hbw (Nat.le_refl _) _, by simp [World.setRow]⟩
  ·intro j v hj
   have hj1 : j < x.xs.length * 3 := by rw [← hfl]; exact (List.getElem?_eq_some_iff.1 hj).1
   obtain ⟨c, hcl, hk, hcell⟩ := hc (j / 3) _ (List.getElem?_eq_getElem (by omega))
   have hc3 := k24_open hk
   have e : ((cells24 x.xs).drop (j / 3 * 3)).take 3 = c := by rw [hc3]; exact cells24_at x.xs (j / 3) (by omega)
   have h := hcell (j % 3) v (by
    rw [← e, List.getElem?_take, if_pos (by omega), List.getElem?_drop, show j / 3 * 3 + j % 3 = j from by omega]
    exact hj)
   have hs : k24.sz = 3 := rfl
   rw [hs, show j / 3 * 3 + j % 3 = j from by omega] at h
   exact h
  ·intro v hv
   obtain ⟨y, _, hy⟩ := List.mem_flatMap.1 (show v ∈ x.xs.flatMap _ from hv)
   simp at hy
   rcases hy with rfl | rfl | rfl <;> rfl
 have hx : x.xs = [] := List.eq_nil_of_length_eq_zero h0
 have hZ0 : Z = #[] := by apply Array.eq_empty_of_size_eq_zero; omega
 refine ⟨W.alloc (.cells Z 24), ?_, own _ ?_, hbw, by simp⟩
 ·rw [h0]; exact run_copy_K0 _ 54 54 3 24 _ _ _ _ 3 Try.underlying54 (by kernel_rfl)
 ·rw [hg, hx, hZ0]; rfl
set_option maxHeartbeats 1000000 in
set_option maxRecDepth 100000 in
theorem v_Set.callsS (A0 : Option Addr) (c0 : Nat) (l0 : List (List S24)) (w : World) (hr0 : Kd.C (Kd.slice 24 k24) w A0 l0.length l0) (hc0 : l0.length ≤ c0) (hn : l0.length < 65536) (hrow : ∀ r ∈ l0, r.length < 4398046511104) :
  Calls Try.prog 54 #[.slice A0 l0.length c0] w fun e w' => ∃ v0_ : Value, e = .returned (v0_) ∧ Kd.S (Kd.slice 24 k24) 54 w' w.heap.size (fun _ => True) v0_ (setOf l0) ∧ Below w.heap.size w w' := by
 obtain ⟨d, rfl, hdl, hdC⟩ := hdrs_of_C hr0
 rw [List.length_map] at hdC hn hc0 ⊢
 clear hr0 hdl
 obtain ⟨i54, hi54, hz54, hs54, hb54⟩ := info_parts info54
 have hmk : ∀ W : World, (Instr.makeSlice 55 (.int .i64 (d.length : Int)) (.int .i64 (d.length : Int))).run Try.prog W = .ok (.slice (some ⟨W.heap.size, 0, none⟩) d.length d.length) (W.alloc (.cells (List.replicate d.length (.slice none 0 0)).toArray 54)) := by
  intro W
  have h := run_make_rowN (P := Try.prog) 55 54 i54 (.slice none 0 0) Try.underlying55 hi54 hz54 .i64 .i64 d.length d.length (Nat.le_refl _) (by rw [hb54]; omega) (by omega) W
  rw [hs54] at h
  rw [h]
  congr 3
  exact madeCells_one _ _
 clear hi54 hz54 hs54 hb54
 obtain ⟨W2, hcp, hG2, hB2⟩ : ∃ W2 : World, (Builtin.copy_ #[55, 55] 3 #[.slice (some ⟨w.heap.size, 0, none⟩) d.length d.length, .slice A0 d.length c0]).run Try.prog (w.alloc (.cells (List.replicate d.length (.slice none 0 0)).toArray 54)) = .ok (goInt d.length) W2 ∧
   W2.heap[w.heap.size]? = some (.cells (d.map Hdr.enc).toArray 54 (0, 0)) ∧ Below w.heap.size w W2 := by
  have hg := heap_alloc_new w (.cells (List.replicate d.length (.slice none 0 0)).toArray 54)
  have hb := below_alloc (Below.refl w.heap.size w) (.cells (List.replicate d.length (.slice none 0 0)).toArray 54)
  by_cases h0 : d.length = 0
  rotate_left
  ·obtain ⟨ad, rfl, _⟩ := hdC.2.2 (by omega)
   have hdC' := Kd.C_below hdC hb
   refine ⟨_, run_copy_K _ 55 55 3 54 w.heap.size d.length d.length c0 ad _ 54 (d.map Hdr.enc) 1 Try.underlying55 (by kernel_rfl) hg (by simp) (by simp) ?_ ?_, setRow_heap _ _ _ _ _ _ hg, ?_⟩
   ·intro j v hj
    rw [List.getElem?_map] at hj
    obtain ⟨x, hx, rfl⟩ := Option.map_eq_some_iff.1 hj
    obtain ⟨hj1, rfl⟩ := List.getElem?_eq_some_iff.1 hx
    exact hdr_cell hdC' j hj1
   ·intro v hv
    obtain ⟨x, _, rfl⟩ := List.mem_map.1 hv
    rfl
   ·exact below_setRow hb (Nat.le_refl _) _
  have hd : d = [] := List.eq_nil_of_length_eq_zero h0
  subst hd
  exact ⟨_, run_copy_K0 _ 55 55 3 54 _ _ _ _ 1 Try.underlying55 (by kernel_rfl), hg, hb⟩
 have HCP := Aside0.mk hcp
 have HG2 := Aside0.mk hG2
 have HB2 := Aside0.mk hB2
 clear hcp hG2 hB2
 have HD := Aside0.mk hdC
 have HN := Aside0.mk hn
 have HROW := Aside0.mk hrow
 have HC := Aside0.mk hc0
 clear hdC hrow hc0
 go_enter Try.func54, Try.ntmps54
 go_wp2_with (first | ((with_reducible refine gate_builtin (b := .copy) (xs := #[.tmp 11, .tmp 12]) rfl ?_); refine Lib.wpList_copy_run _ rfl (.tmp 11) (.tmp 12) 55 55 rfl _ _ rfl rfl HCP.out ?_) | (go_at_call 88; refine (sortRows_call w _ HB2.out w.heap.size (Nat.le_refl _) d HG2.out (by omega)).mono ?_; rintro e w3 ⟨rfl, s, hs, hsl, hsc, hsb, hsg⟩; have HS := Aside0.mk hs; have HSL := Aside0.mk hsl; have HSC := Aside0.mk hsc; have HB := Aside0.mk hsb; have HLT := Aside0.mk hsg; clear hs hsl hsc hsb hsg HCP HG2 HB2))
 have HN2 : Aside0 (s.length = d.length) := HSL
 obtain ⟨i24, hi24, hz24, hs24, hb24⟩ := info_parts info24
 have hmk24 : ∀ (m : Nat), m < 4398046511104 → ∀ W : World, (Instr.makeSlice 54 (.int .i64 (m : Int)) (.int .i64 (m : Int))).run Try.prog W = .ok (.slice (some ⟨W.heap.size, 0, none⟩) m m) (W.alloc (.cells (madeCells #[.int .i64 0, .int .i64 0, .string ⟨#[]⟩] (m * 3)) 24)) := by
  intro m hm W
  have h := run_make_rowN (P := Try.prog) 54 24 i24 _ Try.underlying54 hi24 hz24 .i64 .i64 m m (Nat.le_refl _) (by rw [hb24]; omega) (by omega) W
  rw [hs24] at h
  exact h
 have HMK := Aside0.mk hmk24
 clear hmk24 hi24 hz24 hs24 hb24 hmk HSL
 go_loopg [4, 18] d.length (fun gk v4 v18 wr => ∃ k : Nat, k ≤ d.length ∧ d.length - k ≤ gk ∧ v18 = .int .i64 k ∧ Aside0 (Kd.S (Kd.slice 24 k24) 54 wr w.heap.size (fun b => b ≠ w.heap.size) v4 (ded none ((s.map Hdr.xs).take k))) ∧ Aside0 (wr.heap[w.heap.size]? = w3.heap[w.heap.size]?) ∧ Aside0 (w.heap.size < wr.heap.size) ∧ Aside0 (Below w.heap.size w wr))
 case atStart => exact ⟨0, Nat.zero_le _, Nat.le_refl _, rfl, ⟨Kd.S_nil _ _ _ _ _⟩, ⟨rfl⟩, HLT, HB⟩
 case round =>
  clear HB HLT
  obtain ⟨k, hk, hgk, rfl, HO, HH, HLT, HB⟩ := hrel
  by_cases hlt : k < d.length
  rotate_left
  ·have hkd : k = d.length := by omega
   subst hkd
   go_wp2
   go_ret
   refine ⟨_, rfl, ?_, HB.out⟩
   have e : (s.map Hdr.xs).take d.length = s.map Hdr.xs := List.take_of_length_le (by rw [List.length_map, HN2.out]; exact Nat.le_refl _)
   have h1 := HO.out
   rw [e, HS.out] at h1
   exact Kd.S_mono h1 (fun _ _ => trivial)
  have hks : k < s.length := by have := HN2.out; omega
  obtain ⟨x, hx⟩ : ∃ x, x = s[k] := ⟨_, rfl⟩
  have hck : wr.cell? ⟨w.heap.size, k, none⟩ = some (.slice x.A x.xs.length x.c) := by rw [cell_of_heap HH.out, HSC.out k hks, ← hx]; rfl
  have HX := Aside0.mk hx
  have HM : x.xs.length < 4398046511104 := by
   have h1 : x.xs ∈ (s.map Hdr.xs) := List.mem_map.2 ⟨x, by rw [hx]; exact List.getElem_mem _, rfl⟩
   rw [HS.out, List.mem_mergeSort] at h1
   exact HROW.out _ h1
  have hmx := HMK.out x.xs.length HM
  have HMX := Aside0.mk HM
  obtain ⟨O, hO⟩ : ∃ O, O = ded none ((s.map Hdr.xs).take k) := ⟨_, rfl⟩
  rw [← hO] at HO
  have HOL : Aside0 (O.length < 65536) := aK (by rw [hO]; have h1_ := ded_len ((s.map Hdr.xs).take k) none; have h2_ := HN.out; rw [List.length_take] at h1_; omega)
  have HOE := Aside0.mk hO
  obtain ⟨Ao, co, eo⟩ := Kd.S_slice HO.out
  subst eo
  clear hx HM hO
  by_cases hk0 : k = 0
  rotate_left
  ·obtain ⟨m, rfl⟩ : ∃ m, k = m + 1 := ⟨k - 1, by omega⟩
   obtain ⟨y, hy⟩ : ∃ y, y = s[m] := ⟨_, rfl⟩
   have hcy : wr.cell? ⟨w.heap.size, m, none⟩ = some (.slice y.A y.xs.length y.c) := by rw [cell_of_heap HH.out, HSC.out m (by omega), ← hy]; rfl
   have HY := Aside0.mk hy
   obtain ⟨c, hce⟩ : ∃ c, cmpL y.xs x.xs = c := ⟨_, rfl⟩
   have HCE := Aside0.mk hce
   clear hy hce hk0
   by_cases hc0 : c = 0
   rotate_left
   ·have hc1 : (c == 0) = false := beq_eq_false_iff_ne.2 hc0
    have HC0 := Aside0.mk hc0
    clear hc0
    go_wp2_with (first | (go_at_call 52; refine (cmp_hdrs' HB.out y x c HCE.out).mono ?_; rintro e w5 ⟨rfl, hb5⟩; have HB5 := aK (below_step HB.out hb5); have HO5 := aK (Kd.S_below HO.out hb5); have HH5 := aK ((hb5.block _ HLT.out).trans HH.out); have HLT5 := aK (Nat.lt_of_lt_of_le HLT.out hb5.size); clear hb5; obtain ⟨W', hcp, hR, hBW, hLW⟩ := copyRow x HB5.out (madeCells #[.int .i64 0, .int .i64 0, .string ⟨#[]⟩] (x.xs.length * 3)) (size_madeCells _ _); have HCP := Aside0.mk hcp; have HR := Aside0.mk hR; have HBW := Aside0.mk hBW; have HLW := Aside0.mk hLW; clear hcp hR hBW hLW) | ((with_reducible refine gate_builtin (b := .copy) (xs := #[.tmp 38, .tmp 39]) rfl ?_); refine Lib.wpList_copy_run _ rfl (.tmp 38) (.tmp 39) 54 54 rfl _ _ rfl rfl HCP.out ?_) | ((with_reducible refine gate_builtin (b := .append) (xs := #[.tmp 41, .tmp 43]) rfl ?_); at_builtin; refine Kd.S_append (Kd.slice 24 k24) (w0 := w) w.heap.size rfl (.tmp 41) (.tmp 43) 55 54 (.slice none 0 0) 24 rfl Try.underlying55 info54 rfl (by decide) (by omega) (.slice Ao O.length co) O x.xs [.slice (some ⟨w5.heap.size, 0, none⟩) x.xs.length x.xs.length] (fun b => b ≠ w.heap.size) (fun b => b = w5.heap.size) rfl rfl ?aP ?aK ?aF ?aO ?aB ?aS ?aL ?_; (case aP => exact Kd.M_row (Kd.R_lower HR.out (Nat.le_trans HB5.out.size (Nat.le_refl _)))); (case aK => rintro b rfl; exact ⟨by have := HLT5.out; omega, fun e => Nat.lt_irrefl _ (Kd.S_lt HO5.out _ e.symm)⟩); (case aF => intro b hb; have h1_ := HLT5.out; have h2_ := HLW.out; omega); (case aO => exact Kd.S_below (Kd.S_elderB HO5.out _ (Nat.le_refl _)) HBW.out); (case aB => exact below_step HB5.out HBW.out); (case aS => exact (below_step HB5.out HBW.out).size); (case aL => have h1_ := HOL.out; omega); intro v1 w1 ho hb hg hat; have HO1 := Aside0.mk ho; have HB1 := Aside0.mk hb; have HG1 := Aside0.mk hg; clear ho hb hg hat))
    have HNE : some w.heap.size ≠ (.slice Ao O.length co : Value).ownBlock := fun e => (Kd.S_R HO5.out).1 _ e.symm rfl
    have HH1 : w1.heap[w.heap.size]? = w3.heap[w.heap.size]? := (HG1.out.block _ (by have h1_ := HLT5.out; have h2_ := HLW.out; omega) HNE).trans ((HBW.out.block _ HLT5.out).trans HH5.out)
    have HLT1 : w.heap.size < w1.heap.size := by have h1_ := HLT5.out; have h2_ := HLW.out; have h3_ := HG1.out.size; omega
    go_roundg (d.length - (m + 2))
    case measure => omega
    case rel =>
     refine ⟨m + 2, by omega, Nat.le_refl _, by go_num, ⟨?_⟩, ⟨HH1⟩, ⟨HLT1⟩, HB1⟩
     have e := ded_take (s.map Hdr.xs) m (by rw [List.length_map]; exact hks)
     rw [e, ← HOE.out, List.getElem_map, List.getElem_map, ← HX.out, ← HY.out, if_neg (by rw [HCE.out]; exact HC0.out)]
     exact HO1.out
   subst hc0
   go_wp2_with (first | (go_at_call 52; refine (cmp_hdrs' HB.out y x 0 HCE.out).mono ?_; rintro e w5 ⟨rfl, hb5⟩; have HB5 := aK (below_step HB.out hb5); have HO5 := aK (Kd.S_below HO.out hb5); have HH5 := aK ((hb5.block _ HLT.out).trans HH.out); have HLT5 := aK (Nat.lt_of_lt_of_le HLT.out hb5.size); clear hb5; obtain ⟨W', hcp, hR, hBW, hLW⟩ := copyRow x HB5.out (madeCells #[.int .i64 0, .int .i64 0, .string ⟨#[]⟩] (x.xs.length * 3)) (size_madeCells _ _); have HCP := Aside0.mk hcp; have HR := Aside0.mk hR; have HBW := Aside0.mk hBW; have HLW := Aside0.mk hLW; clear hcp hR hBW hLW))
   go_roundg (d.length - (m + 2))
   case measure => omega
   case rel =>
    refine ⟨m + 2, by omega, Nat.le_refl _, by go_num, ⟨?_⟩, HH5, HLT5, HB5⟩
    have e := ded_take (s.map Hdr.xs) m (by rw [List.length_map]; exact hks)
    rw [e, ← HOE.out, List.getElem_map, List.getElem_map, ← HX.out, ← HY.out, if_pos HCE.out, List.append_nil]
    exact HO5.out
  subst hk0
  obtain ⟨W', hcp, hR, hBW, hLW⟩ := copyRow x HB.out (madeCells #[.int .i64 0, .int .i64 0, .string ⟨#[]⟩] (x.xs.length * 3)) (size_madeCells _ _)
  have HCP := Aside0.mk hcp
  have HR := Aside0.mk hR
  have HBW := Aside0.mk hBW
  have HLW := Aside0.mk hLW
  clear hcp hR hBW hLW
  go_wp2_with (first | ((with_reducible refine gate_builtin (b := .copy) (xs := #[.tmp 38, .tmp 39]) rfl ?_); refine Lib.wpList_copy_run _ rfl (.tmp 38) (.tmp 39) 54 54 rfl _ _ rfl rfl HCP.out ?_) | ((with_reducible refine gate_builtin (b := .append) (xs := #[.tmp 41, .tmp 43]) rfl ?_); at_builtin; refine Kd.S_append (Kd.slice 24 k24) (w0 := w) w.heap.size rfl (.tmp 41) (.tmp 43) 55 54 (.slice none 0 0) 24 rfl Try.underlying55 info54 rfl (by decide) (by omega) (.slice Ao O.length co) O x.xs [.slice (some ⟨wr.heap.size, 0, none⟩) x.xs.length x.xs.length] (fun b => b ≠ w.heap.size) (fun b => b = wr.heap.size) rfl rfl ?aP ?aK ?aF ?aO ?aB ?aS ?aL ?_; (case aP => exact Kd.M_row (Kd.R_lower HR.out (Nat.le_trans HB.out.size (Nat.le_refl _)))); (case aK => rintro b rfl; exact ⟨by have := HLT.out; omega, fun e => Nat.lt_irrefl _ (Kd.S_lt HO.out _ e.symm)⟩); (case aF => intro b hb; have h1_ := HLT.out; have h2_ := HLW.out; omega); (case aO => exact Kd.S_below (Kd.S_elderB HO.out _ (Nat.le_refl _)) HBW.out); (case aB => exact below_step HB.out HBW.out); (case aS => exact (below_step HB.out HBW.out).size); (case aL => have h1_ := HOL.out; omega); intro v1 w1 ho hb hg hat; have HO1 := Aside0.mk ho; have HB1 := Aside0.mk hb; have HG1 := Aside0.mk hg; clear ho hb hg hat))
  have HNE : some w.heap.size ≠ (.slice Ao O.length co : Value).ownBlock := fun e => (Kd.S_R HO.out).1 _ e.symm rfl
  have HH1 : w1.heap[w.heap.size]? = w3.heap[w.heap.size]? := (HG1.out.block _ (by have h1_ := HLT.out; have h2_ := HLW.out; omega) HNE).trans ((HBW.out.block _ HLT.out).trans HH.out)
  have HLT1 : w.heap.size < w1.heap.size := by have h1_ := HLT.out; have h2_ := HLW.out; have h3_ := HG1.out.size; omega
  go_roundg (d.length - 1)
  case measure => omega
  case rel =>
   refine ⟨1, by omega, Nat.le_refl _, rfl, ⟨?_⟩, ⟨HH1⟩, ⟨HLT1⟩, HB1⟩
   have e := ded_take0 (s.map Hdr.xs) (by rw [List.length_map]; exact hks)
   rw [e, ← HOE.out, List.getElem_map, ← HX.out]
   exact HO1.out
theorem v_Set.calls (k : Nat) (A0 : Option Addr) (c0 : Nat) (l0 : List (List (S24))) (r : List (List (S24))) (w : World) (hr0 : Kd.C (Kd.slice 24 k24) w A0 l0.length l0) (hc0 : l0.length ≤ c0) (h : v_Set.f k l0 = some r) :
  Calls Try.prog 54 #[.slice A0 l0.length c0] w fun e w' => ∃ v0_ : Value, e = .returned (v0_) ∧ Kd.S (Kd.slice 24 k24) 54 w' w.heap.size (fun _ => True) v0_ r ∧ Below w.heap.size w w' := by
 unfold v_Set.f at h
 split at h
 ·rename_i hk
  cases h
  unfold okRows at hk
  rw [Bool.and_eq_true, decide_eq_true_iff, List.all_eq_true] at hk
  exact v_Set.callsS A0 c0 l0 w hr0 hc0 hk.1 (fun r hr => of_decide_eq_true (hk.2 r hr))
 ·cases h
end Go.Proofs.Ytpjcdacnhalclaa.Q
