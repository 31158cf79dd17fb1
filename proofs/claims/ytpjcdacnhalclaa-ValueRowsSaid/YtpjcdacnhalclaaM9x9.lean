/- A part of a proof: facts of functions that the law calls; conditions stand in each. -/
import Derived.Test.YtpjcdacnhalclaaM9x2
import Derived.Test.YtpjcdacnhalclaaM9x8
import Derived.Test.YtpjcdacnhalclaaM9x7
import Derived.Test.YtpjcdacnhalclaaM9x6
import Derived.Test.YtpjcdacnhalclaaM9x4
import Derived.Deep.Slices
import Derived.Test.YtpjcdacnhalclaaRows
set_option linter.unusedVariables false
set_option linter.unusedSimpArgs false
namespace Go.Proofs.Ytpjcdacnhalclaa.Q
open Go.RowKit Go.Proofs.YtpjcdacnhalclaaW.PrintWords Go.Proofs.YtpjcdacnhalclaaW.PrintLast Go.Proofs.YtpjcdacnhalclaaW.PrintMore
attribute [local go_sem] max2_int min2_int max_two min_two max_three min_three max_four min_four
mutual
def r1_CompareRows.l0 : Nat → List (S24) → List (S24) → Int → Option (Int)
 | 0, _, _, _ => none
 | k + 1, x0, x1, x5 => if x5 < (x0.length : Int) then (r1_CompareRows.j1 k x0 x1 x5 (decide (x5 < (x1.length : Int)))) else (r1_CompareRows.j1 k x0 x1 x5 false)
def r1_CompareRows.j1 : Nat → List (S24) → List (S24) → Int → Bool → Option (Int)
 | 0, _, _, _, _ => none
 | k + 1, x0, x1, x5, x16 => if x16 = true then (if 0 ≤ x5 then (if x5 < (x0.length : Int) then (if x5 < (x1.length : Int) then ((r1_Compare.f ((rd_T24 x0 x5).f0) ((rd_T24 x0 x5).f1) ((rd_T24 x0 x5).f2) ((rd_T24 x1 x5).f0) ((rd_T24 x1 x5).f1) ((rd_T24 x1 x5).f2)).bind fun t160 => (if t160 = 0 then (r1_CompareRows.l0 k x0 x1 (wrap64 (x5 + 1))) else (some t160))) else (none)) else (none)) else (none)) else (if (x0.length : Int) < (x1.length : Int) then (some (-1)) else (if (x0.length : Int) > (x1.length : Int) then (some 1) else (some 0)))
end
def r1_CompareRows.f (k : Nat) (l0 : List (S24)) (l1 : List (S24)) : Option (Int) := r1_CompareRows.l0 k l0 l1 0
def r1_CompareRows.T4 : Bool × List (List Nat × List Nat) := (true, [([], []), ([], []), ([0, 1], [0, 1]), ([2], [2]), ([], []), ([], []), ([4, 5], [4, 5]), ([6], [6]), ([3, 7], [3, 7]), ([8, 8, 0, 1, 2, 3, 4, 5, 6, 7, 8], [8])])
def r1_CompareRows.B4 : List Nat := [0, 0, 3, 7, 0, 0, 48, 112, 255, 511]
theorem r1_CompareRows.tab4 : rtab .any (opsOf Try.f53 4) = r1_CompareRows.T4 := by kernel_rfl
theorem r1_CompareRows.bits4 : waitsOk r1_CompareRows.T4.2 r1_CompareRows.B4 = true := by kernel_rfl
set_option maxHeartbeats 8000000 in
set_option maxRecDepth 100000 in
theorem r1_CompareRows.calls (k : Nat) (A0 : Option Addr) (c0 : Nat) (l0 : List (S24)) (A1 : Option Addr) (c1 : Nat) (l1 : List (S24)) (r : Int) (w : World) (hr0 : Kd.C k24 w A0 l0.length l0) (hc0 : l0.length ≤ c0) (hr1 : Kd.C k24 w A1 l1.length l1) (hc1 : l1.length ≤ c1) (h : r1_CompareRows.f k l0 l1 = some r) :
  Calls Try.prog 53 #[.slice A0 l0.length c0, .slice A1 l1.length c1] w fun e w' => e = .returned (.int .i64 r) ∧ Below w.heap.size w w' := by
 have hu24 := Try.underlying24
 have HR0 := Aside0.mk hr0
 have HC0 := Aside0.mk hc0
 clear hr0 hc0
 have HR1 := Aside0.mk hr1
 have HC1 := Aside0.mk hc1
 clear hr1 hc1
 have HB := aK (Below.refl w.heap.size w)
 have H : (r1_CompareRows.l0 k l0 l1 0) = some r := h
 clear h
 have H' := Aside0.mk H
 clear H
 go_enter Try.func53, Try.ntmps53
 go_wp2
 go_loopg [5] k (fun kq v5 w' => ∃ (x5_1 : Int), v5 = .int .i64 x5_1 ∧ Aside0 (r1_CompareRows.l0 kq l0 l1 x5_1 = some r) ∧ Aside0 (kq ≤ k) ∧ Aside0 (Below w.heap.size w w'))
 case atStart => exact ⟨(0), (by first | rfl | (simp; done) | (simp [*]; done)), H', ⟨Nat.le_refl _⟩, ⟨bO⟩⟩
 case round =>
  clear H'
  try clear c1
  try clear p2
  obtain ⟨x5_1, rfl, HA, HK1, HB⟩ := hrel
  cases gk with
  | zero => exact absurd HA.out (by simp [r1_CompareRows.l0])
  | succ k1 =>
   have H := HA.out
   clear HA
   simp only [r1_CompareRows.l0] at H
   have HC3 := Aside0.mk H
   clear H
   go_upto_region 2 with (fail)
   go_cut [16] (fun v16 wc => ∃ (kq : Nat) (x16_2 : Bool), v16 = .bool x16_2 ∧ Aside0 (r1_CompareRows.j1 kq l0 l1 x5_1 x16_2 = some r) ∧ Aside0 (kq ≤ k1) ∧ Aside0 (Below w.heap.size w wc))
   case first =>
    have H := HC3.out
    clear HC3
    by_cases c4 : x5_1 < (l0.length : Int)
    rotate_left
    ·rw [if_neg c4] at H
     have c4b0 : decide (x5_1 < (l0.length : Int)) = false := decide_eq_false c4
     clear c4
     (first | rw [c4b0] | (simp only [i64_w, i32_w]; rw [c4b0]) | skip)
     have H' := Aside0.mk H
     clear H
     go_wp2
     go_meet
     case rel => exact ⟨_, (false), (by first | rfl | (simp; done) | (simp [*]; done)), H', ⟨by have := HK1.out; first | omega | exact Nat.le_refl _⟩, ⟨bO⟩⟩
    rw [if_pos c4] at H
    have c4b0 : decide (x5_1 < (l0.length : Int)) = true := decide_eq_true c4
    clear c4
    (first | rw [c4b0] | (simp only [i64_w, i32_w]; rw [c4b0]) | skip)
    have H' := Aside0.mk H
    clear H
    go_wp2
    go_meet
    case rel => exact ⟨_, (decide (x5_1 < (l1.length : Int))), (by first | rfl | (simp; done) | (simp [*]; done)), H', ⟨by have := HK1.out; first | omega | exact Nat.le_refl _⟩, ⟨bO⟩⟩
   case rest =>
    clear HC3
    try clear c1
    try clear p2
    try clear c4
    try clear c4b0
    try clear p2
    obtain ⟨kq, x16_2, rfl, HA, HJ2, HB⟩ := hcut
    cases kq with
    | zero => exact absurd HA.out (by simp [r1_CompareRows.j1])
    | succ kj2 =>
     have H := HA.out
     clear HA
     simp only [r1_CompareRows.j1] at H
     by_cases c5 : x16_2 = true
     rotate_left
     ·replace c5 := Bool.eq_false_iff.mpr c5
      subst c5
      rw [if_neg (show ¬ (false = true) by decide)] at H
      by_cases c15 : (l0.length : Int) < (l1.length : Int)
      rotate_left
      ·rw [if_neg c15] at H
       have c15b0 : decide ((l0.length : Int) < (l1.length : Int)) = false := decide_eq_false c15
       have c15b1 : decide (l0.length < l1.length) = false := decide_eq_false (fun h => c15 (Int.ofNat_lt.mpr h))
       clear c15
       by_cases c16 : (l0.length : Int) > (l1.length : Int)
       rotate_left
       ·rw [if_neg c16] at H
        have c16b0 : decide ((l1.length : Int) < (l0.length : Int)) = false := decide_eq_false c16
        have c16b1 : decide (l1.length < l0.length) = false := decide_eq_false (fun h => c16 (Int.ofNat_lt.mpr h))
        clear c16
        obtain rfl := Option.some.inj H
        go_wp2
        go_ret
        exact ⟨eW, bO⟩
       rw [if_pos c16] at H
       have c16b0 : decide ((l1.length : Int) < (l0.length : Int)) = true := decide_eq_true c16
       have c16b1 : decide (l1.length < l0.length) = true := decide_eq_true (Int.ofNat_lt.mp c16)
       clear c16
       obtain rfl := Option.some.inj H
       go_wp2
       go_ret
       exact ⟨eW, bO⟩
      rw [if_pos c15] at H
      have c15b0 : decide ((l0.length : Int) < (l1.length : Int)) = true := decide_eq_true c15
      have c15b1 : decide (l0.length < l1.length) = true := decide_eq_true (Int.ofNat_lt.mp c15)
      clear c15
      obtain rfl := Option.some.inj H
      go_wp2
      go_ret
      exact ⟨eW, bO⟩
     subst c5
     rw [if_pos rfl] at H
     by_cases c6 : 0 ≤ x5_1
     rotate_left
     ·rw [if_neg c6] at H
      exact absurd H (by simp)
     rw [if_pos c6] at H
     have c6b0 : decide (0 ≤ x5_1) = true := decide_eq_true c6
     clear c6
     by_cases c7 : x5_1 < (l0.length : Int)
     rotate_left
     ·rw [if_neg c7] at H
      exact absurd H (by simp)
     rw [if_pos c7] at H
     have c7b0 : decide (x5_1 < (l0.length : Int)) = true := decide_eq_true c7
     clear c7
     by_cases c8 : x5_1 < (l1.length : Int)
     rotate_left
     ·rw [if_neg c8] at H
      exact absurd H (by simp)
     rw [if_pos c8] at H
     have c8b0 : decide (x5_1 < (l1.length : Int)) = true := decide_eq_true c8
     clear c8
     obtain ⟨t160, A9, H⟩ := oB H
     try dsimp only at H
     by_cases c10 : t160 = 0
     rotate_left
     ·rw [if_neg c10] at H
      have c10b0 : (t160 == 0) = false := beq_eq_false_iff_ne.mpr c10
      have c10b1 : (t160 != 0) = true := bne_iff_ne.mpr c10
      obtain rfl := Option.some.inj H
      try go_wp2
      have n0_ := aK (below_drew1 HB.out)
      clear HB
      have HB := n0_
      clear n0_
      have p158 : 0 ≤ (x5_1 : Int) := of_decide_eq_true (aA)
      have q158 : x5_1 < (l0.length : Int) := of_decide_eq_true (aA)
      obtain ⟨ad158, e158, hx158_0, hx158_1, hx158_2⟩ := at_T24 HR0.out x5_1 p158 q158
      have hw158_2 := hx158_2
      have hw158_1 := hx158_1
      have hw158_0 := hx158_0
      cases e158
      replace hx158_0 := hW HB.out hx158_0
      replace hx158_1 := hW HB.out hx158_1
      replace hx158_2 := hW HB.out hx158_2
      replace p158 := eq_true p158
      replace q158 := eq_true q158
      have p159 : 0 ≤ (x5_1 : Int) := of_decide_eq_true (aA)
      have q159 : x5_1 < (l1.length : Int) := of_decide_eq_true (aA)
      obtain ⟨ad159, e159, hx159_0, hx159_1, hx159_2⟩ := at_T24 HR1.out x5_1 p159 q159
      have hw159_2 := hx159_2
      have hw159_1 := hx159_1
      have hw159_0 := hx159_0
      cases e159
      replace hx159_0 := hW HB.out hx159_0
      replace hx159_1 := hW HB.out hx159_1
      replace hx159_2 := hW HB.out hx159_2
      replace p159 := eq_true p159
      replace q159 := eq_true q159
      refine start_ (n := 10) (S := fun w' => w'.cell? (ad158.add ((x5_1).toNat * 3)) = some (.int .i64 ((rd_T24 l0 x5_1).f0)) ∧ w'.cell? ⟨(ad158.add ((x5_1).toNat * 3)).block, (ad158.add ((x5_1).toNat * 3)).off + 1, none⟩ = some (.int .i64 ((rd_T24 l0 x5_1).f1)) ∧ w'.cell? ⟨(ad158.add ((x5_1).toNat * 3)).block, (ad158.add ((x5_1).toNat * 3)).off + 2, none⟩ = some (.string ((rd_T24 l0 x5_1).f2)) ∧ w'.cell? (ad159.add ((x5_1).toNat * 3)) = some (.int .i64 ((rd_T24 l1 x5_1).f0)) ∧ w'.cell? ⟨(ad159.add ((x5_1).toNat * 3)).block, (ad159.add ((x5_1).toNat * 3)).off + 1, none⟩ = some (.int .i64 ((rd_T24 l1 x5_1).f1)) ∧ w'.cell? ⟨(ad159.add ((x5_1).toNat * 3)).block, (ad159.add ((x5_1).toNat * 3)).off + 2, none⟩ = some (.string ((rd_T24 l1 x5_1).f2))) (ds := []) #[false, false, false, false, false, false, false, false, false, false] (by kernel_rfl) rfl rfl ⟨((HB.out.cell (World.block_lt_of_cell? w _ hw158_0)).trans hw158_0), ((HB.out.cell (World.block_lt_of_cell? w _ hw158_1)).trans hw158_1), ((HB.out.cell (World.block_lt_of_cell? w _ hw158_2)).trans hw158_2), ((HB.out.cell (World.block_lt_of_cell? w _ hw159_0)).trans hw159_0), ((HB.out.cell (World.block_lt_of_cell? w _ hw159_1)).trans hw159_1), ((HB.out.cell (World.block_lt_of_cell? w _ hw159_2)).trans hw159_2)⟩ (fun hHeld => ?_); refine with_tabW r1_CompareRows.tab4 r1_CompareRows.bits4 (fun HT_ HW_ => ?_)
      generalize wc.drew = w13 at HB hx158_0 hx158_1 hx158_2 hx159_0 hx159_1 hx159_2 hHeld ⊢
      refine pY (i := 0) (N := some 19) (tf 1 9) rfl rfl HT_.out ?_
      refine pY (i := 1) (N := some 20) (tf 2 8) rfl rfl HT_.out ?_
      refine pY (i := 2) (N := some 21) (tf 3 7) rfl rfl HT_.out ?_
      refine pY (i := 4) (N := some 23) #[true, true, true, false, true, false, false, false, false, false] rfl rfl HT_.out ?_
      refine pY (i := 5) (N := some 24) #[true, true, true, false, true, true, false, false, false, false] rfl rfl HT_.out ?_
      refine pY (i := 6) (N := some 25) #[true, true, true, false, true, true, true, false, false, false] rfl rfl HT_.out ?_
      refine take_ (i := 3) (N := some 22) (v := ?_) (a' := ?_) #[true, true, true, true, true, true, true, false, false, false] rfl rfl (take_ofW HT_.out HW_.out (by kernel_rfl)) (fun _ _ _ h => h) (Or.inl ⟨by rfl, ?_⟩) hHeld ?_ ?_
      rotate_left
      ·rintro w' ⟨s0, s1, s2, s3, s4, s5⟩
       go_simp
       with_reducible rfl
      rotate_left
      ·exact aP
      refine take_ (i := 7) (N := some 26) (v := ?_) (a' := ?_) #[true, true, true, true, true, true, true, true, false, false] rfl rfl (take_ofW HT_.out HW_.out (by kernel_rfl)) (fun _ _ _ h => h) (Or.inl ⟨by rfl, ?_⟩) hHeld ?_ ?_
      rotate_left
      ·rintro w' ⟨s0, s1, s2, s3, s4, s5⟩
       go_simp
       with_reducible rfl
      rotate_left
      ·exact aP
      refine one_ (i := 8) (N := some 27) #[true, true, true, true, true, true, true, true, true, false] rfl rfl (one_of HT_.out (by kernel_rfl)) (by decide) (fun K hK => ?_)
      refine goes_ Try.func26 (by kernel_rfl) rfl #[.agg #[.int .i64 ((rd_T24 l0 x5_1).f0), .int .i64 ((rd_T24 l0 x5_1).f1), .string ((rd_T24 l0 x5_1).f2)], .agg #[.int .i64 ((rd_T24 l1 x5_1).f0), .int .i64 ((rd_T24 l1 x5_1).f1), .string ((rd_T24 l1 x5_1).f2)]] (by rfl) rfl rfl (by (try simp only [List.map_toArray, List.map_cons, List.map_nil]); first | done | rfl | (simp only [List.length_drop, List.length_take]; rfl)) ?_
      with_reducible refine (r1_Compare.calls ((rd_T24 l0 x5_1).f0) ((rd_T24 l0 x5_1).f1) ((rd_T24 l0 x5_1).f2) ((rd_T24 l1 x5_1).f0) ((rd_T24 l1 x5_1).f1) ((rd_T24 l1 x5_1).f2) t160 _ A9.out).mono ?_
      rintro e w14 ⟨rfl, hb⟩
      refine ⟨_, rfl, ?_⟩
      have n0_ := aK (below_step bO hb)
      clear HB
      have HB := n0_
      clear n0_
      (try clear hb)
      (try clear hb2)
      (try clear hk)
      (try clear hi)
      refine hK.out _ _ ⟨((HB.out.cell (World.block_lt_of_cell? w _ hw158_0)).trans hw158_0), ((HB.out.cell (World.block_lt_of_cell? w _ hw158_1)).trans hw158_1), ((HB.out.cell (World.block_lt_of_cell? w _ hw158_2)).trans hw158_2), ((HB.out.cell (World.block_lt_of_cell? w _ hw159_0)).trans hw159_0), ((HB.out.cell (World.block_lt_of_cell? w _ hw159_1)).trans hw159_1), ((HB.out.cell (World.block_lt_of_cell? w _ hw159_2)).trans hw159_2)⟩ (fun hHeld => ?_)
      clear hK K
      refine norm_ (a' := ?_) ?_ ?_
      rotate_left
      ·show Act.put _ (some 27) _ = _
       simp only [Act.put, List.setIfInBounds_toArray, List.set_cons_zero, List.set_cons_succ, i64_w, i32_w]
       rfl
      refine pY (i := 9) (N := some 6) (tf 10 0) rfl rfl HT_.out ?_
      refine done_ (done_of HT_.out (by kernel_rfl)) ?_
      try go_wp2
      go_ret
      exact ⟨eW, bO⟩
     rw [if_pos c10] at H
     have c10b0 : (t160 == 0) = true := beq_iff_eq.mpr c10
     have c10b1 : (t160 != 0) = false := bne_eq_false_iff_eq.mpr c10
     clear c10
     have H' := Aside0.mk H
     clear H
     try go_wp2
     have n0_ := aK (below_drew1 HB.out)
     clear HB
     have HB := n0_
     clear n0_
     have p158 : 0 ≤ (x5_1 : Int) := of_decide_eq_true (aA)
     have q158 : x5_1 < (l0.length : Int) := of_decide_eq_true (aA)
     obtain ⟨ad158, e158, hx158_0, hx158_1, hx158_2⟩ := at_T24 HR0.out x5_1 p158 q158
     have hw158_2 := hx158_2
     have hw158_1 := hx158_1
     have hw158_0 := hx158_0
     cases e158
     replace hx158_0 := hW HB.out hx158_0
     replace hx158_1 := hW HB.out hx158_1
     replace hx158_2 := hW HB.out hx158_2
     replace p158 := eq_true p158
     replace q158 := eq_true q158
     have p159 : 0 ≤ (x5_1 : Int) := of_decide_eq_true (aA)
     have q159 : x5_1 < (l1.length : Int) := of_decide_eq_true (aA)
     obtain ⟨ad159, e159, hx159_0, hx159_1, hx159_2⟩ := at_T24 HR1.out x5_1 p159 q159
     have hw159_2 := hx159_2
     have hw159_1 := hx159_1
     have hw159_0 := hx159_0
     cases e159
     replace hx159_0 := hW HB.out hx159_0
     replace hx159_1 := hW HB.out hx159_1
     replace hx159_2 := hW HB.out hx159_2
     replace p159 := eq_true p159
     replace q159 := eq_true q159
     refine start_ (n := 10) (S := fun w' => w'.cell? (ad158.add ((x5_1).toNat * 3)) = some (.int .i64 ((rd_T24 l0 x5_1).f0)) ∧ w'.cell? ⟨(ad158.add ((x5_1).toNat * 3)).block, (ad158.add ((x5_1).toNat * 3)).off + 1, none⟩ = some (.int .i64 ((rd_T24 l0 x5_1).f1)) ∧ w'.cell? ⟨(ad158.add ((x5_1).toNat * 3)).block, (ad158.add ((x5_1).toNat * 3)).off + 2, none⟩ = some (.string ((rd_T24 l0 x5_1).f2)) ∧ w'.cell? (ad159.add ((x5_1).toNat * 3)) = some (.int .i64 ((rd_T24 l1 x5_1).f0)) ∧ w'.cell? ⟨(ad159.add ((x5_1).toNat * 3)).block, (ad159.add ((x5_1).toNat * 3)).off + 1, none⟩ = some (.int .i64 ((rd_T24 l1 x5_1).f1)) ∧ w'.cell? ⟨(ad159.add ((x5_1).toNat * 3)).block, (ad159.add ((x5_1).toNat * 3)).off + 2, none⟩ = some (.string ((rd_T24 l1 x5_1).f2))) (ds := []) #[false, false, false, false, false, false, false, false, false, false] (by kernel_rfl) rfl rfl ⟨((HB.out.cell (World.block_lt_of_cell? w _ hw158_0)).trans hw158_0), ((HB.out.cell (World.block_lt_of_cell? w _ hw158_1)).trans hw158_1), ((HB.out.cell (World.block_lt_of_cell? w _ hw158_2)).trans hw158_2), ((HB.out.cell (World.block_lt_of_cell? w _ hw159_0)).trans hw159_0), ((HB.out.cell (World.block_lt_of_cell? w _ hw159_1)).trans hw159_1), ((HB.out.cell (World.block_lt_of_cell? w _ hw159_2)).trans hw159_2)⟩ (fun hHeld => ?_); refine with_tabW r1_CompareRows.tab4 r1_CompareRows.bits4 (fun HT_ HW_ => ?_)
     generalize wc.drew = w11 at HB hx158_0 hx158_1 hx158_2 hx159_0 hx159_1 hx159_2 hHeld ⊢
     refine pY (i := 0) (N := some 19) (tf 1 9) rfl rfl HT_.out ?_
     refine pY (i := 1) (N := some 20) (tf 2 8) rfl rfl HT_.out ?_
     refine pY (i := 2) (N := some 21) (tf 3 7) rfl rfl HT_.out ?_
     refine pY (i := 4) (N := some 23) #[true, true, true, false, true, false, false, false, false, false] rfl rfl HT_.out ?_
     refine pY (i := 5) (N := some 24) #[true, true, true, false, true, true, false, false, false, false] rfl rfl HT_.out ?_
     refine pY (i := 6) (N := some 25) #[true, true, true, false, true, true, true, false, false, false] rfl rfl HT_.out ?_
     refine take_ (i := 3) (N := some 22) (v := ?_) (a' := ?_) #[true, true, true, true, true, true, true, false, false, false] rfl rfl (take_ofW HT_.out HW_.out (by kernel_rfl)) (fun _ _ _ h => h) (Or.inl ⟨by rfl, ?_⟩) hHeld ?_ ?_
     rotate_left
     ·rintro w' ⟨s0, s1, s2, s3, s4, s5⟩
      go_simp
      with_reducible rfl
     rotate_left
     ·exact aP
     refine take_ (i := 7) (N := some 26) (v := ?_) (a' := ?_) #[true, true, true, true, true, true, true, true, false, false] rfl rfl (take_ofW HT_.out HW_.out (by kernel_rfl)) (fun _ _ _ h => h) (Or.inl ⟨by rfl, ?_⟩) hHeld ?_ ?_
     rotate_left
     ·rintro w' ⟨s0, s1, s2, s3, s4, s5⟩
      go_simp
      with_reducible rfl
     rotate_left
     ·exact aP
     refine one_ (i := 8) (N := some 27) #[true, true, true, true, true, true, true, true, true, false] rfl rfl (one_of HT_.out (by kernel_rfl)) (by decide) (fun K hK => ?_)
     refine goes_ Try.func26 (by kernel_rfl) rfl #[.agg #[.int .i64 ((rd_T24 l0 x5_1).f0), .int .i64 ((rd_T24 l0 x5_1).f1), .string ((rd_T24 l0 x5_1).f2)], .agg #[.int .i64 ((rd_T24 l1 x5_1).f0), .int .i64 ((rd_T24 l1 x5_1).f1), .string ((rd_T24 l1 x5_1).f2)]] (by rfl) rfl rfl (by (try simp only [List.map_toArray, List.map_cons, List.map_nil]); first | done | rfl | (simp only [List.length_drop, List.length_take]; rfl)) ?_
     with_reducible refine (r1_Compare.calls ((rd_T24 l0 x5_1).f0) ((rd_T24 l0 x5_1).f1) ((rd_T24 l0 x5_1).f2) ((rd_T24 l1 x5_1).f0) ((rd_T24 l1 x5_1).f1) ((rd_T24 l1 x5_1).f2) t160 _ A9.out).mono ?_
     rintro e w12 ⟨rfl, hb⟩
     refine ⟨_, rfl, ?_⟩
     have n0_ := aK (below_step bO hb)
     clear HB
     have HB := n0_
     clear n0_
     (try clear hb)
     (try clear hb2)
     (try clear hk)
     (try clear hi)
     refine hK.out _ _ ⟨((HB.out.cell (World.block_lt_of_cell? w _ hw158_0)).trans hw158_0), ((HB.out.cell (World.block_lt_of_cell? w _ hw158_1)).trans hw158_1), ((HB.out.cell (World.block_lt_of_cell? w _ hw158_2)).trans hw158_2), ((HB.out.cell (World.block_lt_of_cell? w _ hw159_0)).trans hw159_0), ((HB.out.cell (World.block_lt_of_cell? w _ hw159_1)).trans hw159_1), ((HB.out.cell (World.block_lt_of_cell? w _ hw159_2)).trans hw159_2)⟩ (fun hHeld => ?_)
     clear hK K
     refine norm_ (a' := ?_) ?_ ?_
     rotate_left
     ·show Act.put _ (some 27) _ = _
      simp only [Act.put, List.setIfInBounds_toArray, List.set_cons_zero, List.set_cons_succ, i64_w, i32_w]
      rfl
     refine pY (i := 9) (N := some 6) (tf 10 0) rfl rfl HT_.out ?_
     refine done_ (done_of HT_.out (by kernel_rfl)) ?_
     try go_wp2
     go_roundg kj2
     case measure => have := HK1.out; have := HJ2.out; omega
     case rel => exact ⟨(wrap64 (x5_1 + 1)), (by first | rfl | (simp; done) | (simp [*]; done)), H', ⟨by have := HK1.out; have := HJ2.out; omega⟩, ⟨bO⟩⟩
mutual
def l1_ValueRows.l0 : Nat → List (List (S24)) → List (List (S24)) → Int → Int → Option (Bool)
 | 0, _, _, _, _ => none
 | k + 1, x8, x24, x25, x26 => if x26 < x25 then (if 0 ≤ x26 then (if x26 < (x24.length : Int) then (l1_ValueRows.l1 k x8 (rd_L4 x24 x26) x24 x25 x26 x8 (x8.length : Int) 0) else (none)) else (none)) else ((l1_begun.f k).bind fun t824 => (some t824))
def l1_ValueRows.l1 : Nat → List (List (S24)) → List (S24) → List (List (S24)) → Int → Int → List (List (S24)) → Int → Int → Option (Bool)
 | 0, _, _, _, _, _, _, _, _ => none
 | k + 1, x8, x10, x24, x25, x26, x30, x31, x32 => if x32 < x31 then (if 0 ≤ x32 then (if x32 < (x30.length : Int) then ((v_CompareRows.f k x10 (rd_L4 x30 x32)).bind fun t827 => ((r1_CompareRows.f k x10 (rd_L4 x30 x32)).bind fun t828 => (if t827 = t828 then ((v_CompareRows.f k (rd_L4 x30 x32) x10).bind fun t829 => (l1_ValueRows.j2 k x8 x10 (rd_L4 x30 x32) t827 x24 x25 x26 x30 x31 x32 (t827 != (wrap64 (-t829))))) else (l1_ValueRows.j2 k x8 x10 (rd_L4 x30 x32) t827 x24 x25 x26 x30 x31 x32 true)))) else (none)) else (none)) else (l1_ValueRows.l0 k x8 x24 x25 (wrap64 (x26 + 1)))
def l1_ValueRows.j2 : Nat → List (List (S24)) → List (S24) → List (S24) → Int → List (List (S24)) → Int → Int → List (List (S24)) → Int → Int → Bool → Option (Bool)
 | 0, _, _, _, _, _, _, _, _, _, _, _ => none
 | k + 1, x8, x10, x12, x13, x24, x25, x26, x30, x31, x32, x51 => if x51 = true then (some false) else (l1_ValueRows.l2 k x8 x10 x12 x13 x24 x25 x26 x30 x31 x32 x8 (x8.length : Int) 0)
def l1_ValueRows.l2 : Nat → List (List (S24)) → List (S24) → List (S24) → Int → List (List (S24)) → Int → Int → List (List (S24)) → Int → Int → List (List (S24)) → Int → Int → Option (Bool)
 | 0, _, _, _, _, _, _, _, _, _, _, _, _, _ => none
 | k + 1, x8, x10, x12, x13, x24, x25, x26, x30, x31, x32, x52, x53, x54 => if x54 < x53 then (if 0 ≤ x54 then (if x54 < (x52.length : Int) then (if x13 ≤ 0 then ((v_CompareRows.f k x12 (rd_L4 x52 x54)).bind fun t831 => (if t831 ≤ 0 then ((v_CompareRows.f k x10 (rd_L4 x52 x54)).bind fun t832 => (if t832 > 0 then (some false) else (l1_ValueRows.l2 k x8 x10 x12 x13 x24 x25 x26 x30 x31 x32 x52 x53 (wrap64 (x54 + 1))))) else (l1_ValueRows.l2 k x8 x10 x12 x13 x24 x25 x26 x30 x31 x32 x52 x53 (wrap64 (x54 + 1))))) else (l1_ValueRows.l2 k x8 x10 x12 x13 x24 x25 x26 x30 x31 x32 x52 x53 (wrap64 (x54 + 1)))) else (none)) else (none)) else (l1_ValueRows.l1 k x8 x10 x24 x25 x26 x30 x31 (wrap64 (x32 + 1)))
end
def l1_ValueRows.g (k : Nat) (l0 : List (List (S24))) : Option (Bool) := l1_ValueRows.l0 k l0 l0 (l0.length : Int) 0
def l1_ValueRows.f (k : Nat) (lc : List Int) (l1 l2 : List S24) : Option Bool := (cs_New.f lc 90).bind fun s => (l1_rows.f k s.1 s.2).bind fun q => if q.1.length < 4398046511104 then l1_ValueRows.g k (q.1 ++ [l1, l2]) else none
set_option maxHeartbeats 8000000 in
set_option maxRecDepth 100000 in
theorem l1_ValueRows.callsN (k : Nat) (Ac : Option Addr) (cc : Nat) (lc : List Int) (A1 : Option Addr) (c1 : Nat) (l1 : List S24) (A2 : Option Addr) (c2 : Nat) (l2 : List S24) (r : Bool) (wA : World) (hrc : Kd.C (Kd.int .u8) wA Ac lc.length lc) (hcc : lc.length ≤ cc) (hr1 : Kd.C k24 wA A1 l1.length l1) (hc1 : l1.length ≤ c1) (hr2 : Kd.C k24 wA A2 l2.length l2) (hc2 : l2.length ≤ c2) (h : l1_ValueRows.f k lc l1 l2 = some r) (HRT : Aside0 (r = true)) :
  Calls Try.prog 9 #[.slice Ac lc.length cc, .slice A1 l1.length c1, .slice A2 l2.length c2] wA fun e w' => e = .returned (.bool r) ∧ ∃ wb, Below wA.heap.size wA wb ∧ Below wb.heap.size wb w' := by
 have HRc := Aside0.mk hrc
 have HCc := Aside0.mk hcc
 have HR1 := Aside0.mk hr1
 have HC1 := Aside0.mk hc1
 have HR2 := Aside0.mk hr2
 have HC2 := Aside0.mk hc2
 clear hrc hcc hr1 hc1 hr2 hc2
 have HB := aK (Below.refl wA.heap.size wA)
 unfold l1_ValueRows.f at h
 obtain ⟨⟨t1, t2⟩, A2_, h⟩ := Option.bind_eq_some_iff.mp h
 obtain ⟨⟨t3, t4⟩, A3_, h⟩ := Option.bind_eq_some_iff.mp h
 have hlt : t3.length < 4398046511104 := by
  rcases Nat.lt_or_ge t3.length 4398046511104 with c | c
  ·exact c
  ·rw [if_neg (Nat.not_lt.2 c)] at h; cases h
 rw [if_pos hlt] at h
 have LT := Aside0.mk hlt
 have AN := Aside0.mk A2_
 have AR := Aside0.mk A3_
 have H' : Aside0 (l1_ValueRows.l0 k (t3 ++ [l1, l2]) (t3 ++ [l1, l2]) ((t3 ++ [l1, l2]).length : Int) 0 = some r) := ⟨h⟩
 clear h hlt A2_ A3_
 go_enter Try.func9, Try.ntmps9
 go_upto_region 3 with (first | ((with_reducible refine gate_callee (f := 18) rfl ?_); refine gL (some 17) rfl Try.func18 #[.slice Ac lc.length cc, .int .i64 90] rfl ?_; (with_reducible refine (cs_New.calls _ _ lc 90 t1 t2 wA _ ?side1 ?side2 ?side3 AN.out).mono ?_); (case side1 => exact bO); (case side2 => exact HRc.out); (case side3 => exact HCc.out); rintro e w3 ⟨g, rfl, ⟨w, BWN, BNW, hIN⟩, hb, hb2⟩; refine ⟨_, rfl, ?_⟩; have HI := Aside0.mk hIN; have HBW := Aside0.mk BWN; have HB1 := Aside0.mk BNW; clear hIN BWN BNW hb hb2 HB) | ((with_reducible refine gate_callee (f := 51) rfl ?_); refine gL (some 19) rfl Try.func51 #[.pointer (some ⟨g, 0, none⟩)] rfl ?_; (with_reducible refine (l1_rows.calls k g t1 t2 t3 t4 w _ ?side1 ?side2 AR.out).mono ?_); (case side1 => exact HI.out); (case side2 => exact HB1.out); rintro e w4 ⟨v0, rfl, ho, hi, hb, hk⟩; refine ⟨_, rfl, ?_⟩; have HV := aK (show ∀ b, v0.ownBlock = some b → wA.heap.size ≤ b ∧ b < w4.heap.size from fun b hb_ => ⟨Nat.le_trans (Nat.le_trans HBW.out.size HB1.out.size) (ho.1 b hb_), Kd.N_lt ho b hb_⟩); have HO := aK (Kd.N_mono (ok' := fun _ => True) (Kd.N_lower ho HB1.out.size) (fun _ _ => trivial)); have HB2 := Aside0.mk hb; have HBA := aK (HBW.out.trans (hb.mono HBW.out.size)); clear ho hi hb hk HI HB1; obtain ⟨Av, cv, ev⟩ := Kd.N_slice HO.out; subst ev) | ((with_reducible refine gate_dst (N := 22) rfl ?_); refine Kd.N_lit (Kd.slice 24 k24) _ 54 ?hg (N' := 22) ?hd (xs := [l1, l2]) (inner := [.slice A1 l1.length c1, .slice A2 l2.length c2]) (ok := fun k_ => k_ < wA.heap.size ∨ w4.heap.size ≤ k_) (okp := fun k_ => k_ < wA.heap.size) ?hr ?hp (fun _ hk => .inl hk) (.inr (Nat.le_refl _)) (Below.refl _ _) (Nat.le_refl _) (by simp) ?_; (case hd => rfl); (case hg => rfl); (case hr => exact hR); (case hp => exact Reps.one (Kd.FK_slice_mk HC1.out (Kd.F_step (Kd.C_F k24_heap HR1.out) (fun k_ hk_ _ => HBA.out.block k_ hk_))) (Reps.one (Kd.FK_slice_mk HC2.out (Kd.F_step (Kd.C_F k24_heap HR2.out) (fun k_ hk_ _ => HBA.out.block k_ hk_))) (Reps.none _ _))); intro v2 w5 ho2 hb hg_ hnew_; have HO2 := Aside0.mk ho2; have HB3 := aK (below_step HB2.out hb); have n0_ := aK (Kd.N_below HO.out hb); clear HO; have HO := n0_; clear n0_ ho2 hb hg_ hnew_ HB2; obtain ⟨A9, c9, e9⟩ := Kd.N_slice HO2.out; subst e9) | ((with_reducible refine gate_builtin (b := .append) (xs := #[.tmp 19, .tmp 22]) rfl ?_); at_builtin; refine Kd.N_append_rows (Kd.slice 24 k24) (w0 := w) w.heap.size rfl (.tmp 19) (.tmp 22) 55 54 (.slice none 0 0) 24 rfl Try.underlying55 info54 rfl (by decide) (by omega) (.slice Av t3.length cv) t3 [l1, l2] A9 _ c9 (fun _ => True) (fun k_ => k_ < wA.heap.size ∨ w4.heap.size ≤ k_) rfl rfl ?aO ?aF ?aP (fun _ _ => trivial) ?aB ?aS ?aL ?_; (case aO => exact HO.out); (case aF => exact Kd.N_F HO2.out); (case aP => exact fun k_ hk_ => ⟨trivial, fun he => by have h_ := HV.out _ he.symm; rcases hk_ with q | q <;> omega⟩); (case aB => exact HB3.out); (case aS => exact HB3.out.size); (case aL => have h_ := LT.out; show (t3.length + 2) * 24 ≤ _; omega); intro v3 w ho3 hb hg_ hat_; have HBWN := aK (HBW.out.trans (hb.mono HBW.out.size)); obtain ⟨l0, hl0⟩ : ∃ l0, l0 = t3 ++ [l1, l2] := ⟨_, rfl⟩; rw [← hl0] at ho3; have HL0 := Aside0.mk hl0; clear hl0; have HO3 := Aside0.mk ho3; clear ho3 hb hg_ hat_ HO HO2 HB3 HV HBA HBW; obtain ⟨A0, c0, e3⟩ := Kd.N_slice HO3.out; subst e3; have HR0 := aK (Kd.N_reads' HO3.out).2.2; have HC0 := aK (Kd.N_reads' HO3.out).2.1; clear HO3))
 have HB := aK (Below.refl w.heap.size w)
 clear AN AR LT HRc HCc HR1 HC1 HR2 HC2
 have H := H'.out
 rw [← HL0.out] at H
 clear H' HL0
 have H' := Aside0.mk H
 clear H
 go_wp2
 go_loopg [26] k (fun kq v26 w' => ∃ (x26_1 : Int), v26 = .int .i64 x26_1 ∧ Aside0 (l1_ValueRows.l0 kq l0 l0 (l0.length : Int) x26_1 = some r) ∧ Aside0 (kq ≤ k) ∧ Aside0 (Below w.heap.size w w'))
 case atStart => exact ⟨(0), (by first | rfl | (simp; done) | (simp [*]; done)), H', ⟨Nat.le_refl _⟩, ⟨bO⟩⟩
 case round =>
  clear H'
  obtain ⟨x26_1, rfl, HA, HK1, HB⟩ := hrel
  cases gk with
  | zero => exact absurd HA.out (by simp [l1_ValueRows.l0])
  | succ k1 =>
   have H := HA.out
   clear HA
   simp only [l1_ValueRows.l0] at H
   by_cases c2 : x26_1 < (l0.length : Int)
   rotate_left
   ·rw [if_neg c2] at H
    have c2b0 : decide (x26_1 < (l0.length : Int)) = false := decide_eq_false c2
    clear c2
    obtain ⟨t824, A29, H⟩ := oB H
    try dsimp only at H
    obtain rfl := Option.some.inj H
    go_wp2_with (first | ((with_reducible refine gate_callee (f := 20) rfl ?_); refine gL (some 75) rfl Try.func20 #[] rfl ?_; (with_reducible refine (l1_begun.calls k1  t824 _ A29.out).mono ?_); rintro e w30 ⟨rfl, hb⟩; refine ⟨_, rfl, ?_⟩; have n0_ := aK (below_step bO hb); clear HB; have HB := n0_; clear n0_; (try clear hb)))
    go_ret
    exact ⟨eW, _, HBWN.out, bO⟩
   rw [if_pos c2] at H
   have c2b0 : decide (x26_1 < (l0.length : Int)) = true := decide_eq_true c2
   clear c2
   by_cases c3 : 0 ≤ x26_1
   rotate_left
   ·rw [if_neg c3] at H
    exact absurd H (by simp)
   rw [if_pos c3] at H
   have c3b0 : decide (0 ≤ x26_1) = true := decide_eq_true c3
   clear c3
   by_cases c4 : x26_1 < (l0.length : Int)
   rotate_left
   ·rw [if_neg c4] at H
    exact absurd H (by simp)
   rw [if_pos c4] at H
   have c4b0 : decide (x26_1 < (l0.length : Int)) = true := decide_eq_true c4
   clear c4
   have H' := Aside0.mk H
   clear H
   have p825 : 0 ≤ (x26_1 : Int) := of_decide_eq_true (aA)
   have q825 : x26_1 < (l0.length : Int) := of_decide_eq_true (aA)
   obtain ⟨ad825, A825_0, c825_0, e825, hx825_0, hl825_0, hi825_0⟩ := at_L4 HR0.out x26_1 p825 q825
   cases e825
   replace hx825_0 := hW HB.out hx825_0
   have HR825_0 := Aside0.mk hi825_0
   have HC825_0 := Aside0.mk hl825_0
   clear hi825_0 hl825_0
   replace p825 := eq_true p825
   replace q825 := eq_true q825
   go_wp2
   go_loopg [32] k1 (fun kq v32 w' => ∃ (x32_2 : Int), v32 = .int .i64 x32_2 ∧ Aside0 (l1_ValueRows.l1 kq l0 (rd_L4 l0 x26_1) l0 (l0.length : Int) x26_1 l0 (l0.length : Int) x32_2 = some r) ∧ Aside0 (kq ≤ k1) ∧ Aside0 (Below w.heap.size w w'))
   case atStart => exact ⟨(0), (by first | rfl | (simp; done) | (simp [*]; done)), H', ⟨Nat.le_refl _⟩, ⟨bO⟩⟩
   case round =>
    clear H'
    try clear c2
    try clear c2b0
    try clear p2
    try clear c3
    try clear c3b0
    try clear c4
    try clear c4b0
    try clear hx825_0
    try clear p825
    try clear q825
    obtain ⟨x32_2, rfl, HA, HK2, HB⟩ := hrel
    cases gk with
    | zero => exact absurd HA.out (by simp [l1_ValueRows.l1])
    | succ k2 =>
     have H := HA.out
     clear HA
     simp only [l1_ValueRows.l1] at H
     by_cases c5 : x32_2 < (l0.length : Int)
     rotate_left
     ·rw [if_neg c5] at H
      have c5b0 : decide (x32_2 < (l0.length : Int)) = false := decide_eq_false c5
      clear c5
      have H' := Aside0.mk H
      clear H
      go_wp2
      go_roundg k2
      case measure => have := HK1.out; have := HK2.out; omega
      case rel => exact ⟨(wrap64 (x26_1 + 1)), (by first | rfl | (simp; done) | (simp [*]; done)), H', ⟨by have := HK1.out; have := HK2.out; omega⟩, ⟨bO⟩⟩
     rw [if_pos c5] at H
     have c5b0 : decide (x32_2 < (l0.length : Int)) = true := decide_eq_true c5
     clear c5
     by_cases c6 : 0 ≤ x32_2
     rotate_left
     ·rw [if_neg c6] at H
      exact absurd H (by simp)
     rw [if_pos c6] at H
     have c6b0 : decide (0 ≤ x32_2) = true := decide_eq_true c6
     clear c6
     by_cases c7 : x32_2 < (l0.length : Int)
     rotate_left
     ·rw [if_neg c7] at H
      exact absurd H (by simp)
     rw [if_pos c7] at H
     have c7b0 : decide (x32_2 < (l0.length : Int)) = true := decide_eq_true c7
     clear c7
     obtain ⟨t827, A8, H⟩ := oB H
     try dsimp only at H
     have HC9 := Aside0.mk H
     clear H
     have p826 : 0 ≤ (x32_2 : Int) := of_decide_eq_true (aA)
     have q826 : x32_2 < (l0.length : Int) := of_decide_eq_true (aA)
     obtain ⟨ad826, A826_0, c826_0, e826, hx826_0, hl826_0, hi826_0⟩ := at_L4 HR0.out x32_2 p826 q826
     obtain rfl : ad825 = ad826 := (by injection e826)
     replace hx826_0 := hW HB.out hx826_0
     have HR826_0 := Aside0.mk hi826_0
     have HC826_0 := Aside0.mk hl826_0
     clear hi826_0 hl826_0
     replace p826 := eq_true p826
     replace q826 := eq_true q826
     go_upto_region 10 with (first | ((with_reducible refine gate_callee (f := 52) rfl ?_); refine gL (some 38) rfl Try.func52 #[.slice A825_0 (rd_L4 l0 x26_1).length c825_0, .slice A826_0 (rd_L4 l0 x32_2).length c826_0] rfl ?_; (with_reducible refine (v_CompareRows.calls k2 _ _ (rd_L4 l0 x26_1) _ _ (rd_L4 l0 x32_2) t827 _ ?side1 ?side2 ?side3 ?side4 A8.out).mono ?_); (case side1 => repeat (first | exact (Kd.C_below HR825_0.out HB.out) | (with_reducible refine Kd.C_alloc ?_ _) | (with_reducible refine Kd.C_drewN ?_ _) | (with_reducible refine Kd.C_drew ?_))); (case side2 => exact HC825_0.out); (case side3 => repeat (first | exact (Kd.C_below HR826_0.out HB.out) | (with_reducible refine Kd.C_alloc ?_ _) | (with_reducible refine Kd.C_drewN ?_ _) | (with_reducible refine Kd.C_drew ?_))); (case side4 => exact HC826_0.out); rintro e w10 ⟨rfl, hb⟩; refine ⟨_, rfl, ?_⟩; have n0_ := aK (below_step bO hb); clear HB; have HB := n0_; clear n0_; (try clear hb)))
     (try simp only [Act.put, List.setIfInBounds_toArray, List.set_cons_zero, List.set_cons_succ])
     go_cut [51] (fun v51 wc => ∃ (kq : Nat) (x51_8 : Bool), v51 = .bool x51_8 ∧ Aside0 (l1_ValueRows.j2 kq l0 (rd_L4 l0 x26_1) (rd_L4 l0 x32_2) t827 l0 (l0.length : Int) x26_1 l0 (l0.length : Int) x32_2 x51_8 = some r) ∧ Aside0 (kq ≤ k2) ∧ Aside0 (Below w.heap.size w wc))
     case first =>
      have H := HC9.out
      clear HC9
      obtain ⟨t828, A11, H⟩ := oB H
      try dsimp only at H
      by_cases c12 : t827 = t828
      rotate_left
      ·rw [if_neg c12] at H
       have c12b0 : (t827 == t828) = false := beq_eq_false_iff_ne.mpr c12
       have c12b1 : (t827 != t828) = true := bne_iff_ne.mpr c12
       (first | rw [c12b0] | (simp only [i64_w, i32_w]; rw [c12b0]) | skip)
       have H' := Aside0.mk H
       clear H
       go_wp2_with (first | ((with_reducible refine gate_callee (f := 53) rfl ?_); refine gL (some 42) rfl Try.func53 #[.slice A825_0 (rd_L4 l0 x26_1).length c825_0, .slice A826_0 (rd_L4 l0 x32_2).length c826_0] rfl ?_; (with_reducible refine (r1_CompareRows.calls k2 _ _ (rd_L4 l0 x26_1) _ _ (rd_L4 l0 x32_2) t828 _ ?side1 ?side2 ?side3 ?side4 A11.out).mono ?_); (case side1 => repeat (first | exact (Kd.C_below HR825_0.out HB.out) | (with_reducible refine Kd.C_alloc ?_ _) | (with_reducible refine Kd.C_drewN ?_ _) | (with_reducible refine Kd.C_drew ?_))); (case side2 => exact HC825_0.out); (case side3 => repeat (first | exact (Kd.C_below HR826_0.out HB.out) | (with_reducible refine Kd.C_alloc ?_ _) | (with_reducible refine Kd.C_drewN ?_ _) | (with_reducible refine Kd.C_drew ?_))); (case side4 => exact HC826_0.out); rintro e w16 ⟨rfl, hb⟩; refine ⟨_, rfl, ?_⟩; have n0_ := aK (below_step bO hb); clear HB; have HB := n0_; clear n0_; (try clear hb)))
       go_meet
       case rel => exact ⟨_, (true), (by first | rfl | (simp; done) | (simp [*]; done)), H', ⟨by have := HK1.out; have := HK2.out; first | omega | exact Nat.le_refl _⟩, ⟨bO⟩⟩
      rw [if_pos c12] at H
      have c12b0 : (t827 == t828) = true := beq_iff_eq.mpr c12
      have c12b1 : (t827 != t828) = false := bne_eq_false_iff_eq.mpr c12
      clear c12
      (first | rw [c12b0] | (simp only [i64_w, i32_w]; rw [c12b0]) | skip)
      obtain ⟨t829, A13, H⟩ := oB H
      try dsimp only at H
      have H' := Aside0.mk H
      clear H
      go_wp2_with (first | ((with_reducible refine gate_callee (f := 53) rfl ?_); refine gL (some 42) rfl Try.func53 #[.slice A825_0 (rd_L4 l0 x26_1).length c825_0, .slice A826_0 (rd_L4 l0 x32_2).length c826_0] rfl ?_; (with_reducible refine (r1_CompareRows.calls k2 _ _ (rd_L4 l0 x26_1) _ _ (rd_L4 l0 x32_2) t828 _ ?side1 ?side2 ?side3 ?side4 A11.out).mono ?_); (case side1 => repeat (first | exact (Kd.C_below HR825_0.out HB.out) | (with_reducible refine Kd.C_alloc ?_ _) | (with_reducible refine Kd.C_drewN ?_ _) | (with_reducible refine Kd.C_drew ?_))); (case side2 => exact HC825_0.out); (case side3 => repeat (first | exact (Kd.C_below HR826_0.out HB.out) | (with_reducible refine Kd.C_alloc ?_ _) | (with_reducible refine Kd.C_drewN ?_ _) | (with_reducible refine Kd.C_drew ?_))); (case side4 => exact HC826_0.out); rintro e w14 ⟨rfl, hb⟩; refine ⟨_, rfl, ?_⟩; have n0_ := aK (below_step bO hb); clear HB; have HB := n0_; clear n0_; (try clear hb)) | (go_at_call 52; (with_reducible refine (v_CompareRows.calls k2 _ _ (rd_L4 l0 x32_2) _ _ (rd_L4 l0 x26_1) t829 _ ?side1 ?side2 ?side3 ?side4 A13.out).mono ?_); (case side1 => repeat (first | exact (Kd.C_below HR826_0.out HB.out) | (with_reducible refine Kd.C_alloc ?_ _) | (with_reducible refine Kd.C_drewN ?_ _) | (with_reducible refine Kd.C_drew ?_))); (case side2 => exact HC826_0.out); (case side3 => repeat (first | exact (Kd.C_below HR825_0.out HB.out) | (with_reducible refine Kd.C_alloc ?_ _) | (with_reducible refine Kd.C_drewN ?_ _) | (with_reducible refine Kd.C_drew ?_))); (case side4 => exact HC825_0.out); rintro e w15 ⟨rfl, hb⟩; have n0_ := aK (below_step bO hb); clear HB; have HB := n0_; clear n0_; (try clear hb)))
      go_meet
      case rel => exact ⟨_, ((t827 != (wrap64 (-t829)))), (by first | rfl | (simp; done) | (simp [*]; done)), H', ⟨by have := HK1.out; have := HK2.out; first | omega | exact Nat.le_refl _⟩, ⟨bO⟩⟩
     case rest =>
      clear HC9
      try clear c1
      try clear c2
      try clear c2b0
      try clear p2
      try clear c3
      try clear c3b0
      try clear c4
      try clear c4b0
      try clear c5
      try clear c5b0
      try clear c6
      try clear c6b0
      try clear p6
      try clear c7
      try clear c7b0
      try clear c8
      try clear p8
      try clear q8
      try clear hx8
      try clear c9
      try clear c12
      try clear c12b0
      try clear c12b1
      try clear hx825_0
      try clear hx826_0
      try clear p2
      try clear p825
      try clear p826
      try clear q825
      try clear q826
      obtain ⟨kq, x51_8, rfl, HA, HJ8, HB⟩ := hcut
      cases kq with
      | zero => exact absurd HA.out (by simp [l1_ValueRows.j2])
      | succ kj8 =>
       have H := HA.out
       clear HA
       simp only [l1_ValueRows.j2] at H
       by_cases c17 : x51_8 = true
       rotate_left
       ·replace c17 := Bool.eq_false_iff.mpr c17
        subst c17
        rw [if_neg (show ¬ (false = true) by decide)] at H
        have H' := Aside0.mk H
        clear H
        go_wp2
        go_loopg [54] kj8 (fun kq v54 w' => ∃ (x54_4 : Int), v54 = .int .i64 x54_4 ∧ Aside0 (l1_ValueRows.l2 kq l0 (rd_L4 l0 x26_1) (rd_L4 l0 x32_2) t827 l0 (l0.length : Int) x26_1 l0 (l0.length : Int) x32_2 l0 (l0.length : Int) x54_4 = some r) ∧ Aside0 (kq ≤ kj8) ∧ Aside0 (Below w.heap.size w w'))
        case atStart => exact ⟨(0), (by first | rfl | (simp; done) | (simp [*]; done)), H', ⟨Nat.le_refl _⟩, ⟨bO⟩⟩
        case round =>
         clear H'
         try clear c1
         try clear c2
         try clear c2b0
         try clear p2
         try clear c3
         try clear c3b0
         try clear c4
         try clear c4b0
         try clear c5
         try clear c5b0
         try clear c6
         try clear c6b0
         try clear p6
         try clear c7
         try clear c7b0
         try clear c8
         try clear p8
         try clear q8
         try clear hx8
         try clear c9
         try clear c12
         try clear c12b0
         try clear c12b1
         try clear c17
         try clear hx825_0
         try clear hx826_0
         try clear p2
         try clear p6
         try clear p8
         try clear p825
         try clear p826
         try clear q8
         try clear q825
         try clear q826
         obtain ⟨x54_4, rfl, HA, HK4, HB⟩ := hrel
         cases gk with
         | zero => exact absurd HA.out (by simp [l1_ValueRows.l2])
         | succ k4 =>
          have H := HA.out
          clear HA
          simp only [l1_ValueRows.l2] at H
          by_cases c18 : x54_4 < (l0.length : Int)
          rotate_left
          ·rw [if_neg c18] at H
           have c18b0 : decide (x54_4 < (l0.length : Int)) = false := decide_eq_false c18
           clear c18
           have H' := Aside0.mk H
           clear H
           go_wp2
           go_roundg k4
           case measure => have := HK1.out; have := HK2.out; have := HJ8.out; have := HK4.out; omega
           case rel => exact ⟨(wrap64 (x32_2 + 1)), (by first | rfl | (simp; done) | (simp [*]; done)), H', ⟨by have := HK1.out; have := HK2.out; have := HJ8.out; have := HK4.out; omega⟩, ⟨bO⟩⟩
          rw [if_pos c18] at H
          have c18b0 : decide (x54_4 < (l0.length : Int)) = true := decide_eq_true c18
          clear c18
          by_cases c19 : 0 ≤ x54_4
          rotate_left
          ·rw [if_neg c19] at H
           exact absurd H (by simp)
          rw [if_pos c19] at H
          have c19b0 : decide (0 ≤ x54_4) = true := decide_eq_true c19
          clear c19
          by_cases c20 : x54_4 < (l0.length : Int)
          rotate_left
          ·rw [if_neg c20] at H
           exact absurd H (by simp)
          rw [if_pos c20] at H
          have c20b0 : decide (x54_4 < (l0.length : Int)) = true := decide_eq_true c20
          clear c20
          by_cases c21 : t827 ≤ 0
          rotate_left
          ·rw [if_neg c21] at H
           have c21b0 : decide (t827 ≤ 0) = false := decide_eq_false c21
           clear c21
           have H' := Aside0.mk H
           clear H
           have p830 : 0 ≤ (x54_4 : Int) := of_decide_eq_true (aA)
           have q830 : x54_4 < (l0.length : Int) := of_decide_eq_true (aA)
           obtain ⟨ad830, A830_0, c830_0, e830, hx830_0, hl830_0, hi830_0⟩ := at_L4 HR0.out x54_4 p830 q830
           obtain rfl : ad825 = ad830 := (by injection e830)
           replace hx830_0 := hW HB.out hx830_0
           have HR830_0 := Aside0.mk hi830_0
           have HC830_0 := Aside0.mk hl830_0
           clear hi830_0 hl830_0
           replace p830 := eq_true p830
           replace q830 := eq_true q830
           go_wp2
           go_roundg k4
           case measure => have := HK1.out; have := HK2.out; have := HJ8.out; have := HK4.out; omega
           case rel => exact ⟨(wrap64 (x54_4 + 1)), (by first | rfl | (simp; done) | (simp [*]; done)), H', ⟨by have := HK1.out; have := HK2.out; have := HJ8.out; have := HK4.out; omega⟩, ⟨bO⟩⟩
          rw [if_pos c21] at H
          have c21b0 : decide (t827 ≤ 0) = true := decide_eq_true c21
          clear c21
          obtain ⟨t831, A22, H⟩ := oB H
          try dsimp only at H
          by_cases c23 : t831 ≤ 0
          rotate_left
          ·rw [if_neg c23] at H
           have c23b0 : decide (t831 ≤ 0) = false := decide_eq_false c23
           clear c23
           have H' := Aside0.mk H
           clear H
           have p830 : 0 ≤ (x54_4 : Int) := of_decide_eq_true (aA)
           have q830 : x54_4 < (l0.length : Int) := of_decide_eq_true (aA)
           obtain ⟨ad830, A830_0, c830_0, e830, hx830_0, hl830_0, hi830_0⟩ := at_L4 HR0.out x54_4 p830 q830
           obtain rfl : ad825 = ad830 := (by injection e830)
           replace hx830_0 := hW HB.out hx830_0
           have HR830_0 := Aside0.mk hi830_0
           have HC830_0 := Aside0.mk hl830_0
           clear hi830_0 hl830_0
           replace p830 := eq_true p830
           replace q830 := eq_true q830
           go_wp2_with (first | (go_at_call 52; (with_reducible refine (v_CompareRows.calls k4 _ _ (rd_L4 l0 x32_2) _ _ (rd_L4 l0 x54_4) t831 _ ?side1 ?side2 ?side3 ?side4 A22.out).mono ?_); (case side1 => repeat (first | exact (Kd.C_below HR826_0.out HB.out) | (with_reducible refine Kd.C_alloc ?_ _) | (with_reducible refine Kd.C_drewN ?_ _) | (with_reducible refine Kd.C_drew ?_))); (case side2 => exact HC826_0.out); (case side3 => repeat (first | exact (Kd.C_below HR830_0.out HB.out) | (with_reducible refine Kd.C_alloc ?_ _) | (with_reducible refine Kd.C_drewN ?_ _) | (with_reducible refine Kd.C_drew ?_))); (case side4 => exact HC830_0.out); rintro e w28 ⟨rfl, hb⟩; have n0_ := aK (below_step bO hb); clear HB; have HB := n0_; clear n0_; (try clear hb)))
           go_roundg k4
           case measure => have := HK1.out; have := HK2.out; have := HJ8.out; have := HK4.out; omega
           case rel => exact ⟨(wrap64 (x54_4 + 1)), (by first | rfl | (simp; done) | (simp [*]; done)), H', ⟨by have := HK1.out; have := HK2.out; have := HJ8.out; have := HK4.out; omega⟩, ⟨bO⟩⟩
          rw [if_pos c23] at H
          have c23b0 : decide (t831 ≤ 0) = true := decide_eq_true c23
          clear c23
          obtain ⟨t832, A24, H⟩ := oB H
          try dsimp only at H
          by_cases c25 : t832 > 0
          rotate_left
          ·rw [if_neg c25] at H
           have c25b0 : decide (0 < t832) = false := decide_eq_false c25
           clear c25
           have H' := Aside0.mk H
           clear H
           have p830 : 0 ≤ (x54_4 : Int) := of_decide_eq_true (aA)
           have q830 : x54_4 < (l0.length : Int) := of_decide_eq_true (aA)
           obtain ⟨ad830, A830_0, c830_0, e830, hx830_0, hl830_0, hi830_0⟩ := at_L4 HR0.out x54_4 p830 q830
           obtain rfl : ad825 = ad830 := (by injection e830)
           replace hx830_0 := hW HB.out hx830_0
           have HR830_0 := Aside0.mk hi830_0
           have HC830_0 := Aside0.mk hl830_0
           clear hi830_0 hl830_0
           replace p830 := eq_true p830
           replace q830 := eq_true q830
           go_wp2_with (first | (go_at_call 52; (with_reducible refine (v_CompareRows.calls k4 _ _ (rd_L4 l0 x32_2) _ _ (rd_L4 l0 x54_4) t831 _ ?side1 ?side2 ?side3 ?side4 A22.out).mono ?_); (case side1 => repeat (first | exact (Kd.C_below HR826_0.out HB.out) | (with_reducible refine Kd.C_alloc ?_ _) | (with_reducible refine Kd.C_drewN ?_ _) | (with_reducible refine Kd.C_drew ?_))); (case side2 => exact HC826_0.out); (case side3 => repeat (first | exact (Kd.C_below HR830_0.out HB.out) | (with_reducible refine Kd.C_alloc ?_ _) | (with_reducible refine Kd.C_drewN ?_ _) | (with_reducible refine Kd.C_drew ?_))); (case side4 => exact HC830_0.out); rintro e w26 ⟨rfl, hb⟩; have n0_ := aK (below_step bO hb); clear HB; have HB := n0_; clear n0_; (try clear hb)) | (go_at_call 52; (with_reducible refine (v_CompareRows.calls k4 _ _ (rd_L4 l0 x26_1) _ _ (rd_L4 l0 x54_4) t832 _ ?side1 ?side2 ?side3 ?side4 A24.out).mono ?_); (case side1 => repeat (first | exact (Kd.C_below HR825_0.out HB.out) | (with_reducible refine Kd.C_alloc ?_ _) | (with_reducible refine Kd.C_drewN ?_ _) | (with_reducible refine Kd.C_drew ?_))); (case side2 => exact HC825_0.out); (case side3 => repeat (first | exact (Kd.C_below HR830_0.out HB.out) | (with_reducible refine Kd.C_alloc ?_ _) | (with_reducible refine Kd.C_drewN ?_ _) | (with_reducible refine Kd.C_drew ?_))); (case side4 => exact HC830_0.out); rintro e w27 ⟨rfl, hb⟩; have n0_ := aK (below_step bO hb); clear HB; have HB := n0_; clear n0_; (try clear hb)))
           go_roundg k4
           case measure => have := HK1.out; have := HK2.out; have := HJ8.out; have := HK4.out; omega
           case rel => exact ⟨(wrap64 (x54_4 + 1)), (by first | rfl | (simp; done) | (simp [*]; done)), H', ⟨by have := HK1.out; have := HK2.out; have := HJ8.out; have := HK4.out; omega⟩, ⟨bO⟩⟩
          rw [if_pos c25] at H
          have c25b0 : decide (0 < t832) = true := decide_eq_true c25
          clear c25
          exact absurd (H.trans (congrArg some HRT.out)) (by simp)
       subst c17
       rw [if_pos rfl] at H
       exact absurd (H.trans (congrArg some HRT.out)) (by simp)
theorem l1_ValueRows.calls (k : Nat) (Ac : Option Addr) (cc : Nat) (lc : List Int) (A1 : Option Addr) (c1 : Nat) (l1 : List S24) (A2 : Option Addr) (c2 : Nat) (l2 : List S24) (r : Bool) (wA : World) (hrc : Kd.C (Kd.int .u8) wA Ac lc.length lc) (hcc : lc.length ≤ cc) (hr1 : Kd.C k24 wA A1 l1.length l1) (hc1 : l1.length ≤ c1) (hr2 : Kd.C k24 wA A2 l2.length l2) (hc2 : l2.length ≤ c2) (h : l1_ValueRows.f k lc l1 l2 = some r) (HRT : Aside0 (r = true)) :
  Calls Try.prog 9 #[.slice Ac lc.length cc, .slice A1 l1.length c1, .slice A2 l2.length c2] wA fun e w' => e = .returned (.bool r) ∧ Below wA.heap.size wA w' :=
 (l1_ValueRows.callsN k Ac cc lc A1 c1 l1 A2 c2 l2 r wA hrc hcc hr1 hc1 hr2 hc2 h HRT).mono fun _ _ ⟨he, _, h1, h2⟩ => ⟨he, h1.trans (h2.mono h1.size)⟩
end Go.Proofs.Ytpjcdacnhalclaa.Q
namespace Go.Proofs.Ytpjcdacnhalclaa.Q
open Go.RowKit Go.Proofs.YtpjcdacnhalclaaW.PrintWords Go.Proofs.YtpjcdacnhalclaaW.PrintLast Go.Proofs.YtpjcdacnhalclaaW.PrintMore
attribute [local go_sem] max2_int min2_int max_two min_two max_three min_three max_four min_four
section
open Go.Joins Go.ChangeShapes Go.WideShapes Go.Deep
variable {H : Type} {enc : TypeId × Value → H} {W : World} {base : Nat} {spare : Nat → Bool} {held : Bool}
theorem open_cells3 {P : Program} {t : TypeId} {f0 f1 f2 : Field} {fuel : Nat} {cs : List Value} {x : DataW H × List MemPlace} (hs : P.underlying t = some (.struct #[f0, f1, f2])) (hone : oneCellFields P #[f0, f1, f2] = true) (hC : P.cellsOf t = 3) (h : DataW.trod enc P W base spare held fuel t cs = some x) :
  ∃ v0 v1 v2 y0 y1 y2 n, cs = [v0, v1, v2] ∧ DataW.trod enc P W base spare held n f0.type [v0] = some y0 ∧ DataW.trod enc P W base spare held n f1.type [v1] = some y1 ∧ DataW.trod enc P W base spare held n f2.type [v2] = some y2 := by
 obtain ⟨y0, y1, y2, n, _, hl, h0, h1, h2⟩ := trod_struct3 hs h
 obtain ⟨o0, k0⟩ := hone_of hone 0 f0 rfl
 obtain ⟨o1, k1⟩ := hone_of hone 1 f1 rfl
 obtain ⟨o2, k2⟩ := hone_of hone 2 f2 rfl
 rw [hC] at hl
 match cs, hl with
 | [c0, c1, c2], _ => exact ⟨c0, c1, c2, y0, y1, y2, n, rfl, by simpa [o0, k0] using h0, by simpa [o1, k1] using h1, by simpa [o2, k2] using h2⟩
theorem open_value {fuel : Nat} {cs : List Value} {x : DataW H × List MemPlace} (h : DataW.trod enc Try.prog W base spare held fuel 24 cs = some x) : ∃ y : S24, cs = [.int .i64 y.f0, .int .i64 y.f1, .string y.f2] ∧ -9223372036854775808 ≤ y.f1 ∧ y.f1 ≤ 9223372036854775807 := by
 obtain ⟨v0, v1, v2, y0, y1, y2, n, rfl, h0, h1, h2⟩ := open_cells3 Try.underlying24 (by kernel_rfl) (by kernel_rfl) h
 obtain ⟨a, e0, _, _⟩ := DataW.trod_int Try.underlying3 h0
 obtain ⟨b, e1, _, w1⟩ := DataW.trod_int Try.underlying2 h1
 obtain ⟨c, e2, _, _⟩ := DataW.trod_string Try.underlying9 h2
 injection e0 with e0 _
 injection e1 with e1 _
 injection e2 with e2 _
 subst e0 e1 e2
 exact ⟨⟨a, b, c⟩, rfl, wf_int w1⟩
theorem bytes24 : Try.prog.bytesOf 24 = 32 := by kernel_rfl
theorem cells24_ : Try.prog.cellsOf 24 = 3 := by kernel_rfl
theorem open_row {fuel : Nat} {cs : List Value} {x : DataW H × List MemPlace} (h : DataW.trod enc Try.prog W base spare held fuel 54 cs = some x) : ∃ A c l, cs = [.slice A l.length c] ∧ l.length ≤ c ∧ Kd.C k24 W A l.length l ∧ (∀ y ∈ l, -9223372036854775808 ≤ y.f1 ∧ y.f1 ≤ 9223372036854775807) ∧ ∀ B, (∀ n ∈ x.1.weights Try.prog 54, n ≤ B) → l.length * 32 ≤ B := by
 rcases open_slice Try.underlying54 h with ⟨rfl, _⟩ | ⟨a, len, cap, m, n, D, Pl, rfl, _, hl, hm, hmm, hxd, hi⟩
 ·exact ⟨none, 0, [], rfl, Nat.le_refl _, Kd.C_nil _ _, by simp, by simp⟩
 ·have hlm : len ≤ m := by rw [hmm]; split <;> omega
  have hx : ∀ i : Nat, i < len → ∃ y : S24, W.cells? base (a.add (i * 3)) 3 = some [.int .i64 y.f0, .int .i64 y.f1, .string y.f2] ∧ -9223372036854775808 ≤ y.f1 ∧ y.f1 ≤ 9223372036854775807 := by
   intro i hil
   obtain ⟨cs', hc, ht⟩ := hi i (by omega)
   rw [cells24_] at hc
   obtain ⟨y, rfl, hy⟩ := open_value ht
   exact ⟨y, hc, hy⟩
  refine ⟨some a, cap, (List.finRange len).map (fun j => (hx j.1 j.2).choose), ?_, ?_, ?_, ?_, ?_⟩
  ·simp
  ·simpa using hl
  ·refine ⟨by simp, by have := hm; unfold maxLen at this; simp; omega, fun _ => ⟨a, rfl, fun j p hj => ?_⟩⟩
   obtain ⟨hj1, rfl⟩ := List.getElem?_eq_some_iff.1 hj
   have hjl : j < len := by simpa using hj1
   simp only [List.getElem_map, List.getElem_finRange]
   have hs := (hx j hjl).choose_spec.1
   obtain ⟨_, _, hat⟩ := World.cells?_some hs
   refine ⟨_, rfl, k24_mk _ _, fun i u hu => ?_⟩
   have hi3 : i < 3 := by have := (List.getElem?_eq_some_iff.1 hu).1; simpa using this
   have h1 := hat i hi3
   rw [hu] at h1
   rw [Go.Deep.add_add] at h1
   exact h1
  ·intro y hy
   obtain ⟨j, _, rfl⟩ := List.mem_map.1 hy
   exact (hx j.1 j.2).choose_spec.2
  ·intro B hB
   have h1 := hB ((len + (m - len)) * 32) (by rw [hxd]; simp [DataW.weights, Try.underlying54, bytes24])
   simp only [List.length_map, List.length_finRange]
   omega
end
end Go.Proofs.Ytpjcdacnhalclaa.Q
namespace Go.Proofs.Ytpjcdacnhalclaa.Q
open Go.RowKit Go.Proofs.YtpjcdacnhalclaaW.PrintWords Go.Proofs.YtpjcdacnhalclaaW.PrintLast Go.Proofs.YtpjcdacnhalclaaW.PrintMore
attribute [local go_sem] max2_int min2_int max_two min_two max_three min_three max_four min_four
theorem r1_Compare.some_ (x y : S24) : r1_Compare.f x.f0 x.f1 x.f2 y.f0 y.f1 y.f2 = some (cmpV x y) := by
 unfold r1_Compare.f
 rcases cmpV_cases x y with ⟨h, e⟩ | ⟨h, e⟩ | ⟨h, e⟩
 ·rw [e]
  rcases h with h | ⟨e1, h | ⟨e2, h⟩⟩
  ·rw [if_pos h]
  ·rw [if_neg (by omega), if_neg (by omega), if_pos h]
  ·rw [if_neg (by omega), if_neg (by omega), if_neg (by omega), if_neg (by omega), if_pos (by rw [bytesLess_eq]; exact decide_eq_true h)]
 ·subst h
  rw [e, if_neg (by omega), if_neg (by omega), if_neg (by omega), if_neg (by omega), if_neg (by rw [bytesLess_eq]; exact fun k => List.lt_irrefl _ (of_decide_eq_true k)), if_pos (by simp)]
 ·rw [e]
  rcases h with h | ⟨e1, h | ⟨e2, h⟩⟩
  ·rw [if_neg (by omega), if_pos h]
  ·rw [if_neg (by omega), if_neg (by omega), if_neg (by omega), if_pos h]
  ·rw [if_neg (by omega), if_neg (by omega), if_neg (by omega), if_neg (by omega), if_neg (by rw [bytesLess_eq]; exact fun k => List.lt_asymm h (of_decide_eq_true k)), if_neg (by
    intro k
    rw [beq_iff_eq] at k
    rw [k] at h
    exact List.lt_irrefl _ h)]
theorem r1_CompareRows.same : ∀ k, (∀ x y i, r1_CompareRows.l0 k x y i = v_CompareRows.l0 k x y i) ∧ (∀ x y i b, r1_CompareRows.j1 k x y i b = v_CompareRows.j1 k x y i b)
 | 0 => ⟨fun _ _ _ => rfl, fun _ _ _ _ => rfl⟩
 | k + 1 => by
  obtain ⟨h0, h1⟩ := r1_CompareRows.same k
  refine ⟨fun x y i => ?_, fun x y i b => ?_⟩
  ·rw [r1_CompareRows.l0, v_CompareRows.l0]
   simp only [h1]
  ·rw [r1_CompareRows.j1, v_CompareRows.j1]
   simp only [h0, r1_Compare.some_, v_Compare.some_]
theorem r1_CompareRows.some_ (x y : List S24) (hx : x.length ≤ 9223372036854775807) (k : Nat) (hk : 2 * x.length + 2 ≤ k) : r1_CompareRows.f k x y = some (cmpL x y) := by
 rw [r1_CompareRows.f, (r1_CompareRows.same k).1]
 exact v_CompareRows.some_ x y hx k hk
theorem r1_CompareRows.ev (x y : List S24) (hx : x.length ≤ 9223372036854775807) : Ev (fun k => r1_CompareRows.f k x y) (cmpL x y) := ⟨2 * x.length + 2, fun k hk => r1_CompareRows.some_ x y hx k hk⟩
theorem cc_Cells.l0_ok (L : List Int) : ∀ (m : Nat) (x : List S24) (i : Int), StOk L i → x.length + m ≤ 1000 → ∃ r j, Ev (fun k => cc_Cells.l0 k m x L i) (r, j) ∧ StOk L j ∧ r.length = x.length + m
 | 0, x, i, h, _ => ⟨x, i, Ev.step (fun k => by rw [cc_Cells.l0, if_neg (by omega)]) (Ev.now _), h, rfl⟩
 | m + 1, x, i, h, hl => by
  obtain ⟨a, b, c, j, e, h2, -, -, -⟩ := cc_Any.ok h
  obtain ⟨r, j', e2, h3, hr⟩ := cc_Cells.l0_ok L m (x ++ [⟨a, b, c⟩]) j h2 (by simp; omega)
  have hw : wrap64 (((m + 1 : Nat) : Int) - 1) = (m : Int) := by unfold wrap64; omega
  refine ⟨r, j', Ev.step (fun k => by rw [cc_Cells.l0, if_pos (by omega), hw]) (Ev.bind e ?_), h3, by rw [hr]; simp; omega⟩
  exact Ev.congr (fun k => if_pos (by omega)) e2
theorem cc_Cells.ok {L : List Int} {i : Int} (h : StOk L i) (n : Int) (h0 : 0 ≤ n) (h1 : n ≤ 100) : ∃ r j, Ev (fun k => cc_Cells.f k L i n) (r, j) ∧ StOk L j ∧ (r.length : Int) ≤ 100 := by
 obtain ⟨m, rfl⟩ := Int.eq_ofNat_of_zero_le h0
 obtain ⟨r, j, e, h2, hr⟩ := cc_Cells.l0_ok L m [] i h (by simp; omega)
 exact ⟨r, j, e, h2, by rw [hr]; simp; omega⟩
theorem rd_L4_mem (x : List (List S24)) (i : Int) (h0 : 0 ≤ i) (h1 : i < x.length) : rd_L4 x i ∈ x := by
 unfold rd_L4
 rw [List.getD_eq_getElem?_getD, List.getElem?_eq_getElem (by omega)]
 exact List.getElem_mem _
theorem l1_rows.l0_ok (L : List Int) : ∀ (m : Nat) (x : List (List S24)) (i : Int), StOk L i → x.length + m ≤ 100 → (∀ r ∈ x, r.length ≤ 100) → ∃ r j, Ev (fun k => l1_rows.l0 k x m L i) (r, j) ∧ StOk L j ∧ r.length ≤ 100 ∧ ∀ q ∈ r, q.length ≤ 100
 | 0, x, i, h, hl, hx => ⟨x, i, Ev.step (fun k => by rw [l1_rows.l0, if_neg (by omega)]) (Ev.now _), h, by omega, hx⟩
 | m + 1, x, i, h, hl, hx => by
  have hw : wrap64 (((m + 1 : Nat) : Int) - 1) = (m : Int) := by unfold wrap64; omega
  obtain ⟨n, j1, e1, h1, n0, -, n3⟩ := cc_Int.ok h 3 (by omega)
  have n3 := n3 (by omega)
  obtain ⟨row, j2, e2, h2, hrow⟩ := cc_Cells.ok h1 n n0 (by omega)
  have more : ∀ (y : List S24) (j : Int), StOk L j → y.length ≤ 100 → ∃ r j', Ev (fun k => if x.length < 5864062014805 then l1_rows.l0 k (x ++ [y]) m L j else none) (r, j') ∧ StOk L j' ∧ r.length ≤ 100 ∧ ∀ q ∈ r, q.length ≤ 100 := by
   intro y j hj hy
   obtain ⟨r, j', e, h3, h4⟩ := l1_rows.l0_ok L m (x ++ [y]) j hj (by simp; omega) (fun q hq => by
    rcases List.mem_append.1 hq with c | c
    ·exact hx q c
    ·simp at c; exact c ▸ hy)
   exact ⟨r, j', Ev.congr (fun k => if_pos (by omega)) e, h3, h4⟩
  have st : ∀ res, Ev (fun k => if (x.length : Int) > 0 then ((cc_Bool.f L j2 3).bind fun bt848 => (if bt848.1 = true then ((cc_Int.f L bt848.2 (x.length : Int)).bind fun bt850 => (if 0 ≤ bt850.1 then (if bt850.1 < (x.length : Int) then (if x.length < 5864062014805 then (l1_rows.l0 k (x ++ [rd_L4 x bt850.1]) m L bt850.2) else (none)) else (none)) else (none))) else (if x.length < 5864062014805 then (l1_rows.l0 k (x ++ [row]) m L bt848.2) else (none)))) else (if x.length < 5864062014805 then (l1_rows.l0 k (x ++ [row]) m L j2) else (none))) res → Ev (fun k => l1_rows.l0 k x ((m + 1 : Nat) : Int) L i) res := by
   intro res hr
   refine Ev.step (fun k => by rw [l1_rows.l0, if_pos (by omega), e1, Option.bind_some, hw]) ?_
   exact Ev.bind e2 hr
  by_cases hx0 : (x.length : Int) > 0
  ·obtain ⟨b, j3, e3, h3⟩ := cc_Bool.ok h2 3 (by omega) (by omega)
   by_cases hb : b = true
   ·obtain ⟨n', j4, e4, h4, p0, -, p1⟩ := cc_Int.ok h3 (x.length : Int) (by omega)
    have p1 := p1 (by omega)
    obtain ⟨r, j', e, h5⟩ := more (rd_L4 x n') j4 h4 (hx _ (rd_L4_mem x n' p0 p1))
    refine ⟨r, j', st _ (Ev.congr (fun k => ?_) e), h5⟩
    rw [if_pos hx0, e3, Option.bind_some, if_pos hb, e4, Option.bind_some, if_pos p0, if_pos p1]
   ·obtain ⟨r, j', e, h5⟩ := more row j3 h3 (by omega)
    refine ⟨r, j', st _ (Ev.congr (fun k => ?_) e), h5⟩
    rw [if_pos hx0, e3, Option.bind_some, if_neg hb]
  ·obtain ⟨r, j', e, h5⟩ := more row j2 h2 (by omega)
   refine ⟨r, j', st _ (Ev.congr (fun k => ?_) e), h5⟩
   rw [if_neg hx0]
theorem l1_rows.ok {L : List Int} {i : Int} (h : StOk L i) : ∃ r j, Ev (fun k => l1_rows.f k L i) (r, j) ∧ StOk L j ∧ r.length ≤ 100 ∧ ∀ q ∈ r, q.length ≤ 100 := by
 obtain ⟨n, j, e, h2, n0, -, n7⟩ := cc_Int.ok h 7 (by omega)
 have n7 := n7 (by omega)
 obtain ⟨m, rfl⟩ := Int.eq_ofNat_of_zero_le n0
 obtain ⟨r, j', e2, h3⟩ := l1_rows.l0_ok L m [] j h2 (by simp; omega) (by simp)
 refine ⟨r, j', ?_, h3⟩
 unfold l1_rows.f
 rw [e]
 exact e2
theorem v_CompareRows.ev (x y : List S24) (hx : x.length ≤ 9223372036854775807) : Ev (fun k => v_CompareRows.f k x y) (cmpL x y) := ⟨2 * x.length + 2, fun k hk => v_CompareRows.some_ x y hx k hk⟩
end Go.Proofs.Ytpjcdacnhalclaa.Q
namespace Go.Proofs.Ytpjcdacnhalclaa.Q
open Go.RowKit Go.Proofs.YtpjcdacnhalclaaW.PrintWords Go.Proofs.YtpjcdacnhalclaaW.PrintLast Go.Proofs.YtpjcdacnhalclaaW.PrintMore
attribute [local go_sem] max2_int min2_int max_two min_two max_three min_three max_four min_four
section
variable (S : List (List S24)) (hS : S.length < 4611686018427387904) (hr : ∀ r ∈ S, r.length ≤ 9223372036854775807)
include hS hr
omit hr in
theorem l1_ValueRows.l2_ev (p q : List S24) (hp : p.length ≤ 9223372036854775807) (hq : q.length ≤ 9223372036854775807) (a s : Int) (h : Ev (fun k => l1_ValueRows.l1 k S p S S.length a S S.length (wrap64 (s + 1))) true) : ∀ (m t : Nat), S.length - t = m → t ≤ S.length →
  Ev (fun k => l1_ValueRows.l2 k S p q (cmpL p q) S S.length a S S.length s S S.length t) true := by
 intro m
 induction m with
 | zero =>
  intro t hm ht
  exact Ev.step (fun k => by rw [l1_ValueRows.l2, if_neg (by omega)]) h
 | succ m ih =>
  intro t hm ht
  have htl : t < S.length := by omega
  have hw : wrap64 ((t : Int) + 1) = ((t + 1 : Nat) : Int) := wrap64_succ (by omega)
  have hrd : rd_L4 S (t : Int) = S[t] := by
   unfold rd_L4
   rw [List.getD_eq_getElem?_getD, Int.toNat_natCast, List.getElem?_eq_getElem htl]
   rfl
  have ih' := ih (t + 1) (by omega) (by omega)
  refine Ev.step (fun k => by rw [l1_ValueRows.l2, if_pos (by omega), if_pos (by omega), if_pos (by omega), hrd, hw]) ?_
  by_cases c1 : cmpL p q ≤ 0
  ·refine Ev.congr (fun k => if_pos c1) ?_
   refine Ev.bind (v_CompareRows.ev q S[t] hq) ?_
   by_cases c2 : cmpL q S[t] ≤ 0
   ·refine Ev.congr (fun k => if_pos c2) ?_
    refine Ev.bind (v_CompareRows.ev p S[t] hp) ?_
    have := cmpL_le_trans c1 c2
    exact Ev.congr (fun k => if_neg (by omega)) ih'
   ·exact Ev.congr (fun k => if_neg c2) ih'
  ·exact Ev.congr (fun k => if_neg c1) ih'
theorem l1_ValueRows.l1_ev (p : List S24) (hp : p.length ≤ 9223372036854775807) (a : Int) (h : Ev (fun k => l1_ValueRows.l0 k S S S.length (wrap64 (a + 1))) true) : ∀ (m s : Nat), S.length - s = m → s ≤ S.length → Ev (fun k => l1_ValueRows.l1 k S p S S.length a S S.length s) true := by
 intro m
 induction m with
 | zero =>
  intro s hm hs
  exact Ev.step (fun k => by rw [l1_ValueRows.l1, if_neg (by omega)]) h
 | succ m ih =>
  intro s hm hs
  have hsl : s < S.length := by omega
  have hw : wrap64 ((s : Int) + 1) = ((s + 1 : Nat) : Int) := wrap64_succ (by omega)
  have hrd : rd_L4 S (s : Int) = S[s] := by
   unfold rd_L4
   rw [List.getD_eq_getElem?_getD, Int.toNat_natCast, List.getElem?_eq_getElem hsl]
   rfl
  have hq := hr _ (List.getElem_mem hsl)
  have ih' := ih (s + 1) (by omega) (by omega)
  rw [← hw] at ih'
  refine Ev.step (fun k => by rw [l1_ValueRows.l1, if_pos (by omega), if_pos (by omega), if_pos (by omega), hrd]) ?_
  refine Ev.bind (v_CompareRows.ev p S[s] hp) ?_
  refine Ev.bind (r1_CompareRows.ev p S[s] hp) ?_
  refine Ev.congr (fun k => if_pos rfl) ?_
  refine Ev.bind (v_CompareRows.ev S[s] p hq) ?_
  have hb : (cmpL p S[s] != wrap64 (-cmpL S[s] p)) = false := by
   have h1 := cmpL_neg p S[s]
   have h2 : wrap64 (-cmpL S[s] p) = cmpL p S[s] := by
    rcases cmpL_cases p S[s] with c | ⟨c, _⟩ | c <;> (rw [← h1, c]; unfold wrap64; omega)
   rw [h2]
   simp
  rw [hb]
  refine Ev.step (fun k => by rw [l1_ValueRows.j2, if_neg (by decide)]) ?_
  exact l1_ValueRows.l2_ev S hS p S[s] hp hq a s ih' S.length 0 rfl (Nat.zero_le _)
theorem l1_ValueRows.l0_ev : ∀ (m a : Nat), S.length - a = m → a ≤ S.length → Ev (fun k => l1_ValueRows.l0 k S S S.length a) true := by
 intro m
 induction m with
 | zero =>
  intro a hm ha
  exact Ev.step (fun k => by rw [l1_ValueRows.l0, if_neg (by omega)]) (Ev.bind l1_begun.ev (Ev.now _))
 | succ m ih =>
  intro a hm ha
  have hal : a < S.length := by omega
  have hw : wrap64 ((a : Int) + 1) = ((a + 1 : Nat) : Int) := wrap64_succ (by omega)
  have hrd : rd_L4 S (a : Int) = S[a] := by
   unfold rd_L4
   rw [List.getD_eq_getElem?_getD, Int.toNat_natCast, List.getElem?_eq_getElem hal]
   rfl
  have ih' := ih (a + 1) (by omega) (by omega)
  rw [← hw] at ih'
  refine Ev.step (fun k => by rw [l1_ValueRows.l0, if_pos (by omega), if_pos (by omega), if_pos (by omega), hrd]) ?_
  exact l1_ValueRows.l1_ev S hS hr S[a] (hr _ (List.getElem_mem hal)) a ih' S.length 0 rfl (Nat.zero_le _)
end
theorem l1_ValueRows.pure (l : List Int) (hl : ∀ x ∈ l, 0 ≤ x ∧ x ≤ 255) (a : List S24) (ha : a.length ≤ 9223372036854775807) (b : List S24) (hb : b.length ≤ 9223372036854775807) : ∃ k, l1_ValueRows.f k l a b = some true := by
 refine Ev.rounds (g := fun k => l1_ValueRows.f k l a b) ?_
 unfold l1_ValueRows.f
 obtain ⟨hn, hst⟩ := cs_New.ok hl 90 (by omega) (by omega)
 rw [hn]
 simp only [Option.bind_some]
 obtain ⟨L, j, e, -, h1, h2⟩ := l1_rows.ok hst
 refine Ev.bind e ?_
 refine Ev.congr (fun k => if_pos (by show L.length < _; omega)) ?_
 unfold l1_ValueRows.g
 refine l1_ValueRows.l0_ev (L ++ [a, b]) (by simp; omega) (fun r hr => ?_) _ 0 rfl (Nat.zero_le _)
 rcases List.mem_append.1 hr with c | c
 ·have := h2 r c; omega
 ·simp at c
  rcases c with c | c
  ·exact c ▸ ha
  ·exact c ▸ hb
end Go.Proofs.Ytpjcdacnhalclaa.Q
namespace Go.Proofs.Ytpjcdacnhalclaa.valueRows
open Go.ChangeShapes Go.WideShapes Go.ChangeAt Go.RowKit Go.Joins
open Go.ChangeMaps (open_string shut_string)
open Go.Proofs.YtpjcdacnhalclaaW.PrintWords Go.Proofs.YtpjcdacnhalclaaW.PrintLast Go.Proofs.YtpjcdacnhalclaaW.PrintMore
set_option maxRecDepth 100000 in
theorem lifted (os : Os) (started : os.Started) (H : Type) (enc : TypeId × Value → H) :
  ReturnsInHanded {} Try.checked os 9 .any (Rows.valueRowsSpec.pre6 enc Try.prog Try.f9 Rows.valueRowsRow.domain false) (Rows.valueRowsSpec.post enc Try.prog Try.f9 false true false false) := by
 refine returnsInHanded_of_change_sized (C := Try.checked) Q.own started (by kernel_rfl) Try.func9
  (ChangeSpec.witness6 (enc := enc) (C := Try.checked) false ⟨#[], #[.slice none 0 0, .slice none 0 0, .slice none 0 0], []⟩ 8 (by kernel_rfl) (by kernel_rfl) (by kernel_rfl) (by kernel_rfl)) ?_
 intro W base args ds gs before hval0 hW hcnd hsz0 _
 have hsz : (DataW.weightsEach Try.prog (Try.f9.params.toList ++ Rows.valueRowsSpec.plain.varTypes Try.prog) (ds ++ gs)).all (· ≤ reachBytes) = true := hsz0
 have hval : ∀ (j : Nat) t v, Try.f9.params[j]? = some t → args[j]? = some v → Value.okWide Try.prog W .any base t v := hval0
 have hW' := hW
 obtain ⟨p, q, hA0, hV, rfl, hfz, hnd⟩ := hW
 have hA : DataW.TrodAll enc Try.prog W 0 (fun _ => true) true Try.f9.params.toList args.toList ds p := hA0
 rw [Try.params9] at hA hval hsz
 obtain ⟨v0, vs0, d0, ds0, p0, q0, hargs, rfl, rfl, h0, r0⟩ := trodAll_cons hA
 obtain ⟨v1, vs1, d1, ds1, p1, q1, rfl, rfl, rfl, h1, r1⟩ := trodAll_cons r0
 obtain ⟨v2, vs2, d2, ds2, p2, q2, rfl, rfl, rfl, h2, r2⟩ := trodAll_cons r1
 obtain ⟨rfl, rfl, rfl⟩ := trodAll_nil r2
 obtain rfl : args = #[v0, v1, v2] := by cases args; simp_all
 obtain ⟨rfl, rfl⟩ := trodVars_none hV
 have k0 := h0
 have lt0 : ∀ x ∈ p0, x.block < W.heap.size := by obtain ⟨m, hm⟩ := k0; exact DataW.trod_lt m _ _ _ hm
 obtain ⟨a0, len0, cap0, rfl⟩ := okWide_slice Try.underlying22 (hval 0 22 v0 rfl rfl)
 obtain ⟨z0, w0⟩ : ∃ zs, Q.IsRow .u8 W a0 len0 cap0 zs := by
  obtain ⟨fuel, hf⟩ := h0
  rcases open_ints Try.underlying22 Try.underlying5 (by kernel_rfl) hf with ⟨hcs, _⟩ | ⟨x, l, c, zs, hcs, _, hl, hm, hz, _, hcell, hwz⟩
  ·simp [Value.cells] at hcs
   obtain ⟨rfl, rfl, rfl⟩ := hcs
   exact ⟨[], .inl ⟨rfl, rfl, rfl, rfl⟩⟩
  ·simp [Value.cells] at hcs
   obtain ⟨rfl, rfl, rfl⟩ := hcs
   exact ⟨zs, .inr ⟨_, rfl, hl, hm, by simpa using hz, hcell, hwz⟩⟩
 obtain ⟨l0, rfl, hr0, hm0, hw0, hc0⟩ := ReadsInt.ofRowC w0
 have k1 := h1
 have lt1 : ∀ x ∈ p1, x.block < W.heap.size := by obtain ⟨m, hm⟩ := k1; exact DataW.trod_lt m _ _ _ hm
 obtain ⟨a1, len1, cap1, rfl⟩ := okWide_slice Try.underlying54 (hval 1 54 v1 rfl rfl)
 obtain ⟨fu1, hf1⟩ := h1
 obtain ⟨A1, c1, l1, e1, hc1, hr1, hb1⟩ := Q.open_row hf1
 simp [Value.cells] at e1
 obtain ⟨rfl, rfl, rfl⟩ := e1
 have k2 := h2
 have lt2 : ∀ x ∈ p2, x.block < W.heap.size := by obtain ⟨m, hm⟩ := k2; exact DataW.trod_lt m _ _ _ hm
 obtain ⟨a2, len2, cap2, rfl⟩ := okWide_slice Try.underlying54 (hval 2 54 v2 rfl rfl)
 obtain ⟨fu2, hf2⟩ := h2
 obtain ⟨A2, c2, l2, e2, hc2, hr2, hb2⟩ := Q.open_row hf2
 simp [Value.cells] at e2
 obtain ⟨rfl, rfl, rfl⟩ := e2
 clear hA0 hval0 hsz0 hsz
 obtain ⟨k, hk⟩ := Q.l1_ValueRows.pure l0 (fun x hx => Q.wf_byte (hw0 x hx)) l1 (Kd.C_max hr1) l2 (Kd.C_max hr2)
 refine (Q.l1_ValueRows.calls k _ _ l0 _ _ l1 _ _ l2 true W (Kd.C_of_reads (d := (0 : Int)) (h1 := fun _ => rfl) hr0) hc0 hr1 hc1 hr2 hc2 hk ⟨rfl⟩).mono fun e W' ⟨he, bel⟩ => ?_
 subst he
 exact ⟨_, rfl, _, _, _, [], _, [], hW', trodAll_mk1 (shut_bool Try.underlying4 _), (trodAll_cons_mk (Below.trod Q.laidOut (by kernel_rfl) (of_decide_eq_true (by kernel_rfl)) k0 bel lt0) (trodAll_cons_mk (Below.trod Q.laidOut (by kernel_rfl) (of_decide_eq_true (by kernel_rfl)) k1 bel lt1) (trodAll_cons_mk (Below.trod Q.laidOut (by kernel_rfl) (of_decide_eq_true (by kernel_rfl)) k2 bel lt2) trodAll_mk0))), rfl, bel.frame _, fun h => by cases h⟩
theorem over : Rows.valueRowsRow.holds Try.pinned (OpenSpec.ofChange Rows.valueRowsSpec) :=
 OpenClaim.holds_of_wide 9 Try.f9 rfl rfl rfl rfl rfl rfl rfl ⟨rfl, rfl, rfl, rfl, rfl⟩ rfl rfl rfl rfl rfl (by kernel_rfl) Try.func9 (by kernel_rfl)
  (of_decide_eq_true (by kernel_rfl)) (by unfold Func.isWrapper; first | (rw [if_pos (by decide +kernel)]; kernel_rfl) | (rw [if_neg (by decide +kernel)]; exact ⟨rfl, rfl⟩))
  (fun os started H enc _ => lifted os started H enc)
theorem proved : Rows.ValueRowsSaid := over
end Go.Proofs.Ytpjcdacnhalclaa.valueRows
namespace Go.Proofs.Ytpjcdacnhalclaa
theorem valueRows_holds : Rows.ValueRowsSaid := valueRows.proved
#print axioms valueRows_holds
end Go.Proofs.Ytpjcdacnhalclaa
