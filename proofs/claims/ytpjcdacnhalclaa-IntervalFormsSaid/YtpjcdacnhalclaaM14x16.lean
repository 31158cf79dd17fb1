/- A part of a proof: facts of functions that the law calls; conditions stand in each. -/
import Derived.Test.YtpjcdacnhalclaaM14x3
import Derived.Test.YtpjcdacnhalclaaM14x12
import Derived.Shelf.SlSortCmp.WholeK
import Derived.Shelf.SlSortCmp.Whole1
import Derived.Test.YtpjcdacnhalclaaM14x7
import Derived.Laws.CopyOwn
import Derived.Lib.SlBuf
import Derived.Test.YtpjcdacnhalclaaM14x6
import Derived.Test.YtpjcdacnhalclaaM14x5
set_option linter.unusedVariables false
set_option linter.unusedSimpArgs false
namespace Go.Proofs.Ytpjcdacnhalclaa.Q
open Go.RowKit Go.Proofs.YtpjcdacnhalclaaW.PrintWords Go.Proofs.YtpjcdacnhalclaaW.PrintLast Go.Proofs.YtpjcdacnhalclaaW.PrintMore
attribute [local go_sem] max2_int min2_int max_two min_two max_three min_three max_four min_four
mutual
def r1_CompareRows.l0 : Nat → List (S24) → List (S24) → Int → Option (Int)
 | 0, _, _, _ => none
 | k + 1, x0, x1, x5 => if x5 < (x0.length : Int) then (r1_CompareRows.j1 k x0 x1 x5 (decide (x5 < (x1.length : Int)))) else (r1_CompareRows.j1 k x0 x1 x5 false)
def r1_CompareRows.j1 : Nat → List (S24) → List (S24) → Int → Bool → Option (Int)
 | 0, _, _, _, _ => none
 | k + 1, x0, x1, x5, x16 => if x16 = true then (if 0 ≤ x5 then (if x5 < (x0.length : Int) then (if x5 < (x1.length : Int) then ((r1_Compare.f ((rd_T24 x0 x5).f0) ((rd_T24 x0 x5).f1) ((rd_T24 x0 x5).f2) ((rd_T24 x1 x5).f0) ((rd_T24 x1 x5).f1) ((rd_T24 x1 x5).f2)).bind fun t160 => (if t160 = 0 then (r1_CompareRows.l0 k x0 x1 (wrap64 (x5 + 1))) else (some t160))) else (none)) else (none)) else (none)) else (if (x0.length : Int) < (x1.length : Int) then (some (-1)) else (if (x0.length : Int) > (x1.length : Int) then (some 1) else (some 0)))
end
def r1_CompareRows.f (k : Nat) (l0 : List (S24)) (l1 : List (S24)) : Option (Int) := r1_CompareRows.l0 k l0 l1 0
def r1_CompareRows.T4 : Bool × List (List Nat × List Nat) := (true, [([], []), ([], []), ([0, 1], [0, 1]), ([2], [2]), ([], []), ([], []), ([4, 5], [4, 5]), ([6], [6]), ([3, 7], [3, 7]), ([8, 8, 0, 1, 2, 3, 4, 5, 6, 7, 8], [8])])
def r1_CompareRows.B4 : List Nat := [0, 0, 3, 7, 0, 0, 48, 112, 255, 511]
theorem r1_CompareRows.tab4 : rtab .any (opsOf Try.f53 4) = r1_CompareRows.T4 := by kernel_rfl
theorem r1_CompareRows.bits4 : waitsOk r1_CompareRows.T4.2 r1_CompareRows.B4 = true := by kernel_rfl
set_option maxHeartbeats 8000000 in
set_option maxRecDepth 100000 in
theorem r1_CompareRows.calls (k : Nat) (A0 : Option Addr) (c0 : Nat) (l0 : List (S24)) (A1 : Option Addr) (c1 : Nat) (l1 : List (S24)) (r : Int) (w : World) (hr0 : Kd.C k24 w A0 l0.length l0) (hc0 : l0.length ≤ c0) (hr1 : Kd.C k24 w A1 l1.length l1) (hc1 : l1.length ≤ c1) (h : r1_CompareRows.f k l0 l1 = some r) :
  Calls Try.prog 53 #[.slice A0 l0.length c0, .slice A1 l1.length c1] w fun e w' => e = .returned (.int .i64 r) ∧ Below w.heap.size w w' := by
 have hu24 := Try.underlying24
 have HR0 := Aside0.mk hr0
 have HC0 := Aside0.mk hc0
 clear hr0 hc0
 have HR1 := Aside0.mk hr1
 have HC1 := Aside0.mk hc1
 clear hr1 hc1
 have HB := aK (Below.refl w.heap.size w)
 have H : (r1_CompareRows.l0 k l0 l1 0) = some r := h
 clear h
 have H' := Aside0.mk H
 clear H
 go_enter Try.func53, Try.ntmps53
 go_wp2
 go_loopg [5] k (fun kq v5 w' => ∃ (x5_1 : Int), v5 = .int .i64 x5_1 ∧ Aside0 (r1_CompareRows.l0 kq l0 l1 x5_1 = some r) ∧ Aside0 (kq ≤ k) ∧ Aside0 (Below w.heap.size w w'))
 case atStart => exact ⟨(0), (by first | rfl | (simp; done) | (simp [*]; done)), H', ⟨Nat.le_refl _⟩, ⟨bO⟩⟩
 case round =>
  clear H'
  try clear c1
  try clear p2
  obtain ⟨x5_1, rfl, HA, HK1, HB⟩ := hrel
  cases gk with
  | zero => exact absurd HA.out (by simp [r1_CompareRows.l0])
  | succ k1 =>
   have H := HA.out
   clear HA
   simp only [r1_CompareRows.l0] at H
   have HC3 := Aside0.mk H
   clear H
   go_upto_region 2 with (fail)
   go_cut [16] (fun v16 wc => ∃ (kq : Nat) (x16_2 : Bool), v16 = .bool x16_2 ∧ Aside0 (r1_CompareRows.j1 kq l0 l1 x5_1 x16_2 = some r) ∧ Aside0 (kq ≤ k1) ∧ Aside0 (Below w.heap.size w wc))
   case first =>
    have H := HC3.out
    clear HC3
    by_cases c4 : x5_1 < (l0.length : Int)
    rotate_left
    ·rw [if_neg c4] at H
     have c4b0 : decide (x5_1 < (l0.length : Int)) = false := decide_eq_false c4
     clear c4
     (first | rw [c4b0] | (simp only [i64_w, i32_w]; rw [c4b0]) | skip)
     have H' := Aside0.mk H
     clear H
     go_wp2
     go_meet
     case rel => exact ⟨_, (false), (by first | rfl | (simp; done) | (simp [*]; done)), H', ⟨by have := HK1.out; first | omega | exact Nat.le_refl _⟩, ⟨bO⟩⟩
    rw [if_pos c4] at H
    have c4b0 : decide (x5_1 < (l0.length : Int)) = true := decide_eq_true c4
    clear c4
    (first | rw [c4b0] | (simp only [i64_w, i32_w]; rw [c4b0]) | skip)
    have H' := Aside0.mk H
    clear H
    go_wp2
    go_meet
    case rel => exact ⟨_, (decide (x5_1 < (l1.length : Int))), (by first | rfl | (simp; done) | (simp [*]; done)), H', ⟨by have := HK1.out; first | omega | exact Nat.le_refl _⟩, ⟨bO⟩⟩
   case rest =>
    clear HC3
    try clear c1
    try clear p2
    try clear c4
    try clear c4b0
    try clear p2
    obtain ⟨kq, x16_2, rfl, HA, HJ2, HB⟩ := hcut
    cases kq with
    | zero => exact absurd HA.out (by simp [r1_CompareRows.j1])
    | succ kj2 =>
     have H := HA.out
     clear HA
     simp only [r1_CompareRows.j1] at H
     by_cases c5 : x16_2 = true
     rotate_left
     ·replace c5 := Bool.eq_false_iff.mpr c5
      subst c5
      rw [if_neg (show ¬ (false = true) by decide)] at H
      by_cases c15 : (l0.length : Int) < (l1.length : Int)
      rotate_left
      ·rw [if_neg c15] at H
       have c15b0 : decide ((l0.length : Int) < (l1.length : Int)) = false := decide_eq_false c15
       have c15b1 : decide (l0.length < l1.length) = false := decide_eq_false (fun h => c15 (Int.ofNat_lt.mpr h))
       clear c15
       by_cases c16 : (l0.length : Int) > (l1.length : Int)
       rotate_left
       ·rw [if_neg c16] at H
        have c16b0 : decide ((l1.length : Int) < (l0.length : Int)) = false := decide_eq_false c16
        have c16b1 : decide (l1.length < l0.length) = false := decide_eq_false (fun h => c16 (Int.ofNat_lt.mpr h))
        clear c16
        obtain rfl := Option.some.inj H
        go_wp2
        go_ret
        exact ⟨eW, bO⟩
       rw [if_pos c16] at H
       have c16b0 : decide ((l1.length : Int) < (l0.length : Int)) = true := decide_eq_true c16
       have c16b1 : decide (l1.length < l0.length) = true := decide_eq_true (Int.ofNat_lt.mp c16)
       clear c16
       obtain rfl := Option.some.inj H
       go_wp2
       go_ret
       exact ⟨eW, bO⟩
      rw [if_pos c15] at H
      have c15b0 : decide ((l0.length : Int) < (l1.length : Int)) = true := decide_eq_true c15
      have c15b1 : decide (l0.length < l1.length) = true := decide_eq_true (Int.ofNat_lt.mp c15)
      clear c15
      obtain rfl := Option.some.inj H
      go_wp2
      go_ret
      exact ⟨eW, bO⟩
     subst c5
     rw [if_pos rfl] at H
     by_cases c6 : 0 ≤ x5_1
     rotate_left
     ·rw [if_neg c6] at H
      exact absurd H (by simp)
     rw [if_pos c6] at H
     have c6b0 : decide (0 ≤ x5_1) = true := decide_eq_true c6
     clear c6
     by_cases c7 : x5_1 < (l0.length : Int)
     rotate_left
     ·rw [if_neg c7] at H
      exact absurd H (by simp)
     rw [if_pos c7] at H
     have c7b0 : decide (x5_1 < (l0.length : Int)) = true := decide_eq_true c7
     clear c7
     by_cases c8 : x5_1 < (l1.length : Int)
     rotate_left
     ·rw [if_neg c8] at H
      exact absurd H (by simp)
     rw [if_pos c8] at H
     have c8b0 : decide (x5_1 < (l1.length : Int)) = true := decide_eq_true c8
     clear c8
     obtain ⟨t160, A9, H⟩ := oB H
     try dsimp only at H
     by_cases c10 : t160 = 0
     rotate_left
     ·rw [if_neg c10] at H
      have c10b0 : (t160 == 0) = false := beq_eq_false_iff_ne.mpr c10
      have c10b1 : (t160 != 0) = true := bne_iff_ne.mpr c10
      obtain rfl := Option.some.inj H
      try go_wp2
      have n0_ := aK (below_drew1 HB.out)
      clear HB
      have HB := n0_
      clear n0_
      have p158 : 0 ≤ (x5_1 : Int) := of_decide_eq_true (aA)
      have q158 : x5_1 < (l0.length : Int) := of_decide_eq_true (aA)
      obtain ⟨ad158, e158, hx158_0, hx158_1, hx158_2⟩ := at_T24 HR0.out x5_1 p158 q158
      have hw158_2 := hx158_2
      have hw158_1 := hx158_1
      have hw158_0 := hx158_0
      cases e158
      replace hx158_0 := hW HB.out hx158_0
      replace hx158_1 := hW HB.out hx158_1
      replace hx158_2 := hW HB.out hx158_2
      replace p158 := eq_true p158
      replace q158 := eq_true q158
      have p159 : 0 ≤ (x5_1 : Int) := of_decide_eq_true (aA)
      have q159 : x5_1 < (l1.length : Int) := of_decide_eq_true (aA)
      obtain ⟨ad159, e159, hx159_0, hx159_1, hx159_2⟩ := at_T24 HR1.out x5_1 p159 q159
      have hw159_2 := hx159_2
      have hw159_1 := hx159_1
      have hw159_0 := hx159_0
      cases e159
      replace hx159_0 := hW HB.out hx159_0
      replace hx159_1 := hW HB.out hx159_1
      replace hx159_2 := hW HB.out hx159_2
      replace p159 := eq_true p159
      replace q159 := eq_true q159
      refine start_ (n := 10) (S := fun w' => w'.cell? (ad158.add ((x5_1).toNat * 3)) = some (.int .i64 ((rd_T24 l0 x5_1).f0)) ∧ w'.cell? ⟨(ad158.add ((x5_1).toNat * 3)).block, (ad158.add ((x5_1).toNat * 3)).off + 1, none⟩ = some (.int .i64 ((rd_T24 l0 x5_1).f1)) ∧ w'.cell? ⟨(ad158.add ((x5_1).toNat * 3)).block, (ad158.add ((x5_1).toNat * 3)).off + 2, none⟩ = some (.string ((rd_T24 l0 x5_1).f2)) ∧ w'.cell? (ad159.add ((x5_1).toNat * 3)) = some (.int .i64 ((rd_T24 l1 x5_1).f0)) ∧ w'.cell? ⟨(ad159.add ((x5_1).toNat * 3)).block, (ad159.add ((x5_1).toNat * 3)).off + 1, none⟩ = some (.int .i64 ((rd_T24 l1 x5_1).f1)) ∧ w'.cell? ⟨(ad159.add ((x5_1).toNat * 3)).block, (ad159.add ((x5_1).toNat * 3)).off + 2, none⟩ = some (.string ((rd_T24 l1 x5_1).f2))) (ds := []) #[false, false, false, false, false, false, false, false, false, false] (by kernel_rfl) rfl rfl ⟨((HB.out.cell (World.block_lt_of_cell? w _ hw158_0)).trans hw158_0), ((HB.out.cell (World.block_lt_of_cell? w _ hw158_1)).trans hw158_1), ((HB.out.cell (World.block_lt_of_cell? w _ hw158_2)).trans hw158_2), ((HB.out.cell (World.block_lt_of_cell? w _ hw159_0)).trans hw159_0), ((HB.out.cell (World.block_lt_of_cell? w _ hw159_1)).trans hw159_1), ((HB.out.cell (World.block_lt_of_cell? w _ hw159_2)).trans hw159_2)⟩ (fun hHeld => ?_); refine with_tabW r1_CompareRows.tab4 r1_CompareRows.bits4 (fun HT_ HW_ => ?_)
      generalize wc.drew = w13 at HB hx158_0 hx158_1 hx158_2 hx159_0 hx159_1 hx159_2 hHeld ⊢
      refine pY (i := 0) (N := some 19) (tf 1 9) rfl rfl HT_.out ?_
      refine pY (i := 1) (N := some 20) (tf 2 8) rfl rfl HT_.out ?_
      refine pY (i := 2) (N := some 21) (tf 3 7) rfl rfl HT_.out ?_
      refine pY (i := 4) (N := some 23) #[true, true, true, false, true, false, false, false, false, false] rfl rfl HT_.out ?_
      refine pY (i := 5) (N := some 24) #[true, true, true, false, true, true, false, false, false, false] rfl rfl HT_.out ?_
      refine pY (i := 6) (N := some 25) #[true, true, true, false, true, true, true, false, false, false] rfl rfl HT_.out ?_
      refine take_ (i := 3) (N := some 22) (v := ?_) (a' := ?_) (tf 7 3) rfl rfl (take_ofW HT_.out HW_.out (by kernel_rfl)) (fun _ _ _ h => h) (Or.inl ⟨by rfl, ?_⟩) hHeld ?_ ?_
      rotate_left
      ·rintro w' ⟨s0, s1, s2, s3, s4, s5⟩
       go_simp
       with_reducible rfl
      rotate_left
      ·exact aP
      refine take_ (i := 7) (N := some 26) (v := ?_) (a' := ?_) (tf 8 2) rfl rfl (take_ofW HT_.out HW_.out (by kernel_rfl)) (fun _ _ _ h => h) (Or.inl ⟨by rfl, ?_⟩) hHeld ?_ ?_
      rotate_left
      ·rintro w' ⟨s0, s1, s2, s3, s4, s5⟩
       go_simp
       with_reducible rfl
      rotate_left
      ·exact aP
      refine one_ (i := 8) (N := some 27) (tf 9 1) rfl rfl (one_of HT_.out (by kernel_rfl)) (by decide) (fun K hK => ?_)
      refine goes_ Try.func26 (by kernel_rfl) rfl #[.agg #[.int .i64 ((rd_T24 l0 x5_1).f0), .int .i64 ((rd_T24 l0 x5_1).f1), .string ((rd_T24 l0 x5_1).f2)], .agg #[.int .i64 ((rd_T24 l1 x5_1).f0), .int .i64 ((rd_T24 l1 x5_1).f1), .string ((rd_T24 l1 x5_1).f2)]] (by rfl) rfl rfl (by (try simp only [List.map_toArray, List.map_cons, List.map_nil]); first | done | rfl | (simp only [List.length_drop, List.length_take]; rfl)) ?_
      with_reducible refine (r1_Compare.calls ((rd_T24 l0 x5_1).f0) ((rd_T24 l0 x5_1).f1) ((rd_T24 l0 x5_1).f2) ((rd_T24 l1 x5_1).f0) ((rd_T24 l1 x5_1).f1) ((rd_T24 l1 x5_1).f2) t160 _ A9.out).mono ?_
      rintro e w14 ⟨rfl, hb⟩
      refine ⟨_, rfl, ?_⟩
      have n0_ := aK (below_step bO hb)
      clear HB
      have HB := n0_
      clear n0_
      (try clear hb)
      (try clear hb2)
      (try clear hk)
      (try clear hi)
      refine hK.out _ _ ⟨((HB.out.cell (World.block_lt_of_cell? w _ hw158_0)).trans hw158_0), ((HB.out.cell (World.block_lt_of_cell? w _ hw158_1)).trans hw158_1), ((HB.out.cell (World.block_lt_of_cell? w _ hw158_2)).trans hw158_2), ((HB.out.cell (World.block_lt_of_cell? w _ hw159_0)).trans hw159_0), ((HB.out.cell (World.block_lt_of_cell? w _ hw159_1)).trans hw159_1), ((HB.out.cell (World.block_lt_of_cell? w _ hw159_2)).trans hw159_2)⟩ (fun hHeld => ?_)
      clear hK K
      refine norm_ (a' := ?_) ?_ ?_
      rotate_left
      ·show Act.put _ (some 27) _ = _
       simp only [Act.put, List.setIfInBounds_toArray, List.set_cons_zero, List.set_cons_succ, i64_w, i32_w]
       rfl
      refine pY (i := 9) (N := some 6) (tf 10 0) rfl rfl HT_.out ?_
      refine done_ (done_of HT_.out (by kernel_rfl)) ?_
      try go_wp2
      go_ret
      exact ⟨eW, bO⟩
     rw [if_pos c10] at H
     have c10b0 : (t160 == 0) = true := beq_iff_eq.mpr c10
     have c10b1 : (t160 != 0) = false := bne_eq_false_iff_eq.mpr c10
     clear c10
     have H' := Aside0.mk H
     clear H
     try go_wp2
     have n0_ := aK (below_drew1 HB.out)
     clear HB
     have HB := n0_
     clear n0_
     have p158 : 0 ≤ (x5_1 : Int) := of_decide_eq_true (aA)
     have q158 : x5_1 < (l0.length : Int) := of_decide_eq_true (aA)
     obtain ⟨ad158, e158, hx158_0, hx158_1, hx158_2⟩ := at_T24 HR0.out x5_1 p158 q158
     have hw158_2 := hx158_2
     have hw158_1 := hx158_1
     have hw158_0 := hx158_0
     cases e158
     replace hx158_0 := hW HB.out hx158_0
     replace hx158_1 := hW HB.out hx158_1
     replace hx158_2 := hW HB.out hx158_2
     replace p158 := eq_true p158
     replace q158 := eq_true q158
     have p159 : 0 ≤ (x5_1 : Int) := of_decide_eq_true (aA)
     have q159 : x5_1 < (l1.length : Int) := of_decide_eq_true (aA)
     obtain ⟨ad159, e159, hx159_0, hx159_1, hx159_2⟩ := at_T24 HR1.out x5_1 p159 q159
     have hw159_2 := hx159_2
     have hw159_1 := hx159_1
     have hw159_0 := hx159_0
     cases e159
     replace hx159_0 := hW HB.out hx159_0
     replace hx159_1 := hW HB.out hx159_1
     replace hx159_2 := hW HB.out hx159_2
     replace p159 := eq_true p159
     replace q159 := eq_true q159
     refine start_ (n := 10) (S := fun w' => w'.cell? (ad158.add ((x5_1).toNat * 3)) = some (.int .i64 ((rd_T24 l0 x5_1).f0)) ∧ w'.cell? ⟨(ad158.add ((x5_1).toNat * 3)).block, (ad158.add ((x5_1).toNat * 3)).off + 1, none⟩ = some (.int .i64 ((rd_T24 l0 x5_1).f1)) ∧ w'.cell? ⟨(ad158.add ((x5_1).toNat * 3)).block, (ad158.add ((x5_1).toNat * 3)).off + 2, none⟩ = some (.string ((rd_T24 l0 x5_1).f2)) ∧ w'.cell? (ad159.add ((x5_1).toNat * 3)) = some (.int .i64 ((rd_T24 l1 x5_1).f0)) ∧ w'.cell? ⟨(ad159.add ((x5_1).toNat * 3)).block, (ad159.add ((x5_1).toNat * 3)).off + 1, none⟩ = some (.int .i64 ((rd_T24 l1 x5_1).f1)) ∧ w'.cell? ⟨(ad159.add ((x5_1).toNat * 3)).block, (ad159.add ((x5_1).toNat * 3)).off + 2, none⟩ = some (.string ((rd_T24 l1 x5_1).f2))) (ds := []) #[false, false, false, false, false, false, false, false, false, false] (by kernel_rfl) rfl rfl ⟨((HB.out.cell (World.block_lt_of_cell? w _ hw158_0)).trans hw158_0), ((HB.out.cell (World.block_lt_of_cell? w _ hw158_1)).trans hw158_1), ((HB.out.cell (World.block_lt_of_cell? w _ hw158_2)).trans hw158_2), ((HB.out.cell (World.block_lt_of_cell? w _ hw159_0)).trans hw159_0), ((HB.out.cell (World.block_lt_of_cell? w _ hw159_1)).trans hw159_1), ((HB.out.cell (World.block_lt_of_cell? w _ hw159_2)).trans hw159_2)⟩ (fun hHeld => ?_); refine with_tabW r1_CompareRows.tab4 r1_CompareRows.bits4 (fun HT_ HW_ => ?_)
     generalize wc.drew = w11 at HB hx158_0 hx158_1 hx158_2 hx159_0 hx159_1 hx159_2 hHeld ⊢
     refine pY (i := 0) (N := some 19) (tf 1 9) rfl rfl HT_.out ?_
     refine pY (i := 1) (N := some 20) (tf 2 8) rfl rfl HT_.out ?_
     refine pY (i := 2) (N := some 21) (tf 3 7) rfl rfl HT_.out ?_
     refine pY (i := 4) (N := some 23) #[true, true, true, false, true, false, false, false, false, false] rfl rfl HT_.out ?_
     refine pY (i := 5) (N := some 24) #[true, true, true, false, true, true, false, false, false, false] rfl rfl HT_.out ?_
     refine pY (i := 6) (N := some 25) #[true, true, true, false, true, true, true, false, false, false] rfl rfl HT_.out ?_
     refine take_ (i := 3) (N := some 22) (v := ?_) (a' := ?_) (tf 7 3) rfl rfl (take_ofW HT_.out HW_.out (by kernel_rfl)) (fun _ _ _ h => h) (Or.inl ⟨by rfl, ?_⟩) hHeld ?_ ?_
     rotate_left
     ·rintro w' ⟨s0, s1, s2, s3, s4, s5⟩
      go_simp
      with_reducible rfl
     rotate_left
     ·exact aP
     refine take_ (i := 7) (N := some 26) (v := ?_) (a' := ?_) (tf 8 2) rfl rfl (take_ofW HT_.out HW_.out (by kernel_rfl)) (fun _ _ _ h => h) (Or.inl ⟨by rfl, ?_⟩) hHeld ?_ ?_
     rotate_left
     ·rintro w' ⟨s0, s1, s2, s3, s4, s5⟩
      go_simp
      with_reducible rfl
     rotate_left
     ·exact aP
     refine one_ (i := 8) (N := some 27) (tf 9 1) rfl rfl (one_of HT_.out (by kernel_rfl)) (by decide) (fun K hK => ?_)
     refine goes_ Try.func26 (by kernel_rfl) rfl #[.agg #[.int .i64 ((rd_T24 l0 x5_1).f0), .int .i64 ((rd_T24 l0 x5_1).f1), .string ((rd_T24 l0 x5_1).f2)], .agg #[.int .i64 ((rd_T24 l1 x5_1).f0), .int .i64 ((rd_T24 l1 x5_1).f1), .string ((rd_T24 l1 x5_1).f2)]] (by rfl) rfl rfl (by (try simp only [List.map_toArray, List.map_cons, List.map_nil]); first | done | rfl | (simp only [List.length_drop, List.length_take]; rfl)) ?_
     with_reducible refine (r1_Compare.calls ((rd_T24 l0 x5_1).f0) ((rd_T24 l0 x5_1).f1) ((rd_T24 l0 x5_1).f2) ((rd_T24 l1 x5_1).f0) ((rd_T24 l1 x5_1).f1) ((rd_T24 l1 x5_1).f2) t160 _ A9.out).mono ?_
     rintro e w12 ⟨rfl, hb⟩
     refine ⟨_, rfl, ?_⟩
     have n0_ := aK (below_step bO hb)
     clear HB
     have HB := n0_
     clear n0_
     (try clear hb)
     (try clear hb2)
     (try clear hk)
     (try clear hi)
     refine hK.out _ _ ⟨((HB.out.cell (World.block_lt_of_cell? w _ hw158_0)).trans hw158_0), ((HB.out.cell (World.block_lt_of_cell? w _ hw158_1)).trans hw158_1), ((HB.out.cell (World.block_lt_of_cell? w _ hw158_2)).trans hw158_2), ((HB.out.cell (World.block_lt_of_cell? w _ hw159_0)).trans hw159_0), ((HB.out.cell (World.block_lt_of_cell? w _ hw159_1)).trans hw159_1), ((HB.out.cell (World.block_lt_of_cell? w _ hw159_2)).trans hw159_2)⟩ (fun hHeld => ?_)
     clear hK K
     refine norm_ (a' := ?_) ?_ ?_
     rotate_left
     ·show Act.put _ (some 27) _ = _
      simp only [Act.put, List.setIfInBounds_toArray, List.set_cons_zero, List.set_cons_succ, i64_w, i32_w]
      rfl
     refine pY (i := 9) (N := some 6) (tf 10 0) rfl rfl HT_.out ?_
     refine done_ (done_of HT_.out (by kernel_rfl)) ?_
     try go_wp2
     go_roundg kj2
     case measure => have := HK1.out; have := HJ2.out; omega
     case rel => exact ⟨(wrap64 (x5_1 + 1)), (by first | rfl | (simp; done) | (simp [*]; done)), H', ⟨by have := HK1.out; have := HJ2.out; omega⟩, ⟨bO⟩⟩
end Go.Proofs.Ytpjcdacnhalclaa.Q
namespace Go.Proofs.Ytpjcdacnhalclaa.Q
open Go.RowKit Go.Proofs.YtpjcdacnhalclaaW.PrintWords Go.Proofs.YtpjcdacnhalclaaW.PrintLast Go.Proofs.YtpjcdacnhalclaaW.PrintMore
attribute [local go_sem] max2_int min2_int max_two min_two max_three min_three max_four min_four
theorem run_make_rowN {P : Program} (t e : TypeId) (i : TypeInfo) (z : Value) (ht : P.underlying t = some (.slice e)) (hi : P.info? e = some i) (hz : i.zero = some z)
  (kl kc : IntKind) (n c : Nat) (hnc : n ≤ c) (hbytes : i.bytes * c ≤ 281474976710656) (h63 : c ≤ 9223372036854775807) (w : World) :
  (Instr.makeSlice t (.int kl (n : Int)) (.int kc (c : Int))).run P w = .ok (.slice (some ⟨w.heap.size, 0, none⟩) n c) (w.alloc (.cells (madeCells z.cells (c * i.size)) e)) := by
 have hb : (i.bytes : Int) * (c : Int) ≤ 281474976710656 := by
  have h : ((i.bytes * c : Nat) : Int) ≤ 281474976710656 := by omega
  rwa [Int.natCast_mul] at h
 have hr := run_make (P := P) w t e i z ht hi hz kl kc n c (by omega) (by omega) hb (by omega)
 simp only [Int.toNat_natCast] at hr
 exact hr
def okRows (l0 : List (List S24)) : Bool := decide (l0.length < 65536) && l0.all (fun r => decide (r.length < 4398046511104))
theorem madeCells_one (z : Value) (n : Nat) : madeCells #[z] (n * 1) = (List.replicate n z).toArray := by
 apply Array.toList_inj.1
 rw [Nat.mul_one, toList_madeCells_one]
theorem cell_of_heap {w W : World} {g : Nat} (h : W.heap[g]? = w.heap[g]?) (j : Nat) : W.cell? ⟨g, j, none⟩ = w.cell? ⟨g, j, none⟩ := by simp only [World.cell?, h]
theorem lastOf_take (l : List (List S24)) (k : Nat) (h : k < l.length) : lastOf none (l.take (k + 1)) = some l[k] := by
 rw [List.take_succ_eq_append_getElem h]
 exact lastOf_snoc _ _ _
theorem ded_take0 (l : List (List S24)) (h : 0 < l.length) : ded none (l.take (0 + 1)) = ded none (l.take 0) ++ [l[0]] := by
 rw [List.take_succ_eq_append_getElem h]
 rfl
theorem ded_take (l : List (List S24)) (k : Nat) (h : k + 1 < l.length) : ded none (l.take (k + 1 + 1)) = ded none (l.take (k + 1)) ++ (if cmpL l[k] l[k + 1] = 0 then [] else [l[k + 1]]) := by
 rw [List.take_succ_eq_append_getElem h, ded_snoc, lastOf_take l k (by omega)]
theorem ded_len (l : List (List S24)) : ∀ o, (ded o l).length ≤ l.length := by
 induction l with
 | nil => intro o; cases o <;> simp [ded]
 | cons x xs ih =>
  intro o
  cases o with
  | none => simp only [ded, List.length_cons]; have := ih (some x); omega
  | some p =>
   simp only [ded]
   split
   ·have := ih (some x); simp only [List.length_cons]; omega
   ·have := ih (some x); simp only [List.length_cons]; omega
def r1_Copy.f (l0 : List (S24)) : Option ((List (S24))) := if ([] : List (S24)).length + l0.length < 4398046511104 then (some (([] : List (S24)) ++ l0)) else (none)
set_option maxHeartbeats 8000000 in
set_option maxRecDepth 100000 in
theorem r1_Copy.calls (A0 : Option Addr) (c0 : Nat) (l0 : List (S24)) (r : List (S24)) (w : World) (hr0 : Kd.C k24 w A0 l0.length l0) (hc0 : l0.length ≤ c0) (h : r1_Copy.f l0 = some r) :
  Calls Try.prog 89 #[.slice A0 l0.length c0] w fun e w' => ∃ v0_ : Value, e = .returned (v0_) ∧ Kd.R k24 24 w' w.heap.size (fun _ => True) v0_ r ∧ Below w.heap.size w w' := by
 have HR0 := Aside0.mk hr0
 have HC0 := Aside0.mk hc0
 clear hr0 hc0
 have HB := aK (Below.refl w.heap.size w)
 have H : (if ([] : List (S24)).length + l0.length < 4398046511104 then (some (([] : List (S24)) ++ l0)) else (none)) = some r := h
 clear h
 by_cases c2 : ([] : List (S24)).length + l0.length < 4398046511104
 rotate_left
 ·rw [if_neg c2] at H
  exact absurd H (by simp)
 rw [if_pos c2] at H
 have LMc2 := Aside0.mk c2
 clear c2
 obtain ⟨y161, hy161⟩ : ∃ y_ : List (S24), y_ = (([] : List (S24)) ++ l0) := ⟨_, rfl⟩
 replace H : (some y161) = some r := by first | (rw [hy161]; with_reducible exact H) | (have H2_ := (Option.bind_some _ _).symm.trans H; rw [hy161]; with_reducible exact H2_) | (have H2_ := (Option.bind_some _ _).symm.trans H; with_reducible exact H2_) | with_reducible exact H | (rw [hy161]; exact H) | exact H
 have Ny161 := Aside0.mk hy161
 clear hy161
 obtain rfl := Option.some.inj H
 go_enter Try.func89, Try.ntmps89
 go_wp2_with (first | ((with_reducible refine gate_builtin (b := .append) (xs := #[(.const (.slice none 0 0)), .tmp 3]) rfl ?_); at_builtin; refine Kd.R_append_rows k24 (w0 := w) w.heap.size rfl (.const (.slice none 0 0)) (.tmp 3) 54 24 (.agg #[(.int .i64 0), (.int .i64 0), (.string ⟨#[]⟩)]) 32 rfl Try.underlying54 info24 rfl (by decide) (by omega) (.slice none 0 0) ([] : List (S24)) l0 _ _ _ (fun _ => True) (fun _ => False) rfl rfl ?aO ?aR (fun _ _ h => h) (fun _ h => h.elim) ?aF ?aB ?aS ?aL ?_; (case aR => exact cX HR0.out); (case aB => exact bO); (case aF => exact (fun _ _ => trivial)); (case aO => exact ((Kd.R_nil _ _ _ _ (fun _ => True)))); (case aS => exact (below_size bO)); (case aL => have := LMc2.out; omega); intro v162 w3 ho hb hg hat; rw [← Ny161.out] at ho; have n0_ := aK (hb); have n1_ := aK (ho); clear HB; have HB := n0_; have HO163 := n1_; clear n0_ n1_ ho hb hg hat))
 go_ret
 exact ⟨_, eW, rX HO163.out, bO⟩
def rdH {w0 : World} (xs : List (Hdr w0)) (i : Int) : Hdr w0 := xs.getD i.toNat default
theorem kH_at {w0 w : World} {A : Option Addr} {n : Nat} {xs : List (Hdr w0)} (h : Kd.C (kH w0) w A n xs) (i : Int) (h0 : 0 ≤ i) (h1 : i < n) : ∃ ad, A = some ad ∧ w.cell? (ad.add i.toNat) = some (.slice (rdH xs i).A (rdH xs i).xs.length (rdH xs i).c) :=
 ReadsOf.at_ (enc := Hdr.enc) (d := default) (Kd.reads_of_C (enc := Hdr.enc) (d := (default : Hdr w0)) (h1 := fun _ => rfl) h) i h0 h1
theorem R_room {w0 W : World} (n : Nat) (ok : Nat → Prop) (Z : Array Value) (hZ : Z.size = n) (hn : n ≤ maxLen) (hok : ok W.heap.size) : Kd.R (kH w0) 54 (W.alloc (.cells Z 54)) W.heap.size ok (.slice (some ⟨W.heap.size, 0, none⟩) 0 n) [] := by
 refine ⟨fun k hk => by simp only [Value.ownBlock, Option.some.injEq] at hk; subst hk; exact hok, [], ⟨rfl, .inr ⟨_, _, _, rfl, Nat.le_refl _, heap_alloc_new W _, Nat.zero_le _, hn, ?_, ?_⟩⟩, rfl, fun j p hj => by simp at hj⟩
 ·rw [hZ]; exact (Nat.mul_one n).symm
 ·simp
end Go.Proofs.Ytpjcdacnhalclaa.Q
