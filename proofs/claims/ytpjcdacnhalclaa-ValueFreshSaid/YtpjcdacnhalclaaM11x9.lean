/- A part of a proof: facts of functions that the law calls; conditions stand in each. -/
import Derived.Test.YtpjcdacnhalclaaM11x2
import Derived.Test.YtpjcdacnhalclaaM11x8
import Derived.Shelf.SlSortCmp.WholeK
import Derived.Shelf.SlSortCmp.Whole1
import Derived.Test.YtpjcdacnhalclaaM11x6
import Derived.Test.YtpjcdacnhalclaaM11x5
import Derived.Test.YtpjcdacnhalclaaM11x4
import Derived.Test.YtpjcdacnhalclaaM11x7
import Derived.Laws.CopyOwn
import Derived.Lib.SlBuf
import Derived.Test.YtpjcdacnhalclaaRows
set_option linter.unusedVariables false
set_option linter.unusedSimpArgs false
namespace Go.Proofs.Ytpjcdacnhalclaa.Q
open Go.RowKit Go.Proofs.YtpjcdacnhalclaaW.PrintWords Go.Proofs.YtpjcdacnhalclaaW.PrintLast Go.Proofs.YtpjcdacnhalclaaW.PrintMore
attribute [local go_sem] max2_int min2_int max_two min_two max_three min_three max_four min_four
mutual
def r1_CompareRows.l0 : Nat → List (S24) → List (S24) → Int → Option (Int)
 | 0, _, _, _ => none
 | k + 1, x0, x1, x5 => if x5 < (x0.length : Int) then (r1_CompareRows.j1 k x0 x1 x5 (decide (x5 < (x1.length : Int)))) else (r1_CompareRows.j1 k x0 x1 x5 false)
def r1_CompareRows.j1 : Nat → List (S24) → List (S24) → Int → Bool → Option (Int)
 | 0, _, _, _, _ => none
 | k + 1, x0, x1, x5, x16 => if x16 = true then (if 0 ≤ x5 then (if x5 < (x0.length : Int) then (if x5 < (x1.length : Int) then ((r1_Compare.f ((rd_T24 x0 x5).f0) ((rd_T24 x0 x5).f1) ((rd_T24 x0 x5).f2) ((rd_T24 x1 x5).f0) ((rd_T24 x1 x5).f1) ((rd_T24 x1 x5).f2)).bind fun t160 => (if t160 = 0 then (r1_CompareRows.l0 k x0 x1 (wrap64 (x5 + 1))) else (some t160))) else (none)) else (none)) else (none)) else (if (x0.length : Int) < (x1.length : Int) then (some (-1)) else (if (x0.length : Int) > (x1.length : Int) then (some 1) else (some 0)))
end
def r1_CompareRows.f (k : Nat) (l0 : List (S24)) (l1 : List (S24)) : Option (Int) := r1_CompareRows.l0 k l0 l1 0
def r1_CompareRows.T4 : Bool × List (List Nat × List Nat) := (true, [([], []), ([], []), ([0, 1], [0, 1]), ([2], [2]), ([], []), ([], []), ([4, 5], [4, 5]), ([6], [6]), ([3, 7], [3, 7]), ([8, 8, 0, 1, 2, 3, 4, 5, 6, 7, 8], [8])])
def r1_CompareRows.B4 : List Nat := [0, 0, 3, 7, 0, 0, 48, 112, 255, 511]
theorem r1_CompareRows.tab4 : rtab .any (opsOf Try.f53 4) = r1_CompareRows.T4 := by kernel_rfl
theorem r1_CompareRows.bits4 : waitsOk r1_CompareRows.T4.2 r1_CompareRows.B4 = true := by kernel_rfl
set_option maxHeartbeats 8000000 in
set_option maxRecDepth 100000 in
theorem r1_CompareRows.calls (k : Nat) (A0 : Option Addr) (c0 : Nat) (l0 : List (S24)) (A1 : Option Addr) (c1 : Nat) (l1 : List (S24)) (r : Int) (w : World) (hr0 : Kd.C k24 w A0 l0.length l0) (hc0 : l0.length ≤ c0) (hr1 : Kd.C k24 w A1 l1.length l1) (hc1 : l1.length ≤ c1) (h : r1_CompareRows.f k l0 l1 = some r) :
  Calls Try.prog 53 #[.slice A0 l0.length c0, .slice A1 l1.length c1] w fun e w' => e = .returned (.int .i64 r) ∧ Below w.heap.size w w' := by
 have hu24 := Try.underlying24
 have HR0 := Aside0.mk hr0
 have HC0 := Aside0.mk hc0
 clear hr0 hc0
 have HR1 := Aside0.mk hr1
 have HC1 := Aside0.mk hc1
 clear hr1 hc1
 have HB := aK (Below.refl w.heap.size w)
 have H : (r1_CompareRows.l0 k l0 l1 0) = some r := h
 clear h
 have H' := Aside0.mk H
 clear H
 go_enter Try.func53, Try.ntmps53
 go_wp2
 go_loopg [5] k (fun kq v5 w' => ∃ (x5_1 : Int), v5 = .int .i64 x5_1 ∧ Aside0 (r1_CompareRows.l0 kq l0 l1 x5_1 = some r) ∧ Aside0 (kq ≤ k) ∧ Aside0 (Below w.heap.size w w'))
 case atStart => exact ⟨(0), (by first | rfl | (simp; done) | (simp [*]; done)), H', ⟨Nat.le_refl _⟩, ⟨bO⟩⟩
 case round =>
  clear H'
  try clear c1
  try clear p2
  obtain ⟨x5_1, rfl, HA, HK1, HB⟩ := hrel
  cases gk with
  | zero => exact absurd HA.out (by simp [r1_CompareRows.l0])
  | succ k1 =>
   have H := HA.out
   clear HA
   simp only [r1_CompareRows.l0] at H
   have HC3 := Aside0.mk H
   clear H
   go_upto_region 2 with (fail)
   go_cut [16] (fun v16 wc => ∃ (kq : Nat) (x16_2 : Bool), v16 = .bool x16_2 ∧ Aside0 (r1_CompareRows.j1 kq l0 l1 x5_1 x16_2 = some r) ∧ Aside0 (kq ≤ k1) ∧ Aside0 (Below w.heap.size w wc))
   case first =>
    have H := HC3.out
    clear HC3
    by_cases c4 : x5_1 < (l0.length : Int)
    rotate_left
    ·rw [if_neg c4] at H
     have c4b0 : decide (x5_1 < (l0.length : Int)) = false := decide_eq_false c4
     clear c4
     (first | rw [c4b0] | (simp only [i64_w, i32_w]; rw [c4b0]) | skip)
     have H' := Aside0.mk H
     clear H
     go_wp2
     go_meet
     case rel => exact ⟨_, (false), (by first | rfl | (simp; done) | (simp [*]; done)), H', ⟨by have := HK1.out; first | omega | exact Nat.le_refl _⟩, ⟨bO⟩⟩
    rw [if_pos c4] at H
    have c4b0 : decide (x5_1 < (l0.length : Int)) = true := decide_eq_true c4
    clear c4
    (first | rw [c4b0] | (simp only [i64_w, i32_w]; rw [c4b0]) | skip)
    have H' := Aside0.mk H
    clear H
    go_wp2
    go_meet
    case rel => exact ⟨_, (decide (x5_1 < (l1.length : Int))), (by first | rfl | (simp; done) | (simp [*]; done)), H', ⟨by have := HK1.out; first | omega | exact Nat.le_refl _⟩, ⟨bO⟩⟩
   case rest =>
    clear HC3
    try clear c1
    try clear p2
    try clear c4
    try clear c4b0
    try clear p2
    obtain ⟨kq, x16_2, rfl, HA, HJ2, HB⟩ := hcut
    cases kq with
    | zero => exact absurd HA.out (by simp [r1_CompareRows.j1])
    | succ kj2 =>
     have H := HA.out
     clear HA
     simp only [r1_CompareRows.j1] at H
     by_cases c5 : x16_2 = true
     rotate_left
     ·replace c5 := Bool.eq_false_iff.mpr c5
      subst c5
      rw [if_neg (show ¬ (false = true) by decide)] at H
      by_cases c15 : (l0.length : Int) < (l1.length : Int)
      rotate_left
      ·rw [if_neg c15] at H
       have c15b0 : decide ((l0.length : Int) < (l1.length : Int)) = false := decide_eq_false c15
       have c15b1 : decide (l0.length < l1.length) = false := decide_eq_false (fun h => c15 (Int.ofNat_lt.mpr h))
       clear c15
       by_cases c16 : (l0.length : Int) > (l1.length : Int)
       rotate_left
       ·rw [if_neg c16] at H
        have c16b0 : decide ((l1.length : Int) < (l0.length : Int)) = false := decide_eq_false c16
        have c16b1 : decide (l1.length < l0.length) = false := decide_eq_false (fun h => c16 (Int.ofNat_lt.mpr h))
        clear c16
        obtain rfl := Option.some.inj H
        go_wp2
        go_ret
        exact ⟨eW, bO⟩
       rw [if_pos c16] at H
       have c16b0 : decide ((l1.length : Int) < (l0.length : Int)) = true := decide_eq_true c16
       have c16b1 : decide (l1.length < l0.length) = true := decide_eq_true (Int.ofNat_lt.mp c16)
       clear c16
       obtain rfl := Option.some.inj H
       go_wp2
       go_ret
       exact ⟨eW, bO⟩
      rw [if_pos c15] at H
      have c15b0 : decide ((l0.length : Int) < (l1.length : Int)) = true := decide_eq_true c15
      have c15b1 : decide (l0.length < l1.length) = true := decide_eq_true (Int.ofNat_lt.mp c15)
      clear c15
      obtain rfl := Option.some.inj H
      go_wp2
      go_ret
      exact ⟨eW, bO⟩
     subst c5
     rw [if_pos rfl] at H
     by_cases c6 : 0 ≤ x5_1
     rotate_left
     ·rw [if_neg c6] at H
      exact absurd H (by simp)
     rw [if_pos c6] at H
     have c6b0 : decide (0 ≤ x5_1) = true := decide_eq_true c6
     clear c6
     by_cases c7 : x5_1 < (l0.length : Int)
     rotate_left
     ·rw [if_neg c7] at H
      exact absurd H (by simp)
     rw [if_pos c7] at H
     have c7b0 : decide (x5_1 < (l0.length : Int)) = true := decide_eq_true c7
     clear c7
     by_cases c8 : x5_1 < (l1.length : Int)
     rotate_left
     ·rw [if_neg c8] at H
      exact absurd H (by simp)
     rw [if_pos c8] at H
     have c8b0 : decide (x5_1 < (l1.length : Int)) = true := decide_eq_true c8
     clear c8
     obtain ⟨t160, A9, H⟩ := oB H
     try dsimp only at H
     by_cases c10 : t160 = 0
     rotate_left
     ·rw [if_neg c10] at H
      have c10b0 : (t160 == 0) = false := beq_eq_false_iff_ne.mpr c10
      have c10b1 : (t160 != 0) = true := bne_iff_ne.mpr c10
      obtain rfl := Option.some.inj H
      try go_wp2
      have n0_ := aK (below_drew1 HB.out)
      clear HB
      have HB := n0_
      clear n0_
      have p158 : 0 ≤ (x5_1 : Int) := of_decide_eq_true (aA)
      have q158 : x5_1 < (l0.length : Int) := of_decide_eq_true (aA)
      obtain ⟨ad158, e158, hx158_0, hx158_1, hx158_2⟩ := at_T24 HR0.out x5_1 p158 q158
      have hw158_2 := hx158_2
      have hw158_1 := hx158_1
      have hw158_0 := hx158_0
      cases e158
      replace hx158_0 := hW HB.out hx158_0
      replace hx158_1 := hW HB.out hx158_1
      replace hx158_2 := hW HB.out hx158_2
      replace p158 := eq_true p158
      replace q158 := eq_true q158
      have p159 : 0 ≤ (x5_1 : Int) := of_decide_eq_true (aA)
      have q159 : x5_1 < (l1.length : Int) := of_decide_eq_true (aA)
      obtain ⟨ad159, e159, hx159_0, hx159_1, hx159_2⟩ := at_T24 HR1.out x5_1 p159 q159
      have hw159_2 := hx159_2
      have hw159_1 := hx159_1
      have hw159_0 := hx159_0
      cases e159
      replace hx159_0 := hW HB.out hx159_0
      replace hx159_1 := hW HB.out hx159_1
      replace hx159_2 := hW HB.out hx159_2
      replace p159 := eq_true p159
      replace q159 := eq_true q159
      refine start_ (n := 10) (S := fun w' => w'.cell? (ad158.add ((x5_1).toNat * 3)) = some (.int .i64 ((rd_T24 l0 x5_1).f0)) ∧ w'.cell? ⟨(ad158.add ((x5_1).toNat * 3)).block, (ad158.add ((x5_1).toNat * 3)).off + 1, none⟩ = some (.int .i64 ((rd_T24 l0 x5_1).f1)) ∧ w'.cell? ⟨(ad158.add ((x5_1).toNat * 3)).block, (ad158.add ((x5_1).toNat * 3)).off + 2, none⟩ = some (.string ((rd_T24 l0 x5_1).f2)) ∧ w'.cell? (ad159.add ((x5_1).toNat * 3)) = some (.int .i64 ((rd_T24 l1 x5_1).f0)) ∧ w'.cell? ⟨(ad159.add ((x5_1).toNat * 3)).block, (ad159.add ((x5_1).toNat * 3)).off + 1, none⟩ = some (.int .i64 ((rd_T24 l1 x5_1).f1)) ∧ w'.cell? ⟨(ad159.add ((x5_1).toNat * 3)).block, (ad159.add ((x5_1).toNat * 3)).off + 2, none⟩ = some (.string ((rd_T24 l1 x5_1).f2))) (ds := []) #[false, false, false, false, false, false, false, false, false, false] (by kernel_rfl) rfl rfl ⟨((HB.out.cell (World.block_lt_of_cell? w _ hw158_0)).trans hw158_0), ((HB.out.cell (World.block_lt_of_cell? w _ hw158_1)).trans hw158_1), ((HB.out.cell (World.block_lt_of_cell? w _ hw158_2)).trans hw158_2), ((HB.out.cell (World.block_lt_of_cell? w _ hw159_0)).trans hw159_0), ((HB.out.cell (World.block_lt_of_cell? w _ hw159_1)).trans hw159_1), ((HB.out.cell (World.block_lt_of_cell? w _ hw159_2)).trans hw159_2)⟩ (fun hHeld => ?_); refine with_tabW r1_CompareRows.tab4 r1_CompareRows.bits4 (fun HT_ HW_ => ?_)
      generalize wc.drew = w13 at HB hx158_0 hx158_1 hx158_2 hx159_0 hx159_1 hx159_2 hHeld ⊢
      refine pY (i := 0) (N := some 19) (tf 1 9) rfl rfl HT_.out ?_
      refine pY (i := 1) (N := some 20) (tf 2 8) rfl rfl HT_.out ?_
      refine pY (i := 2) (N := some 21) (tf 3 7) rfl rfl HT_.out ?_
      refine pY (i := 4) (N := some 23) #[true, true, true, false, true, false, false, false, false, false] rfl rfl HT_.out ?_
      refine pY (i := 5) (N := some 24) #[true, true, true, false, true, true, false, false, false, false] rfl rfl HT_.out ?_
      refine pY (i := 6) (N := some 25) #[true, true, true, false, true, true, true, false, false, false] rfl rfl HT_.out ?_
      refine take_ (i := 3) (N := some 22) (v := ?_) (a' := ?_) #[true, true, true, true, true, true, true, false, false, false] rfl rfl (take_ofW HT_.out HW_.out (by kernel_rfl)) (fun _ _ _ h => h) (Or.inl ⟨by rfl, ?_⟩) hHeld ?_ ?_
      rotate_left
      ·rintro w' ⟨s0, s1, s2, s3, s4, s5⟩
       go_simp
       with_reducible rfl
      rotate_left
      ·exact aP
      refine take_ (i := 7) (N := some 26) (v := ?_) (a' := ?_) #[true, true, true, true, true, true, true, true, false, false] rfl rfl (take_ofW HT_.out HW_.out (by kernel_rfl)) (fun _ _ _ h => h) (Or.inl ⟨by rfl, ?_⟩) hHeld ?_ ?_
      rotate_left
      ·rintro w' ⟨s0, s1, s2, s3, s4, s5⟩
       go_simp
       with_reducible rfl
      rotate_left
      ·exact aP
      refine one_ (i := 8) (N := some 27) #[true, true, true, true, true, true, true, true, true, false] rfl rfl (one_of HT_.out (by kernel_rfl)) (by decide) (fun K hK => ?_)
      refine goes_ Try.func26 (by kernel_rfl) rfl #[.agg #[.int .i64 ((rd_T24 l0 x5_1).f0), .int .i64 ((rd_T24 l0 x5_1).f1), .string ((rd_T24 l0 x5_1).f2)], .agg #[.int .i64 ((rd_T24 l1 x5_1).f0), .int .i64 ((rd_T24 l1 x5_1).f1), .string ((rd_T24 l1 x5_1).f2)]] (by rfl) rfl rfl (by (try simp only [List.map_toArray, List.map_cons, List.map_nil]); first | done | rfl | (simp only [List.length_drop, List.length_take]; rfl)) ?_
      with_reducible refine (r1_Compare.calls ((rd_T24 l0 x5_1).f0) ((rd_T24 l0 x5_1).f1) ((rd_T24 l0 x5_1).f2) ((rd_T24 l1 x5_1).f0) ((rd_T24 l1 x5_1).f1) ((rd_T24 l1 x5_1).f2) t160 _ A9.out).mono ?_
      rintro e w14 ⟨rfl, hb⟩
      refine ⟨_, rfl, ?_⟩
      have n0_ := aK (below_step bO hb)
      clear HB
      have HB := n0_
      clear n0_
      (try clear hb)
      (try clear hb2)
      (try clear hk)
      (try clear hi)
      refine hK.out _ _ ⟨((HB.out.cell (World.block_lt_of_cell? w _ hw158_0)).trans hw158_0), ((HB.out.cell (World.block_lt_of_cell? w _ hw158_1)).trans hw158_1), ((HB.out.cell (World.block_lt_of_cell? w _ hw158_2)).trans hw158_2), ((HB.out.cell (World.block_lt_of_cell? w _ hw159_0)).trans hw159_0), ((HB.out.cell (World.block_lt_of_cell? w _ hw159_1)).trans hw159_1), ((HB.out.cell (World.block_lt_of_cell? w _ hw159_2)).trans hw159_2)⟩ (fun hHeld => ?_)
      clear hK K
      refine norm_ (a' := ?_) ?_ ?_
      rotate_left
      ·show Act.put _ (some 27) _ = _
       simp only [Act.put, List.setIfInBounds_toArray, List.set_cons_zero, List.set_cons_succ, i64_w, i32_w]
       rfl
      refine pY (i := 9) (N := some 6) (tf 10 0) rfl rfl HT_.out ?_
      refine done_ (done_of HT_.out (by kernel_rfl)) ?_
      try go_wp2
      go_ret
      exact ⟨eW, bO⟩
     rw [if_pos c10] at H
     have c10b0 : (t160 == 0) = true := beq_iff_eq.mpr c10
     have c10b1 : (t160 != 0) = false := bne_eq_false_iff_eq.mpr c10
     clear c10
     have H' := Aside0.mk H
     clear H
     try go_wp2
     have n0_ := aK (below_drew1 HB.out)
     clear HB
     have HB := n0_
     clear n0_
     have p158 : 0 ≤ (x5_1 : Int) := of_decide_eq_true (aA)
     have q158 : x5_1 < (l0.length : Int) := of_decide_eq_true (aA)
     obtain ⟨ad158, e158, hx158_0, hx158_1, hx158_2⟩ := at_T24 HR0.out x5_1 p158 q158
     have hw158_2 := hx158_2
     have hw158_1 := hx158_1
     have hw158_0 := hx158_0
     cases e158
     replace hx158_0 := hW HB.out hx158_0
     replace hx158_1 := hW HB.out hx158_1
     replace hx158_2 := hW HB.out hx158_2
     replace p158 := eq_true p158
     replace q158 := eq_true q158
     have p159 : 0 ≤ (x5_1 : Int) := of_decide_eq_true (aA)
     have q159 : x5_1 < (l1.length : Int) := of_decide_eq_true (aA)
     obtain ⟨ad159, e159, hx159_0, hx159_1, hx159_2⟩ := at_T24 HR1.out x5_1 p159 q159
     have hw159_2 := hx159_2
     have hw159_1 := hx159_1
     have hw159_0 := hx159_0
     cases e159
     replace hx159_0 := hW HB.out hx159_0
     replace hx159_1 := hW HB.out hx159_1
     replace hx159_2 := hW HB.out hx159_2
     replace p159 := eq_true p159
     replace q159 := eq_true q159
     refine start_ (n := 10) (S := fun w' => w'.cell? (ad158.add ((x5_1).toNat * 3)) = some (.int .i64 ((rd_T24 l0 x5_1).f0)) ∧ w'.cell? ⟨(ad158.add ((x5_1).toNat * 3)).block, (ad158.add ((x5_1).toNat * 3)).off + 1, none⟩ = some (.int .i64 ((rd_T24 l0 x5_1).f1)) ∧ w'.cell? ⟨(ad158.add ((x5_1).toNat * 3)).block, (ad158.add ((x5_1).toNat * 3)).off + 2, none⟩ = some (.string ((rd_T24 l0 x5_1).f2)) ∧ w'.cell? (ad159.add ((x5_1).toNat * 3)) = some (.int .i64 ((rd_T24 l1 x5_1).f0)) ∧ w'.cell? ⟨(ad159.add ((x5_1).toNat * 3)).block, (ad159.add ((x5_1).toNat * 3)).off + 1, none⟩ = some (.int .i64 ((rd_T24 l1 x5_1).f1)) ∧ w'.cell? ⟨(ad159.add ((x5_1).toNat * 3)).block, (ad159.add ((x5_1).toNat * 3)).off + 2, none⟩ = some (.string ((rd_T24 l1 x5_1).f2))) (ds := []) #[false, false, false, false, false, false, false, false, false, false] (by kernel_rfl) rfl rfl ⟨((HB.out.cell (World.block_lt_of_cell? w _ hw158_0)).trans hw158_0), ((HB.out.cell (World.block_lt_of_cell? w _ hw158_1)).trans hw158_1), ((HB.out.cell (World.block_lt_of_cell? w _ hw158_2)).trans hw158_2), ((HB.out.cell (World.block_lt_of_cell? w _ hw159_0)).trans hw159_0), ((HB.out.cell (World.block_lt_of_cell? w _ hw159_1)).trans hw159_1), ((HB.out.cell (World.block_lt_of_cell? w _ hw159_2)).trans hw159_2)⟩ (fun hHeld => ?_); refine with_tabW r1_CompareRows.tab4 r1_CompareRows.bits4 (fun HT_ HW_ => ?_)
     generalize wc.drew = w11 at HB hx158_0 hx158_1 hx158_2 hx159_0 hx159_1 hx159_2 hHeld ⊢
     refine pY (i := 0) (N := some 19) (tf 1 9) rfl rfl HT_.out ?_
     refine pY (i := 1) (N := some 20) (tf 2 8) rfl rfl HT_.out ?_
     refine pY (i := 2) (N := some 21) (tf 3 7) rfl rfl HT_.out ?_
     refine pY (i := 4) (N := some 23) #[true, true, true, false, true, false, false, false, false, false] rfl rfl HT_.out ?_
     refine pY (i := 5) (N := some 24) #[true, true, true, false, true, true, false, false, false, false] rfl rfl HT_.out ?_
     refine pY (i := 6) (N := some 25) #[true, true, true, false, true, true, true, false, false, false] rfl rfl HT_.out ?_
     refine take_ (i := 3) (N := some 22) (v := ?_) (a' := ?_) #[true, true, true, true, true, true, true, false, false, false] rfl rfl (take_ofW HT_.out HW_.out (by kernel_rfl)) (fun _ _ _ h => h) (Or.inl ⟨by rfl, ?_⟩) hHeld ?_ ?_
     rotate_left
     ·rintro w' ⟨s0, s1, s2, s3, s4, s5⟩
      go_simp
      with_reducible rfl
     rotate_left
     ·exact aP
     refine take_ (i := 7) (N := some 26) (v := ?_) (a' := ?_) #[true, true, true, true, true, true, true, true, false, false] rfl rfl (take_ofW HT_.out HW_.out (by kernel_rfl)) (fun _ _ _ h => h) (Or.inl ⟨by rfl, ?_⟩) hHeld ?_ ?_
     rotate_left
     ·rintro w' ⟨s0, s1, s2, s3, s4, s5⟩
      go_simp
      with_reducible rfl
     rotate_left
     ·exact aP
     refine one_ (i := 8) (N := some 27) #[true, true, true, true, true, true, true, true, true, false] rfl rfl (one_of HT_.out (by kernel_rfl)) (by decide) (fun K hK => ?_)
     refine goes_ Try.func26 (by kernel_rfl) rfl #[.agg #[.int .i64 ((rd_T24 l0 x5_1).f0), .int .i64 ((rd_T24 l0 x5_1).f1), .string ((rd_T24 l0 x5_1).f2)], .agg #[.int .i64 ((rd_T24 l1 x5_1).f0), .int .i64 ((rd_T24 l1 x5_1).f1), .string ((rd_T24 l1 x5_1).f2)]] (by rfl) rfl rfl (by (try simp only [List.map_toArray, List.map_cons, List.map_nil]); first | done | rfl | (simp only [List.length_drop, List.length_take]; rfl)) ?_
     with_reducible refine (r1_Compare.calls ((rd_T24 l0 x5_1).f0) ((rd_T24 l0 x5_1).f1) ((rd_T24 l0 x5_1).f2) ((rd_T24 l1 x5_1).f0) ((rd_T24 l1 x5_1).f1) ((rd_T24 l1 x5_1).f2) t160 _ A9.out).mono ?_
     rintro e w12 ⟨rfl, hb⟩
     refine ⟨_, rfl, ?_⟩
     have n0_ := aK (below_step bO hb)
     clear HB
     have HB := n0_
     clear n0_
     (try clear hb)
     (try clear hb2)
     (try clear hk)
     (try clear hi)
     refine hK.out _ _ ⟨((HB.out.cell (World.block_lt_of_cell? w _ hw158_0)).trans hw158_0), ((HB.out.cell (World.block_lt_of_cell? w _ hw158_1)).trans hw158_1), ((HB.out.cell (World.block_lt_of_cell? w _ hw158_2)).trans hw158_2), ((HB.out.cell (World.block_lt_of_cell? w _ hw159_0)).trans hw159_0), ((HB.out.cell (World.block_lt_of_cell? w _ hw159_1)).trans hw159_1), ((HB.out.cell (World.block_lt_of_cell? w _ hw159_2)).trans hw159_2)⟩ (fun hHeld => ?_)
     clear hK K
     refine norm_ (a' := ?_) ?_ ?_
     rotate_left
     ·show Act.put _ (some 27) _ = _
      simp only [Act.put, List.setIfInBounds_toArray, List.set_cons_zero, List.set_cons_succ, i64_w, i32_w]
      rfl
     refine pY (i := 9) (N := some 6) (tf 10 0) rfl rfl HT_.out ?_
     refine done_ (done_of HT_.out (by kernel_rfl)) ?_
     try go_wp2
     go_roundg kj2
     case measure => have := HK1.out; have := HJ2.out; omega
     case rel => exact ⟨(wrap64 (x5_1 + 1)), (by first | rfl | (simp; done) | (simp [*]; done)), H', ⟨by have := HK1.out; have := HJ2.out; omega⟩, ⟨bO⟩⟩
def r1_Same.l0 : Nat → List (List (S24)) → List (List (S24)) → Int → Int → Option (Bool)
 | 0, _, _, _, _ => none
 | k + 1, x0, x1, x12, x13 => if x13 < x12 then (if 0 ≤ x13 then (if x13 < (x0.length : Int) then (if x13 < (x1.length : Int) then ((r1_CompareRows.f k (rd_L4 x0 x13) (rd_L4 x1 x13)).bind fun t871 => (if t871 = 0 then (r1_Same.l0 k x0 x1 x12 (wrap64 (x13 + 1))) else (some false))) else (none)) else (none)) else (none)) else (some true)
def r1_Same.f (k : Nat) (l0 : List (List (S24))) (l1 : List (List (S24))) : Option (Bool) := if (l0.length : Int) = (l1.length : Int) then (r1_Same.l0 k l0 l1 (l0.length : Int) 0) else (some false)
def r1_Same.T6 : Bool × List (List Nat × List Nat) := (true, [([], []), ([], []), ([0, 1], [0, 1]), ([2], [2]), ([], []), ([], []), ([4, 5], [4, 5]), ([6], [6]), ([3, 7], [3, 7]), ([8], [8])])
def r1_Same.B6 : List Nat := [0, 0, 3, 7, 0, 0, 48, 112, 255, 511]
theorem r1_Same.tab6 : rtab .any (opsOf Try.f56 6) = r1_Same.T6 := by kernel_rfl
theorem r1_Same.bits6 : waitsOk r1_Same.T6.2 r1_Same.B6 = true := by kernel_rfl
set_option maxHeartbeats 8000000 in
set_option maxRecDepth 100000 in
theorem r1_Same.calls (k : Nat) (A0 : Option Addr) (c0 : Nat) (l0 : List (List (S24))) (A1 : Option Addr) (c1 : Nat) (l1 : List (List (S24))) (r : Bool) (w : World) (hr0 : Kd.C (Kd.slice 24 k24) w A0 l0.length l0) (hc0 : l0.length ≤ c0) (hr1 : Kd.C (Kd.slice 24 k24) w A1 l1.length l1) (hc1 : l1.length ≤ c1) (h : r1_Same.f k l0 l1 = some r) :
  Calls Try.prog 56 #[.slice A0 l0.length c0, .slice A1 l1.length c1] w fun e w' => e = .returned (.bool r) ∧ Below w.heap.size w w' := by
 have HR0 := Aside0.mk hr0
 have HC0 := Aside0.mk hc0
 clear hr0 hc0
 have HR1 := Aside0.mk hr1
 have HC1 := Aside0.mk hc1
 clear hr1 hc1
 have HB := aK (Below.refl w.heap.size w)
 have H : (if (l0.length : Int) = (l1.length : Int) then (r1_Same.l0 k l0 l1 (l0.length : Int) 0) else (some false)) = some r := h
 clear h
 by_cases c3 : (l0.length : Int) = (l1.length : Int)
 rotate_left
 ·rw [if_neg c3] at H
  have c3b0 : ((l0.length : Int) == (l1.length : Int)) = false := beq_eq_false_iff_ne.mpr c3
  have c3b1 : ((l0.length : Int) != (l1.length : Int)) = true := bne_iff_ne.mpr c3
  have c3b2 : (l0.length == l1.length) = false := by first | simpa using c3 | (simp at c3 ⊢; omega)
  obtain rfl := Option.some.inj H
  go_enter Try.func56, Try.ntmps56
  go_wp2
  go_ret
  exact ⟨eW, bO⟩
 rw [if_pos c3] at H
 have c3b0 : ((l0.length : Int) == (l1.length : Int)) = true := beq_iff_eq.mpr c3
 have c3b1 : ((l0.length : Int) != (l1.length : Int)) = false := bne_eq_false_iff_eq.mpr c3
 have c3b2 : (l0.length == l1.length) = true := by first | simpa using c3 | (simp at c3 ⊢; omega)
 clear c3
 have H' := Aside0.mk H
 clear H
 go_enter Try.func56, Try.ntmps56
 go_wp2
 go_loopg [13] k (fun kq v13 w' => ∃ (x13_1 : Int), v13 = .int .i64 x13_1 ∧ Aside0 (r1_Same.l0 kq l0 l1 (l0.length : Int) x13_1 = some r) ∧ Aside0 (kq ≤ k) ∧ Aside0 (Below w.heap.size w w'))
 case atStart => exact ⟨(0), (by first | rfl | (simp; done) | (simp [*]; done)), H', ⟨Nat.le_refl _⟩, ⟨bO⟩⟩
 case round =>
  clear H'
  try clear c1
  try clear p2
  try clear c3
  try clear c3b0
  try clear c3b1
  try clear c3b2
  obtain ⟨x13_1, rfl, HA, HK1, HB⟩ := hrel
  cases gk with
  | zero => exact absurd HA.out (by simp [r1_Same.l0])
  | succ k1 =>
   have H := HA.out
   clear HA
   simp only [r1_Same.l0] at H
   by_cases c4 : x13_1 < (l0.length : Int)
   rotate_left
   ·rw [if_neg c4] at H
    have c4b0 : decide (x13_1 < (l0.length : Int)) = false := decide_eq_false c4
    clear c4
    obtain rfl := Option.some.inj H
    go_wp2
    go_ret
    exact ⟨eW, bO⟩
   rw [if_pos c4] at H
   have c4b0 : decide (x13_1 < (l0.length : Int)) = true := decide_eq_true c4
   clear c4
   by_cases c5 : 0 ≤ x13_1
   rotate_left
   ·rw [if_neg c5] at H
    exact absurd H (by simp)
   rw [if_pos c5] at H
   have c5b0 : decide (0 ≤ x13_1) = true := decide_eq_true c5
   clear c5
   by_cases c6 : x13_1 < (l0.length : Int)
   rotate_left
   ·rw [if_neg c6] at H
    exact absurd H (by simp)
   rw [if_pos c6] at H
   have c6b0 : decide (x13_1 < (l0.length : Int)) = true := decide_eq_true c6
   clear c6
   by_cases c7 : x13_1 < (l1.length : Int)
   rotate_left
   ·rw [if_neg c7] at H
    exact absurd H (by simp)
   rw [if_pos c7] at H
   have c7b0 : decide (x13_1 < (l1.length : Int)) = true := decide_eq_true c7
   clear c7
   obtain ⟨t871, A8, H⟩ := oB H
   try dsimp only at H
   by_cases c9 : t871 = 0
   rotate_left
   ·rw [if_neg c9] at H
    have c9b0 : (t871 == 0) = false := beq_eq_false_iff_ne.mpr c9
    have c9b1 : (t871 != 0) = true := bne_iff_ne.mpr c9
    obtain rfl := Option.some.inj H
    try go_wp2
    have n0_ := aK (below_drew1 HB.out)
    clear HB
    have HB := n0_
    clear n0_
    have p869 : 0 ≤ (x13_1 : Int) := of_decide_eq_true (aA)
    have q869 : x13_1 < (l0.length : Int) := of_decide_eq_true (aA)
    obtain ⟨ad869, A869_0, c869_0, e869, hx869_0, hl869_0, hi869_0⟩ := at_L4 HR0.out x13_1 p869 q869
    have hw869_0 := hx869_0
    cases e869
    replace hx869_0 := hW HB.out hx869_0
    have HR869_0 := Aside0.mk hi869_0
    have HC869_0 := Aside0.mk hl869_0
    clear hi869_0 hl869_0
    replace p869 := eq_true p869
    replace q869 := eq_true q869
    have p870 : 0 ≤ (x13_1 : Int) := of_decide_eq_true (aA)
    have q870 : x13_1 < (l1.length : Int) := of_decide_eq_true (aA)
    obtain ⟨ad870, A870_0, c870_0, e870, hx870_0, hl870_0, hi870_0⟩ := at_L4 HR1.out x13_1 p870 q870
    have hw870_0 := hx870_0
    cases e870
    replace hx870_0 := hW HB.out hx870_0
    have HR870_0 := Aside0.mk hi870_0
    have HC870_0 := Aside0.mk hl870_0
    clear hi870_0 hl870_0
    replace p870 := eq_true p870
    replace q870 := eq_true q870
    refine start_ (n := 10) (S := fun w' => w'.cell? (ad869.add (x13_1).toNat) = some (.slice A869_0 (rd_L4 l0 x13_1).length c869_0) ∧ w'.cell? (ad870.add (x13_1).toNat) = some (.slice A870_0 (rd_L4 l1 x13_1).length c870_0)) (ds := []) #[false, false, false, false, false, false, false, false, false, false] (by kernel_rfl) rfl rfl ⟨((HB.out.cell (World.block_lt_of_cell? w _ hw869_0)).trans hw869_0), ((HB.out.cell (World.block_lt_of_cell? w _ hw870_0)).trans hw870_0)⟩ (fun hHeld => ?_); refine with_tabW r1_Same.tab6 r1_Same.bits6 (fun HT_ HW_ => ?_)
    generalize wr.drew = w12 at HB HR869_0 HR870_0 hx869_0 hx870_0 hHeld ⊢
    refine pY (i := 0) (N := some 16) (tf 1 9) rfl rfl HT_.out ?_
    refine pY (i := 1) (N := some 17) (tf 2 8) rfl rfl HT_.out ?_
    refine pY (i := 2) (N := some 18) (tf 3 7) rfl rfl HT_.out ?_
    refine pY (i := 4) (N := some 20) #[true, true, true, false, true, false, false, false, false, false] rfl rfl HT_.out ?_
    refine pY (i := 5) (N := some 21) #[true, true, true, false, true, true, false, false, false, false] rfl rfl HT_.out ?_
    refine pY (i := 6) (N := some 22) #[true, true, true, false, true, true, true, false, false, false] rfl rfl HT_.out ?_
    refine take_ (i := 3) (N := some 19) (v := ?_) (a' := ?_) #[true, true, true, true, true, true, true, false, false, false] rfl rfl (take_ofW HT_.out HW_.out (by kernel_rfl)) (fun _ _ _ h => h) (Or.inl ⟨by rfl, ?_⟩) hHeld ?_ ?_
    rotate_left
    ·rintro w' ⟨s0, s1⟩
     go_simp
     with_reducible rfl
    rotate_left
    ·exact aP
    refine take_ (i := 7) (N := some 23) (v := ?_) (a' := ?_) #[true, true, true, true, true, true, true, true, false, false] rfl rfl (take_ofW HT_.out HW_.out (by kernel_rfl)) (fun _ _ _ h => h) (Or.inl ⟨by rfl, ?_⟩) hHeld ?_ ?_
    rotate_left
    ·rintro w' ⟨s0, s1⟩
     go_simp
     with_reducible rfl
    rotate_left
    ·exact aP
    refine one_ (i := 8) (N := some 24) #[true, true, true, true, true, true, true, true, true, false] rfl rfl (one_of HT_.out (by kernel_rfl)) (by decide) (fun K hK => ?_)
    refine goes_ Try.func53 (by kernel_rfl) rfl #[.slice A869_0 (rd_L4 l0 x13_1).length c869_0, .slice A870_0 (rd_L4 l1 x13_1).length c870_0] (by rfl) rfl rfl (by (try simp only [List.map_toArray, List.map_cons, List.map_nil]); first | done | rfl | (simp only [List.length_drop, List.length_take]; rfl)) ?_
    with_reducible refine (r1_CompareRows.calls k1 _ _ (rd_L4 l0 x13_1) _ _ (rd_L4 l1 x13_1) t871 _ ?side1 ?side2 ?side3 ?side4 A8.out).mono ?_
    (case side1 => repeat (first | exact (Kd.C_below HR869_0.out HB.out) | (with_reducible refine Kd.C_alloc ?_ _) | (with_reducible refine Kd.C_drewN ?_ _) | (with_reducible refine Kd.C_drew ?_)))
    (case side2 => exact HC869_0.out)
    (case side3 => repeat (first | exact (Kd.C_below HR870_0.out HB.out) | (with_reducible refine Kd.C_alloc ?_ _) | (with_reducible refine Kd.C_drewN ?_ _) | (with_reducible refine Kd.C_drew ?_)))
    (case side4 => exact HC870_0.out)
    rintro e w13 ⟨rfl, hb⟩
    refine ⟨_, rfl, ?_⟩
    have n0_ := aK (below_step bO hb)
    clear HB
    have HB := n0_
    clear n0_
    (try clear hb)
    (try clear hb2)
    (try clear hk)
    (try clear hi)
    refine hK.out _ _ ⟨((HB.out.cell (World.block_lt_of_cell? w _ hw869_0)).trans hw869_0), ((HB.out.cell (World.block_lt_of_cell? w _ hw870_0)).trans hw870_0)⟩ (fun hHeld => ?_)
    clear hK K
    refine norm_ (a' := ?_) ?_ ?_
    rotate_left
    ·show Act.put _ (some 24) _ = _
     simp only [Act.put, List.setIfInBounds_toArray, List.set_cons_zero, List.set_cons_succ, i64_w, i32_w]
     rfl
    refine pY (i := 9) (N := some 25) (tf 10 0) rfl rfl HT_.out ?_
    refine done_ (done_of HT_.out (by kernel_rfl)) ?_
    try go_wp2
    go_ret
    exact ⟨eW, bO⟩
   rw [if_pos c9] at H
   have c9b0 : (t871 == 0) = true := beq_iff_eq.mpr c9
   have c9b1 : (t871 != 0) = false := bne_eq_false_iff_eq.mpr c9
   clear c9
   have H' := Aside0.mk H
   clear H
   try go_wp2
   have n0_ := aK (below_drew1 HB.out)
   clear HB
   have HB := n0_
   clear n0_
   have p869 : 0 ≤ (x13_1 : Int) := of_decide_eq_true (aA)
   have q869 : x13_1 < (l0.length : Int) := of_decide_eq_true (aA)
   obtain ⟨ad869, A869_0, c869_0, e869, hx869_0, hl869_0, hi869_0⟩ := at_L4 HR0.out x13_1 p869 q869
   have hw869_0 := hx869_0
   cases e869
   replace hx869_0 := hW HB.out hx869_0
   have HR869_0 := Aside0.mk hi869_0
   have HC869_0 := Aside0.mk hl869_0
   clear hi869_0 hl869_0
   replace p869 := eq_true p869
   replace q869 := eq_true q869
   have p870 : 0 ≤ (x13_1 : Int) := of_decide_eq_true (aA)
   have q870 : x13_1 < (l1.length : Int) := of_decide_eq_true (aA)
   obtain ⟨ad870, A870_0, c870_0, e870, hx870_0, hl870_0, hi870_0⟩ := at_L4 HR1.out x13_1 p870 q870
   have hw870_0 := hx870_0
   cases e870
   replace hx870_0 := hW HB.out hx870_0
   have HR870_0 := Aside0.mk hi870_0
   have HC870_0 := Aside0.mk hl870_0
   clear hi870_0 hl870_0
   replace p870 := eq_true p870
   replace q870 := eq_true q870
   refine start_ (n := 10) (S := fun w' => w'.cell? (ad869.add (x13_1).toNat) = some (.slice A869_0 (rd_L4 l0 x13_1).length c869_0) ∧ w'.cell? (ad870.add (x13_1).toNat) = some (.slice A870_0 (rd_L4 l1 x13_1).length c870_0)) (ds := []) #[false, false, false, false, false, false, false, false, false, false] (by kernel_rfl) rfl rfl ⟨((HB.out.cell (World.block_lt_of_cell? w _ hw869_0)).trans hw869_0), ((HB.out.cell (World.block_lt_of_cell? w _ hw870_0)).trans hw870_0)⟩ (fun hHeld => ?_); refine with_tabW r1_Same.tab6 r1_Same.bits6 (fun HT_ HW_ => ?_)
   generalize wr.drew = w10 at HB HR869_0 HR870_0 hx869_0 hx870_0 hHeld ⊢
   refine pY (i := 0) (N := some 16) (tf 1 9) rfl rfl HT_.out ?_
   refine pY (i := 1) (N := some 17) (tf 2 8) rfl rfl HT_.out ?_
   refine pY (i := 2) (N := some 18) (tf 3 7) rfl rfl HT_.out ?_
   refine pY (i := 4) (N := some 20) #[true, true, true, false, true, false, false, false, false, false] rfl rfl HT_.out ?_
   refine pY (i := 5) (N := some 21) #[true, true, true, false, true, true, false, false, false, false] rfl rfl HT_.out ?_
   refine pY (i := 6) (N := some 22) #[true, true, true, false, true, true, true, false, false, false] rfl rfl HT_.out ?_
   refine take_ (i := 3) (N := some 19) (v := ?_) (a' := ?_) #[true, true, true, true, true, true, true, false, false, false] rfl rfl (take_ofW HT_.out HW_.out (by kernel_rfl)) (fun _ _ _ h => h) (Or.inl ⟨by rfl, ?_⟩) hHeld ?_ ?_
   rotate_left
   ·rintro w' ⟨s0, s1⟩
    go_simp
    with_reducible rfl
   rotate_left
   ·exact aP
   refine take_ (i := 7) (N := some 23) (v := ?_) (a' := ?_) #[true, true, true, true, true, true, true, true, false, false] rfl rfl (take_ofW HT_.out HW_.out (by kernel_rfl)) (fun _ _ _ h => h) (Or.inl ⟨by rfl, ?_⟩) hHeld ?_ ?_
   rotate_left
   ·rintro w' ⟨s0, s1⟩
    go_simp
    with_reducible rfl
   rotate_left
   ·exact aP
   refine one_ (i := 8) (N := some 24) #[true, true, true, true, true, true, true, true, true, false] rfl rfl (one_of HT_.out (by kernel_rfl)) (by decide) (fun K hK => ?_)
   refine goes_ Try.func53 (by kernel_rfl) rfl #[.slice A869_0 (rd_L4 l0 x13_1).length c869_0, .slice A870_0 (rd_L4 l1 x13_1).length c870_0] (by rfl) rfl rfl (by (try simp only [List.map_toArray, List.map_cons, List.map_nil]); first | done | rfl | (simp only [List.length_drop, List.length_take]; rfl)) ?_
   with_reducible refine (r1_CompareRows.calls k1 _ _ (rd_L4 l0 x13_1) _ _ (rd_L4 l1 x13_1) t871 _ ?side1 ?side2 ?side3 ?side4 A8.out).mono ?_
   (case side1 => repeat (first | exact (Kd.C_below HR869_0.out HB.out) | (with_reducible refine Kd.C_alloc ?_ _) | (with_reducible refine Kd.C_drewN ?_ _) | (with_reducible refine Kd.C_drew ?_)))
   (case side2 => exact HC869_0.out)
   (case side3 => repeat (first | exact (Kd.C_below HR870_0.out HB.out) | (with_reducible refine Kd.C_alloc ?_ _) | (with_reducible refine Kd.C_drewN ?_ _) | (with_reducible refine Kd.C_drew ?_)))
   (case side4 => exact HC870_0.out)
   rintro e w11 ⟨rfl, hb⟩
   refine ⟨_, rfl, ?_⟩
   have n0_ := aK (below_step bO hb)
   clear HB
   have HB := n0_
   clear n0_
   (try clear hb)
   (try clear hb2)
   (try clear hk)
   (try clear hi)
   refine hK.out _ _ ⟨((HB.out.cell (World.block_lt_of_cell? w _ hw869_0)).trans hw869_0), ((HB.out.cell (World.block_lt_of_cell? w _ hw870_0)).trans hw870_0)⟩ (fun hHeld => ?_)
   clear hK K
   refine norm_ (a' := ?_) ?_ ?_
   rotate_left
   ·show Act.put _ (some 24) _ = _
    simp only [Act.put, List.setIfInBounds_toArray, List.set_cons_zero, List.set_cons_succ, i64_w, i32_w]
    rfl
   refine pY (i := 9) (N := some 25) (tf 10 0) rfl rfl HT_.out ?_
   refine done_ (done_of HT_.out (by kernel_rfl)) ?_
   try go_wp2
   go_roundg k1
   case measure => have := HK1.out; omega
   case rel => exact ⟨(wrap64 (x13_1 + 1)), (by first | rfl | (simp; done) | (simp [*]; done)), H', ⟨by have := HK1.out; omega⟩, ⟨bO⟩⟩
end Go.Proofs.Ytpjcdacnhalclaa.Q
namespace Go.Proofs.Ytpjcdacnhalclaa.Q
open Go.RowKit Go.Proofs.YtpjcdacnhalclaaW.PrintWords Go.Proofs.YtpjcdacnhalclaaW.PrintLast Go.Proofs.YtpjcdacnhalclaaW.PrintMore
attribute [local go_sem] max2_int min2_int max_two min_two max_three min_three max_four min_four
open Go.Sort
instance : Inhabited S24 := ⟨z24⟩
theorem own24_open {W : World} {base : Nat} {P : Nat → Prop} {u : Value} {l : List S24} (h : Kd.R k24 24 W base P u l) (hne : l ≠ []) :
  ∃ g cap cur, u = .slice (some ⟨g, 0, none⟩) l.length cap ∧ base ≤ g ∧ W.heap[g]? = some (.cells cur 24 (0, 0)) ∧ l.length ≤ cap ∧ cap ≤ maxLen ∧ cur.size = cap * 3 ∧ cur.toList.take (l.length * 3) = cells24 l ∧ P g := by
 obtain ⟨h0, inner, ⟨hil, ho⟩, hr1, hr2⟩ := h
 rcases ho with ⟨_, hn⟩ | ⟨g, cap, cur, rfl, hg, hW, hlc, hm, hs, hc⟩
 ·exact absurd (List.eq_nil_of_length_eq_zero hn) hne
 ·refine ⟨g, cap, cur, rfl, hg, hW, hlc, hm, hs, ?_, h0 g rfl⟩
  have hc' : cur.toList.take (l.length * 3) = inner := hc
  rw [hc']
  have hil' : inner.length = l.length * 3 := hr1
  refine List.ext_getElem? fun t => ?_
  by_cases ht : t < l.length * 3
  rotate_left
  ·rw [List.getElem?_eq_none (by omega), List.getElem?_eq_none (by rw [cells24_length]; omega)]
  have hq : t / 3 < l.length := by omega
  have e1 := k24_openM (hr2 (t / 3) _ (List.getElem?_eq_getElem hq))
  have e2 := cells24_at l (t / 3) hq
  have e3 : (inner.drop (t / 3 * 3)).take 3 = ((cells24 l).drop (t / 3 * 3)).take 3 := by rw [e2]; exact e1
  have := congrArg (fun z : List Value => z[t % 3]?) e3
  simp only [List.getElem?_take, List.getElem?_drop] at this
  rwa [if_pos (by omega), if_pos (by omega), show t / 3 * 3 + t % 3 = t by omega] at this
end Go.Proofs.Ytpjcdacnhalclaa.Q
namespace Go.Proofs.Ytpjcdacnhalclaa.Q
open Go.RowKit Go.Proofs.YtpjcdacnhalclaaW.PrintWords Go.Proofs.YtpjcdacnhalclaaW.PrintLast Go.Proofs.YtpjcdacnhalclaaW.PrintMore
attribute [local go_sem] max2_int min2_int max_two min_two max_three min_three max_four min_four
structure Spoil (B0 B1 : Nat) (w W : World) : Prop where
 below : Below B0 w W
 size : w.heap.size ≤ W.heap.size
 far : ∀ k, k < w.heap.size → ¬ (B0 ≤ k ∧ k < B1) → W.heap[k]? = w.heap[k]?
 head : ∀ (k : Nat) (cur : Array Value), w.heap[k]? = some (.cells cur 54 (0, 0)) → W.heap[k]? = some (.cells cur 54 (0, 0))
 row : ∀ (k : Nat) (cur : Array Value), w.heap[k]? = some (.cells cur 24 (0, 0)) → ∃ cur' : Array Value, cur'.size = cur.size ∧ W.heap[k]? = some (.cells cur' 24 (0, 0))
theorem Spoil.refl (B0 B1 : Nat) (w : World) : Spoil B0 B1 w w := ⟨Below.refl _ _, Nat.le_refl _, fun _ _ _ => rfl, fun _ _ h => h, fun _ cur h => ⟨cur, rfl, h⟩⟩
theorem blk_small {w : World} {k : Nat} {o : Obj} (h : w.heap[k]? = some o) : k < w.heap.size := (Array.getElem?_eq_some_iff.1 h).1
theorem Spoil.then_ {B0 B1 : Nat} {w W W' : World} (h : Spoil B0 B1 w W) (hb : Below W.heap.size W W') (hB : B0 ≤ W.heap.size) : Spoil B0 B1 w W' where
 below := h.below.trans (hb.mono hB)
 size := Nat.le_trans h.size hb.size
 far := fun k hk hn => (hb.block k (Nat.lt_of_lt_of_le hk h.size)).trans (h.far k hk hn)
 head := fun k cur hk => (hb.block k (blk_small (h.head k cur hk))).trans (h.head k cur hk)
 row := fun k cur hk => by
  obtain ⟨cur', h1, h2⟩ := h.row k cur hk
  exact ⟨cur', h1, (hb.block k (blk_small h2)).trans h2⟩
theorem Spoil.set {B0 B1 : Nat} {w W : World} (h : Spoil B0 B1 w W) {g : Nat} (h0 : B0 ≤ g) (h1 : g < B1) {cur : Array Value} (hg : w.heap[g]? = some (.cells cur 24 (0, 0))) (i : Nat) (u : Value) : Spoil B0 B1 w (W.setCell ⟨g, i, none⟩ u) where
 below := h.below.setCell h0 u
 size := by
  have := h.size
  simpa [World.setCell] using this
 far := fun k hk hn => (Below.heap_setCell W ⟨g, i, none⟩ u k (fun e => hn (e ▸ ⟨h0, h1⟩))).trans (h.far k hk hn)
 head := fun k c hk => (Below.heap_setCell W ⟨g, i, none⟩ u k (fun e => by
  have e : k = g := e
  subst e
  rw [hg] at hk
  simp at hk)).trans (h.head k c hk)
 row := fun k c hk => by
  by_cases e : k = g
  ·subst e
   obtain ⟨c', e1, e2⟩ := h.row k c hk
   exact ⟨c'.setIfInBounds i u, by rw [Array.size_setIfInBounds]; exact e1, blk_set e2 i u⟩
  ·obtain ⟨c', e1, e2⟩ := h.row k c hk
   exact ⟨c', e1, (Below.heap_setCell W ⟨g, i, none⟩ u k e).trans e2⟩
theorem setShape {w : World} {base : Nat} {ok : Nat → Prop} {A : Option Addr} {c : Nat} {s : List (List S24)} (h : Kd.S (Kd.slice 24 k24) 54 w base ok (.slice A s.length c) s) : ∀ i : Int, 0 ≤ i → i < s.length →
  ∃ (g : Nat) (cur : Array Value) (A' : Option Addr) (c' : Nat), A = some ⟨g, 0, none⟩ ∧ w.heap[g]? = some (.cells cur 54 (0, 0)) ∧ cur[i.toNat]? = some (.slice A' (rd_L4 s i).length c') ∧
   (0 < (rd_L4 s i).length → ∃ (b : Nat) (cur' : Array Value), A' = some ⟨b, 0, none⟩ ∧ base ≤ b ∧ w.heap[b]? = some (.cells cur' 24 (0, 0)) ∧ (rd_L4 s i).length * 3 ≤ cur'.size) := by
 intro i h0 hi
 obtain ⟨f, h⟩ := h
 obtain ⟨hk0, inner, ⟨hil, ho⟩, hr1, hr2⟩ := h
 have hlen : (s.zipIdx).length = s.length := List.length_zipIdx
 have hin : i.toNat < s.length := by omega
 rcases ho with ⟨_, hn⟩ | ⟨g, cap, cur, hv, hg, hW, hlc, hm, hs, hc⟩
 ·rw [hlen] at hn
  omega
 ·injection hv with hA _ _
  have hz : (s.zipIdx)[i.toNat]? = some (s[i.toNat], i.toNat) := by rw [List.getElem?_zipIdx, List.getElem?_eq_getElem hin]; simp
  have hM := hr2 i.toNat _ hz
  obtain ⟨v, hcs, hR0⟩ := hM
  have hR : Kd.R k24 24 w base _ v s[i.toNat] := hR0
  have hrd : rd_L4 s i = s[i.toNat] := by
   unfold rd_L4
   rw [List.getD_eq_getElem?_getD, List.getElem?_eq_getElem hin]
   rfl
  obtain ⟨A', c', hv'⟩ := Kd.R_slice hR
  refine ⟨g, cur, A', c', hA, hW, ?_, fun hpos => ?_⟩
  ·have h1 : (inner.drop (i.toNat * 1)).take 1 = [v] := hcs
   have h2 : inner[i.toNat]? = some v := by
    have := congrArg (fun z : List Value => z[0]?) h1
    simp only [List.getElem?_take, List.getElem?_drop] at this
    rw [if_pos (by omega)] at this
    simpa using this
   have h3 : (cur.toList.take (s.zipIdx.length * 1))[i.toNat]? = some v := by
    have hc' : cur.toList.take (s.zipIdx.length * 1) = inner := hc
    rw [hc']; exact h2
   rw [List.getElem?_take] at h3
   rw [if_pos (by rw [hlen]; omega)] at h3
   rw [hrd, ← hv']
   rw [← Array.getElem?_toList]
   exact h3
  ·rw [hrd] at hpos ⊢
   obtain ⟨b, cap', cur', e1, e2, e3, e4, _, e6, _, _⟩ := own24_open hR (fun e => by rw [e] at hpos; simp at hpos)
   rw [hv'] at e1
   injection e1 with e1 _ _
   exact ⟨b, cur', e1, e2, e3, by rw [e6]; omega⟩
mutual
def l1_ValueFresh.l0 : Nat → List (List (S24)) → List (List (S24)) → List (List (S24)) → List (List (S24)) → Int → Int → Option (Bool)
 | 0, _, _, _, _, _, _ => none
 | k + 1, x3, x4, x5, x6, x25, x26 => if x26 < x25 then (if 0 ≤ x26 then (if x26 < (x5.length : Int) then (l1_ValueFresh.l1 k x3 x4 x5 x6 x26 x25 x26 ((rd_L4 x5 x26).length : Int) 0) else (none)) else (none)) else ((l1_begun.f k).bind fun t891 => (if t891 = true then ((r1_Same.f k x3 x4).bind fun t892 => (if t892 = true then ((v_Set.f k x3).bind fun t893 => ((r1_Same.f k t893 x6).bind fun t896 => (some t896))) else (some false))) else (some false)))
def l1_ValueFresh.l1 : Nat → List (List (S24)) → List (List (S24)) → List (List (S24)) → List (List (S24)) → Int → Int → Int → Int → Int → Option (Bool)
 | 0, _, _, _, _, _, _, _, _, _ => none
 | k + 1, x3, x4, x5, x6, x7, x25, x26, x33, x34 => if x34 < x33 then (if 0 ≤ x7 then (if x7 < (x5.length : Int) then (if 0 ≤ x34 then (if x34 < ((rd_L4 x5 x7).length : Int) then (l1_ValueFresh.l1 k x3 x4 x5 x6 x7 x25 x26 x33 (wrap64 (x34 + 1))) else (none)) else (none)) else (none)) else (none)) else (l1_ValueFresh.l0 k x3 x4 x5 x6 x25 (wrap64 (x26 + 1)))
end
def l1_ValueFresh.g (k : Nat) (l0 : List (List (S24))) (l1 : List (List (S24))) (l2 : List (List (S24))) (l3 : List (List (S24))) : Option (Bool) := l1_ValueFresh.l0 k l0 l1 l2 l3 (l2.length : Int) 0
def l1_ValueFresh.h (k : Nat) (l0 : List (List S24)) : Option Bool := (l1_copies.f k l0).bind fun la => (l1_copies.f k la).bind fun l1 => (v_Set.f k l0).bind fun l2 => (l1_copies.f k l2).bind fun ld => (l1_copies.f k ld).bind fun l3 => l1_ValueFresh.g k l0 l1 l2 l3
def l1_ValueFresh.f (k : Nat) (lc : List Int) : Option Bool := (cs_New.f lc 90).bind fun s => (l1_rows.f k s.1 s.2).bind fun q => if q.1.length < 65536 then l1_ValueFresh.h k (q.1 ++ [[(⟨4, 7, (⟨#[]⟩ : ByteArray)⟩ : S24)]]) else none
set_option maxHeartbeats 8000000 in
set_option maxRecDepth 100000 in
theorem l1_ValueFresh.callsN (k : Nat) (Ac : Option Addr) (cc : Nat) (lc : List Int) (r : Bool) (wA : World) (hrc : Kd.C (Kd.int .u8) wA Ac lc.length lc) (hcc : lc.length ≤ cc) (h : l1_ValueFresh.f k lc = some r) (HRT : Aside0 (r = true)) :
  Calls Try.prog 11 #[.slice Ac lc.length cc] wA fun e w' => e = .returned (.bool r) ∧ ∃ wb, Below wA.heap.size wA wb ∧ Below wb.heap.size wb w' := by
 have hu24 := Try.underlying24
 have HRc := Aside0.mk hrc
 have HCc := Aside0.mk hcc
 clear hrc hcc
 have HB := aK (Below.refl wA.heap.size wA)
 unfold l1_ValueFresh.f at h
 obtain ⟨⟨t1, t2⟩, A2_, h⟩ := Option.bind_eq_some_iff.mp h
 obtain ⟨⟨t3, t4⟩, A3_, h⟩ := Option.bind_eq_some_iff.mp h
 have hlt : t3.length < 65536 := by
  rcases Nat.lt_or_ge t3.length 65536 with c | c
  ·exact c
  ·rw [if_neg (Nat.not_lt.2 c)] at h; cases h
 rw [if_pos hlt] at h
 have LT := Aside0.mk hlt
 have AN := Aside0.mk A2_
 have AR := Aside0.mk A3_
 obtain ⟨lx, hx_⟩ : ∃ lx : List S24, lx = [(⟨4, 7, (⟨#[]⟩ : ByteArray)⟩ : S24)] := ⟨_, rfl⟩
 obtain ⟨l0, hl_⟩ : ∃ l0, l0 = t3 ++ [lx] := ⟨_, rfl⟩
 have h : l1_ValueFresh.h k l0 = some r := by rw [hl_, hx_]; exact h
 have HX := Aside0.mk hx_
 have HL0 := Aside0.mk hl_
 unfold l1_ValueFresh.h at h
 obtain ⟨la, Q1, h⟩ := Option.bind_eq_some_iff.mp h
 obtain ⟨l1, Q2, h⟩ := Option.bind_eq_some_iff.mp h
 obtain ⟨l2, Q3, h⟩ := Option.bind_eq_some_iff.mp h
 obtain ⟨ld, Q4, h⟩ := Option.bind_eq_some_iff.mp h
 obtain ⟨l3, Q5, h⟩ := Option.bind_eq_some_iff.mp h
 have AQ1 := Aside0.mk Q1
 have AQ2 := Aside0.mk Q2
 have AQ3 := Aside0.mk Q3
 have AQ4 := Aside0.mk Q4
 have AQ5 := Aside0.mk Q5
 have H' : Aside0 (l1_ValueFresh.l0 k l0 l1 l2 l3 (l2.length : Int) 0 = some r) := ⟨h⟩
 clear h hlt A2_ A3_ hx_ hl_ Q1 Q2 Q3 Q4 Q5
 go_enter Try.func11, Try.ntmps11
 go_upto_region 5 with (first | ((with_reducible refine gate_callee (f := 18) rfl ?_); refine gL (some 10) rfl Try.func18 #[.slice Ac lc.length cc, .int .i64 90] rfl ?_; (with_reducible refine (cs_New.calls _ _ lc 90 t1 t2 wA _ ?side1 ?side2 ?side3 AN.out).mono ?_); (case side1 => exact bO); (case side2 => exact HRc.out); (case side3 => exact HCc.out); rintro e w3 ⟨g, rfl, ⟨w, BWN, BNW, hIN⟩, hb, hb2⟩; refine ⟨_, rfl, ?_⟩; have HI := Aside0.mk hIN; have HBW := Aside0.mk BWN; have HB1 := Aside0.mk BNW; clear hIN BWN BNW hb hb2 HB) | ((with_reducible refine gate_callee (f := 51) rfl ?_); refine gL (some 11) rfl Try.func51 #[.pointer (some ⟨g, 0, none⟩)] rfl ?_; (with_reducible refine (l1_rows.calls k g t1 t2 t3 t4 w _ ?side1 ?side2 AR.out).mono ?_); (case side1 => exact HI.out); (case side2 => exact HB1.out); rintro e w4 ⟨v0, rfl, ho, hi, hb, hk⟩; refine ⟨_, rfl, ?_⟩; have HV := aK (Kd.N_lt ho); have HO := aK (Kd.N_mono (ok' := fun _ => True) (Kd.N_lower ho HB1.out.size) (fun _ _ => trivial)); have HB2 := Aside0.mk hb; clear ho hi hb hk HI HB1; obtain ⟨Av, cv, ev⟩ := Kd.N_slice HO.out; subst ev) | ((with_reducible refine gate_dst (N := 13) rfl ?_); refine Kd.R_lit k24 _ 24 ?hg (N := 13) ?hd (xs := [(⟨4, 7, (⟨#[]⟩ : ByteArray)⟩ : S24)]) (inner := [.int .i64 4, .int .i64 7, .string (⟨#[]⟩ : ByteArray)]) (ok := fun k_ => w4.heap.size ≤ k_) (okp := fun _ => False) ?hr ?hp (fun _ hk => hk.elim) (Nat.le_refl _) (Below.refl _ _) (Nat.le_refl _) (by simp) ?_; (case hd => rfl); (case hg => rfl); (case hr => exact hR); (case hp => exact (Reps.c3 (show Kd.M k24 _ _ _ (⟨4, 7, (⟨#[]⟩ : ByteArray)⟩ : S24) [.int .i64 4, .int .i64 7, .string (⟨#[]⟩ : ByteArray)] from (k24_mkM _ _ _ (⟨4, 7, (⟨#[]⟩ : ByteArray)⟩ : S24))) (Reps.none _ _))); intro v13 w5 ho hb hg_ hnew_; rw [← HX.out] at ho; have HL1 := Aside0.mk ho; have n0_ := aK (Kd.N_below HO.out hb); have n1_ := aK (below_step HB2.out hb); have HW5 := Aside0.mk hb.size; clear HO HB2; have HO := n0_; have HB2 := n1_; clear n0_ n1_ ho hb hg_ hnew_; obtain ⟨A13, c13, e13⟩ := Kd.R_slice HL1.out; subst e13) | ((with_reducible refine gate_dst (N := 14) rfl ?_); refine Kd.N_lit (Kd.slice 24 k24) _ 54 ?hg (N' := 14) ?hd (xs := [lx]) (inner := [.slice A13 lx.length c13]) (ok := fun k_ => w4.heap.size ≤ k_) (okp := fun k_ => w4.heap.size ≤ k_) ?hr ?hp (fun _ hk => hk) HW5.out (Below.refl _ _) (Nat.le_refl _) (by simp) ?_; (case hd => rfl); (case hg => rfl); (case hr => exact hR); (case hp => exact Reps.one (Kd.FK_slice_mk (Kd.R_reads' HL1.out).2.1 (Kd.R_F HL1.out)) (Reps.none _ _)); intro v14 w6 ho hb hg_ hnew_; have HO2 := Aside0.mk ho; have n0_ := aK (Kd.N_below HO.out hb); have n1_ := aK (below_step HB2.out hb); clear HO HB2 HL1 HW5; have HO := n0_; have HB2 := n1_; clear n0_ n1_ ho hb hg_ hnew_; obtain ⟨A9, c9, e9⟩ := Kd.N_slice HO2.out; subst e9) | ((with_reducible refine gate_builtin (b := .append) (xs := #[.tmp 11, .tmp 14]) rfl ?_); at_builtin; refine Kd.N_append_rows (Kd.slice 24 k24) (w0 := w) w.heap.size rfl (.tmp 11) (.tmp 14) 55 54 (.slice none 0 0) 24 rfl Try.underlying55 info54 rfl (by decide) (by omega) (.slice Av t3.length cv) t3 [lx] A9 _ c9 (fun _ => True) (fun k_ => w4.heap.size ≤ k_) rfl rfl ?aO ?aF ?aP (fun _ _ => trivial) ?aB ?aS ?aL ?_; (case aO => exact HO.out); (case aF => exact Kd.N_F HO2.out); (case aP => exact fun k_ hk_ => ⟨trivial, fun he => by have h_ := HV.out _ he.symm; omega⟩); (case aB => exact HB2.out); (case aS => exact HB2.out.size); (case aL => have h_ := LT.out; show (t3.length + 1) * 24 ≤ _; omega); intro v3 w7 ho hb hg_ hat_; rw [← HL0.out] at ho; have HO3 := Aside0.mk ho; have HA7 := aK (HBW.out.trans (hb.mono HBW.out.size)); clear ho hb hg_ hat_ HO HO2 HB2 HV HBW; obtain ⟨A0, c0, e3⟩ := Kd.N_slice HO3.out; subst e3; have HRl := aK (Kd.N_reads' HO3.out).2.2; have HC0 := aK (Kd.N_reads' HO3.out).2.1; clear HO3) | ((with_reducible refine gate_callee (f := 55) rfl ?_); refine gL (some 17) rfl Try.func55 #[.slice A0 l0.length c0] rfl ?_; (with_reducible refine (l1_copies.calls k _ _ l0 _ w7 ?side1 ?side2 AQ1.out).mono ?_); (case side1 => exact HRl.out); (case side2 => exact HC0.out); rintro e w8 ⟨vv_, rfl, ho, hb⟩; refine ⟨_, rfl, ?_⟩; have HSa := Aside0.mk ho; have HB8 := Aside0.mk hb; clear ho hb; obtain ⟨Aa, ca, ev_⟩ := Kd.S_slice HSa.out; subst ev_) | ((with_reducible refine gate_callee (f := 55) rfl ?_); refine gL (some 18) rfl Try.func55 #[.slice Aa la.length ca] rfl ?_; (with_reducible refine (l1_copies.calls k _ _ la _ w8 ?side1 ?side2 AQ2.out).mono ?_); (case side1 => exact (Kd.S_reads' HSa.out).2.2); (case side2 => exact (Kd.S_reads' HSa.out).2.1); rintro e w9 ⟨vv_, rfl, ho, hb⟩; refine ⟨_, rfl, ?_⟩; have HSb := Aside0.mk ho; have HB9 := Aside0.mk hb; clear ho hb; obtain ⟨A1, c1, ev_⟩ := Kd.S_slice HSb.out; subst ev_) | ((with_reducible refine gate_callee (f := 54) rfl ?_); refine gL (some 20) rfl Try.func54 #[.slice A0 l0.length c0] rfl ?_; (with_reducible refine (v_Set.calls k _ _ l0 _ w9 ?side1 ?side2 AQ3.out).mono ?_); (case side1 => exact Kd.C_below HRl.out (HB8.out.trans (HB9.out.mono HB8.out.size))); (case side2 => exact HC0.out); rintro e w10 ⟨vv_, rfl, ho, hb⟩; refine ⟨_, rfl, ?_⟩; have HSs := Aside0.mk ho; have HB10 := Aside0.mk hb; clear ho hb; obtain ⟨A2, c2, ev_⟩ := Kd.S_slice HSs.out; subst ev_) | ((with_reducible refine gate_callee (f := 55) rfl ?_); refine gL (some 22) rfl Try.func55 #[.slice A2 l2.length c2] rfl ?_; (with_reducible refine (l1_copies.calls k _ _ l2 _ w10 ?side1 ?side2 AQ4.out).mono ?_); (case side1 => exact (Kd.S_reads' HSs.out).2.2); (case side2 => exact (Kd.S_reads' HSs.out).2.1); rintro e w11 ⟨vv_, rfl, ho, hb⟩; refine ⟨_, rfl, ?_⟩; have HSd := Aside0.mk ho; have HB11 := Aside0.mk hb; clear ho hb; obtain ⟨Ad, cd, ev_⟩ := Kd.S_slice HSd.out; subst ev_) | ((with_reducible refine gate_callee (f := 55) rfl ?_); refine gL (some 23) rfl Try.func55 #[.slice Ad ld.length cd] rfl ?_; (with_reducible refine (l1_copies.calls k _ _ ld _ w11 ?side1 ?side2 AQ5.out).mono ?_); (case side1 => exact (Kd.S_reads' HSd.out).2.2); (case side2 => exact (Kd.S_reads' HSd.out).2.1); rintro e w12 ⟨vv_, rfl, ho, hb⟩; refine ⟨_, rfl, ?_⟩; have HSe := Aside0.mk ho; have HB12 := Aside0.mk hb; clear ho hb; obtain ⟨A3, c3, ev_⟩ := Kd.S_slice HSe.out; subst ev_))
 clear AN AR LT HRc HCc AQ1 AQ2 AQ3 AQ4 AQ5 HX HL0
 have HC1 := aK (Kd.S_reads' HSb.out).2.1
 have HC3 := aK (Kd.S_reads' HSe.out).2.1
 have hFIN : ∀ W : World, Spoil w9.heap.size w10.heap.size w12 W → Kd.C (Kd.slice 24 k24) W A0 l0.length l0 ∧ Kd.C (Kd.slice 24 k24) W A1 l1.length l1 ∧ Kd.C (Kd.slice 24 k24) W A3 l3.length l3 ∧ Below wA.heap.size wA W := by
  intro W hs
  have h9 : Below w9.heap.size w9 W := (HB10.out.trans ((HB11.out.trans (HB12.out.mono HB11.out.size)).mono HB10.out.size)).trans hs.below
  have h79 := HB8.out.trans (HB9.out.mono HB8.out.size)
  refine ⟨Kd.C_below (Kd.C_below HRl.out h79) h9, Kd.C_below (Kd.S_reads' HSb.out).2.2 h9, ?_, HA7.out.trans ((h79.trans (h9.mono h79.size)).mono HA7.out.size)⟩
  refine Kd.F_now (Kd.F_step (Kd.S_F (Kd.S_bound HSe.out)) (fun k_ hk_ hlt_ => hs.far k_ hlt_ (fun c_ => ?_)))
  have e1 := hk_.2.1
  have e2 := HB11.out.size
  omega
 have hT : ∀ i : Int, 0 ≤ i → i < l2.length → ∃ (g : Nat) (A : Option Addr) (c : Nat), A2 = some ⟨g, 0, none⟩ ∧ (∀ W : World, Spoil w9.heap.size w10.heap.size w12 W → W.cell? ⟨g, i.toNat, none⟩ = some (.slice A (rd_L4 l2 i).length c)) ∧
   (0 < (rd_L4 l2 i).length → ∃ (b : Nat) (cur : Array Value), A = some ⟨b, 0, none⟩ ∧ w9.heap.size ≤ b ∧ b < w10.heap.size ∧ w12.heap[b]? = some (.cells cur 24 (0, 0)) ∧ (rd_L4 l2 i).length * 3 ≤ cur.size) := by
  intro i h0 hi
  have h1012 := HB11.out.trans (HB12.out.mono HB11.out.size)
  obtain ⟨g, cur, A, c, e1, e2, e3, e4⟩ := setShape HSs.out i h0 hi
  refine ⟨g, A, c, e1, fun W hs => ?_, fun hpos => ?_⟩
  ·have h1 := hs.head g cur ((h1012.block g (blk_small e2)).trans e2)
   rw [blk_cell h1]
   exact e3
  ·obtain ⟨b, cur', q1, q2, q3, q4⟩ := e4 hpos
   exact ⟨b, cur', q1, q2, blk_small q3, (h1012.block b (blk_small q3)).trans q3, q4⟩
 have HFIN := Aside0.mk hFIN
 have HT := Aside0.mk hT
 clear hFIN hT HRl HA7 HSa HSb HSs HSd HSe HB8 HB9 HB10 HB11 HB12
 obtain ⟨B0, hB0_⟩ : ∃ n, n = w9.heap.size := ⟨_, rfl⟩
 obtain ⟨B1, hB1_⟩ : ∃ n, n = w10.heap.size := ⟨_, rfl⟩
 rw [← hB0_, ← hB1_] at HFIN HT
 obtain ⟨w, hw_⟩ : ∃ w, w = w12 := ⟨_, rfl⟩
 subst hw_
 have HB := aK (Spoil.refl B0 B1 w)
 go_wp2
 go_loopg [26] k (fun kq v26 w' => ∃ (x26_1 : Int), v26 = .int .i64 x26_1 ∧ Aside0 (l1_ValueFresh.l0 kq l0 l1 l2 l3 (l2.length : Int) x26_1 = some r) ∧ Aside0 (kq ≤ k) ∧ Aside0 (Spoil B0 B1 w w'))
 case atStart => exact ⟨(0), (by first | rfl | (simp; done) | (simp [*]; done)), H', ⟨Nat.le_refl _⟩, ⟨HB.out⟩⟩
 case round =>
  clear H'
  try clear c1
  try clear c2
  try clear p2
  try clear c3
  obtain ⟨x26_1, rfl, HA, HK1, HB⟩ := hrel
  cases gk with
  | zero => exact absurd HA.out (by simp [l1_ValueFresh.l0])
  | succ k1 =>
   have H := HA.out
   clear HA
   simp only [l1_ValueFresh.l0] at H
   by_cases c5 : x26_1 < (l2.length : Int)
   rotate_left
   ·rw [if_neg c5] at H
    have c5b0 : decide (x26_1 < (l2.length : Int)) = false := decide_eq_false c5
    clear c5
    obtain ⟨hr0_, hr1_, hr3_, hbw_⟩ := HFIN.out _ HB.out
    clear HFIN HT HB
    have HR0 := Aside0.mk hr0_
    have HR1 := Aside0.mk hr1_
    have HR3 := Aside0.mk hr3_
    have HBWN := Aside0.mk hbw_
    clear hr0_ hr1_ hr3_ hbw_
    obtain ⟨w, hw_⟩ : ∃ w, w = wr := ⟨_, rfl⟩
    subst hw_
    have HB := aK (Below.refl w.heap.size w)
    obtain ⟨t891, A13, H⟩ := oB H
    try dsimp only at H
    by_cases c14 : t891 = true
    rotate_left
    ·replace c14 := Bool.eq_false_iff.mpr c14
     subst c14
     rw [if_neg (show ¬ (false = true) by decide)] at H
     exact absurd (H.trans (congrArg some HRT.out)) (by simp)
    subst c14
    rw [if_pos rfl] at H
    obtain ⟨t892, A15, H⟩ := oB H
    try dsimp only at H
    by_cases c16 : t892 = true
    rotate_left
    ·replace c16 := Bool.eq_false_iff.mpr c16
     subst c16
     rw [if_neg (show ¬ (false = true) by decide)] at H
     exact absurd (H.trans (congrArg some HRT.out)) (by simp)
    subst c16
    rw [if_pos rfl] at H
    obtain ⟨t893, A17, H⟩ := oB H
    try dsimp only at H
    obtain ⟨t896, A18, H⟩ := oB H
    try dsimp only at H
    obtain rfl := Option.some.inj H
    go_wp2_with (first | ((with_reducible refine gate_callee (f := 20) rfl ?_); refine gL (some 46) rfl Try.func20 #[] rfl ?_; (with_reducible refine (l1_begun.calls k1  true _ A13.out).mono ?_); rintro e w19 ⟨rfl, hb⟩; refine ⟨_, rfl, ?_⟩; have n0_ := aK (below_step bO hb); clear HB; have HB := n0_; clear n0_; (try clear hb)) | (go_at_call 56; (with_reducible refine (r1_Same.calls k1 _ _ l0 _ _ l1 true _ ?side1 ?side2 ?side3 ?side4 A15.out).mono ?_); (case side1 => repeat (first | exact (Kd.C_below HR0.out HB.out) | (with_reducible refine Kd.C_alloc ?_ _) | (with_reducible refine Kd.C_drewN ?_ _) | (with_reducible refine Kd.C_drew ?_))); (case side2 => exact HC0.out); (case side3 => repeat (first | exact (Kd.C_below HR1.out HB.out) | (with_reducible refine Kd.C_alloc ?_ _) | (with_reducible refine Kd.C_drewN ?_ _) | (with_reducible refine Kd.C_drew ?_))); (case side4 => exact HC1.out); rintro e w20 ⟨rfl, hb⟩; have n0_ := aK (below_step bO hb); clear HB; have HB := n0_; clear n0_; (try clear hb)) | (go_at_call 54; (with_reducible refine (v_Set.calls k1 _ _ l0 t893 _ ?side1 ?side2 A17.out).mono ?_); (case side1 => repeat (first | exact (Kd.C_below HR0.out HB.out) | (with_reducible refine Kd.C_alloc ?_ _) | (with_reducible refine Kd.C_drewN ?_ _) | (with_reducible refine Kd.C_drew ?_))); (case side2 => exact HC0.out); rintro e w21 ⟨v894, rfl, ho0, hb⟩; have n0_ := aK (Kd.S_lower ho0 (below_size bO)); have n1_ := aK (below_step bO hb); clear HB; have HO895 := n0_; have HB := n1_; clear n0_ n1_; (try clear hb ho0); obtain ⟨Ao22, co22, eo22⟩ := Kd.S_slice HO895.out; subst eo22) | (go_at_call 56; (with_reducible refine (r1_Same.calls k1 _ _ t893 _ _ l3 t896 _ ?side1 ?side2 ?side3 ?side4 A18.out).mono ?_); (case side1 => exact cX (Kd.S_reads' HO895.out).2.2); (case side2 => exact (Kd.S_reads' HO895.out).2.1); (case side3 => repeat (first | exact (Kd.C_below HR3.out HB.out) | (with_reducible refine Kd.C_alloc ?_ _) | (with_reducible refine Kd.C_drewN ?_ _) | (with_reducible refine Kd.C_drew ?_))); (case side4 => exact HC3.out); rintro e w23 ⟨rfl, hb⟩; have n0_ := aK (Kd.S_below (by (with_reducible repeat (first | apply Kd.S_alloc | apply Kd.S_drewN | apply Kd.S_drew)); exact HO895.out) hb); have n1_ := aK (below_step bO hb); clear HO895 HB; have HO895 := n0_; have HB := n1_; clear n0_ n1_; (try clear hb)))
    go_ret
    exact ⟨eW, _, HBWN.out, bO⟩
   rw [if_pos c5] at H
   have c5b0 : decide (x26_1 < (l2.length : Int)) = true := decide_eq_true c5
   clear c5
   by_cases c6 : 0 ≤ x26_1
   rotate_left
   ·rw [if_neg c6] at H
    exact absurd H (by simp)
   rw [if_pos c6] at H
   have c6b0 : decide (0 ≤ x26_1) = true := decide_eq_true c6
   clear c6
   by_cases c7 : x26_1 < (l2.length : Int)
   rotate_left
   ·rw [if_neg c7] at H
    exact absurd H (by simp)
   rw [if_pos c7] at H
   have c7b0 : decide (x26_1 < (l2.length : Int)) = true := decide_eq_true c7
   clear c7
   have H' := Aside0.mk H
   clear H
   have p888 : 0 ≤ (x26_1 : Int) := of_decide_eq_true (aA)
   have q888 : x26_1 < (l2.length : Int) := of_decide_eq_true (aA)
   obtain ⟨g2, A888_0, c888_0, e888, hst_, hrow_⟩ := HT.out x26_1 p888 q888
   cases e888
   have hx888_0 := hst_ _ HB.out
   have HST := Aside0.mk hst_
   have HROW := Aside0.mk hrow_
   clear hst_ hrow_
   replace p888 := eq_true p888
   replace q888 := eq_true q888
   go_wp2
   go_loopg [34] k1 (fun kq v34 w' => ∃ (x34_2 : Int), v34 = .int .i64 x34_2 ∧ Aside0 (l1_ValueFresh.l1 kq l0 l1 l2 l3 x26_1 (l2.length : Int) x26_1 ((rd_L4 l2 x26_1).length : Int) x34_2 = some r) ∧ Aside0 (kq ≤ k1) ∧ Aside0 (Spoil B0 B1 w w'))
   case atStart => exact ⟨(0), (by first | rfl | (simp; done) | (simp [*]; done)), H', ⟨Nat.le_refl _⟩, ⟨HB.out⟩⟩
   case round =>
    clear H'
    try clear c1
    try clear c2
    try clear p2
    try clear c3
    try clear c5
    try clear c5b0
    try clear c6
    try clear c6b0
    try clear c7
    try clear c7b0
    try clear hx888_0
    try clear p2
    try clear p888
    try clear q888
    obtain ⟨x34_2, rfl, HA, HK2, HB⟩ := hrel
    cases gk with
    | zero => exact absurd HA.out (by simp [l1_ValueFresh.l1])
    | succ k2 =>
     have H := HA.out
     clear HA
     simp only [l1_ValueFresh.l1] at H
     by_cases c8 : x34_2 < ((rd_L4 l2 x26_1).length : Int)
     rotate_left
     ·rw [if_neg c8] at H
      have c8b0 : decide (x34_2 < ((rd_L4 l2 x26_1).length : Int)) = false := decide_eq_false c8
      clear c8
      have H' := Aside0.mk H
      clear H
      go_wp2
      go_roundg k2
      case measure => have := HK1.out; have := HK2.out; omega
      case rel => exact ⟨(wrap64 (x26_1 + 1)), (by first | rfl | (simp; done) | (simp [*]; done)), H', ⟨by have := HK1.out; have := HK2.out; omega⟩, ⟨HB.out⟩⟩
     rw [if_pos c8] at H
     have c8b0 : decide (x34_2 < ((rd_L4 l2 x26_1).length : Int)) = true := decide_eq_true c8
     clear c8
     by_cases c9 : 0 ≤ x26_1
     rotate_left
     ·rw [if_neg c9] at H
      exact absurd H (by simp)
     rw [if_pos c9] at H
     have c9b0 : decide (0 ≤ x26_1) = true := decide_eq_true c9
     clear c9
     by_cases c10 : x26_1 < (l2.length : Int)
     rotate_left
     ·rw [if_neg c10] at H
      exact absurd H (by simp)
     rw [if_pos c10] at H
     have c10b0 : decide (x26_1 < (l2.length : Int)) = true := decide_eq_true c10
     clear c10
     by_cases c11 : 0 ≤ x34_2
     rotate_left
     ·rw [if_neg c11] at H
      exact absurd H (by simp)
     rw [if_pos c11] at H
     have c11b0 : decide (0 ≤ x34_2) = true := decide_eq_true c11
     clear c11
     by_cases c12 : x34_2 < ((rd_L4 l2 x26_1).length : Int)
     rotate_left
     ·rw [if_neg c12] at H
      exact absurd H (by simp)
     rw [if_pos c12] at H
     have c12b0 : decide (x34_2 < ((rd_L4 l2 x26_1).length : Int)) = true := decide_eq_true c12
     clear c12
     have H' := Aside0.mk H
     clear H
     have p889 : 0 ≤ (x26_1 : Int) := of_decide_eq_true (aA)
     have q889 : x26_1 < (l2.length : Int) := of_decide_eq_true (aA)
     have hx889_0 := HST.out _ HB.out
     replace p889 := eq_true p889
     replace q889 := eq_true q889
     have p890 : 0 ≤ (x34_2 : Int) := of_decide_eq_true (aA)
     have q890 : x34_2 < ((rd_L4 l2 x26_1).length : Int) := of_decide_eq_true (aA)
     obtain ⟨b_, cur_, eb_, hb0_, hb1_, hwb_, hsz_⟩ := HROW.out (by omega)
     cases eb_
     obtain ⟨cur2_, hs2_, hW_⟩ := HB.out.row b_ cur_ hwb_
     have hk3_ : x34_2.toNat * 3 + 2 < cur2_.size := by omega
     have hz0_ : _ = some _ := (blk_cell hW_ (x34_2.toNat * 3)).trans (Array.getElem?_eq_getElem (by omega))
     have hz1_ : _ = some _ := (blk_cell hW_ (x34_2.toNat * 3 + 1)).trans (Array.getElem?_eq_getElem (by omega))
     have hz2_ : _ = some _ := (blk_cell hW_ (x34_2.toNat * 3 + 2)).trans (Array.getElem?_eq_getElem (by omega))
     have hf0_ := blk_frozen hW_ (x34_2.toNat * 3)
     have hf1_ := blk_frozen hW_ (x34_2.toNat * 3 + 1)
     have hf2_ := blk_frozen hW_ (x34_2.toNat * 3 + 2)
     replace p890 := eq_true p890
     replace q890 := eq_true q890
     go_wp2
     go_roundg k2
     case measure => have := HK1.out; have := HK2.out; omega
     case rel => exact ⟨(wrap64 (x34_2 + 1)), (by first | rfl | (simp; done) | (simp [*]; done)), H', ⟨by have := HK1.out; have := HK2.out; omega⟩, ⟨Spoil.set (Spoil.set (Spoil.set HB.out hb0_ hb1_ hwb_ _ _) hb0_ hb1_ hwb_ _ _) hb0_ hb1_ hwb_ _ _⟩⟩
theorem l1_ValueFresh.calls (k : Nat) (Ac : Option Addr) (cc : Nat) (lc : List Int) (r : Bool) (wA : World) (hrc : Kd.C (Kd.int .u8) wA Ac lc.length lc) (hcc : lc.length ≤ cc) (h : l1_ValueFresh.f k lc = some r) (HRT : Aside0 (r = true)) :
  Calls Try.prog 11 #[.slice Ac lc.length cc] wA fun e w' => e = .returned (.bool r) ∧ Below wA.heap.size wA w' :=
 (l1_ValueFresh.callsN k Ac cc lc r wA hrc hcc h HRT).mono fun _ _ ⟨he, _, h1, h2⟩ => ⟨he, h1.trans (h2.mono h1.size)⟩
theorem r1_Compare.some_ (x y : S24) : r1_Compare.f x.f0 x.f1 x.f2 y.f0 y.f1 y.f2 = some (cmpV x y) := by
 unfold r1_Compare.f
 rcases cmpV_cases x y with ⟨h, e⟩ | ⟨h, e⟩ | ⟨h, e⟩
 ·rw [e]
  rcases h with h | ⟨e1, h | ⟨e2, h⟩⟩
  ·rw [if_pos h]
  ·rw [if_neg (by omega), if_neg (by omega), if_pos h]
  ·rw [if_neg (by omega), if_neg (by omega), if_neg (by omega), if_neg (by omega), if_pos (by rw [bytesLess_eq]; exact decide_eq_true h)]
 ·subst h
  rw [e, if_neg (by omega), if_neg (by omega), if_neg (by omega), if_neg (by omega), if_neg (by rw [bytesLess_eq]; exact fun k => List.lt_irrefl _ (of_decide_eq_true k)), if_pos (by simp)]
 ·rw [e]
  rcases h with h | ⟨e1, h | ⟨e2, h⟩⟩
  ·rw [if_neg (by omega), if_pos h]
  ·rw [if_neg (by omega), if_neg (by omega), if_neg (by omega), if_pos h]
  ·rw [if_neg (by omega), if_neg (by omega), if_neg (by omega), if_neg (by omega), if_neg (by rw [bytesLess_eq]; exact fun k => List.lt_asymm h (of_decide_eq_true k)), if_neg (by
    intro k
    rw [beq_iff_eq] at k
    rw [k] at h
    exact List.lt_irrefl _ h)]
theorem r1_CompareRows.same : ∀ k, (∀ x y i, r1_CompareRows.l0 k x y i = v_CompareRows.l0 k x y i) ∧ (∀ x y i b, r1_CompareRows.j1 k x y i b = v_CompareRows.j1 k x y i b)
 | 0 => ⟨fun _ _ _ => rfl, fun _ _ _ _ => rfl⟩
 | k + 1 => by
  obtain ⟨h0, h1⟩ := r1_CompareRows.same k
  refine ⟨fun x y i => ?_, fun x y i b => ?_⟩
  ·rw [r1_CompareRows.l0, v_CompareRows.l0]
   simp only [h1]
  ·rw [r1_CompareRows.j1, v_CompareRows.j1]
   simp only [h0, r1_Compare.some_, v_Compare.some_]
theorem r1_CompareRows.some_ (x y : List S24) (hx : x.length ≤ 9223372036854775807) (k : Nat) (hk : 2 * x.length + 2 ≤ k) : r1_CompareRows.f k x y = some (cmpL x y) := by
 rw [r1_CompareRows.f, (r1_CompareRows.same k).1]
 exact v_CompareRows.some_ x y hx k hk
theorem r1_CompareRows.ev (x y : List S24) (hx : x.length ≤ 9223372036854775807) : Ev (fun k => r1_CompareRows.f k x y) (cmpL x y) := ⟨2 * x.length + 2, fun k hk => r1_CompareRows.some_ x y hx k hk⟩
theorem cc_Cells.l0_ok (L : List Int) : ∀ (m : Nat) (x : List S24) (i : Int), StOk L i → x.length + m ≤ 1000 → ∃ r j, Ev (fun k => cc_Cells.l0 k m x L i) (r, j) ∧ StOk L j ∧ r.length = x.length + m
 | 0, x, i, h, _ => ⟨x, i, Ev.step (fun k => by rw [cc_Cells.l0, if_neg (by omega)]) (Ev.now _), h, rfl⟩
 | m + 1, x, i, h, hl => by
  obtain ⟨a, b, c, j, e, h2, -, -, -⟩ := cc_Any.ok h
  obtain ⟨r, j', e2, h3, hr⟩ := cc_Cells.l0_ok L m (x ++ [⟨a, b, c⟩]) j h2 (by simp; omega)
  have hw : wrap64 (((m + 1 : Nat) : Int) - 1) = (m : Int) := by unfold wrap64; omega
  refine ⟨r, j', Ev.step (fun k => by rw [cc_Cells.l0, if_pos (by omega), hw]) (Ev.bind e ?_), h3, by rw [hr]; simp; omega⟩
  exact Ev.congr (fun k => if_pos (by omega)) e2
theorem cc_Cells.ok {L : List Int} {i : Int} (h : StOk L i) (n : Int) (h0 : 0 ≤ n) (h1 : n ≤ 100) : ∃ r j, Ev (fun k => cc_Cells.f k L i n) (r, j) ∧ StOk L j ∧ (r.length : Int) ≤ 100 := by
 obtain ⟨m, rfl⟩ := Int.eq_ofNat_of_zero_le h0
 obtain ⟨r, j, e, h2, hr⟩ := cc_Cells.l0_ok L m [] i h (by simp; omega)
 exact ⟨r, j, e, h2, by rw [hr]; simp; omega⟩
theorem rd_L4_mem (x : List (List S24)) (i : Int) (h0 : 0 ≤ i) (h1 : i < x.length) : rd_L4 x i ∈ x := by
 unfold rd_L4
 rw [List.getD_eq_getElem?_getD, List.getElem?_eq_getElem (by omega)]
 exact List.getElem_mem _
theorem l1_rows.l0_ok (L : List Int) : ∀ (m : Nat) (x : List (List S24)) (i : Int), StOk L i → x.length + m ≤ 100 → (∀ r ∈ x, r.length ≤ 100) → ∃ r j, Ev (fun k => l1_rows.l0 k x m L i) (r, j) ∧ StOk L j ∧ r.length ≤ 100 ∧ ∀ q ∈ r, q.length ≤ 100
 | 0, x, i, h, hl, hx => ⟨x, i, Ev.step (fun k => by rw [l1_rows.l0, if_neg (by omega)]) (Ev.now _), h, by omega, hx⟩
 | m + 1, x, i, h, hl, hx => by
  have hw : wrap64 (((m + 1 : Nat) : Int) - 1) = (m : Int) := by unfold wrap64; omega
  obtain ⟨n, j1, e1, h1, n0, -, n3⟩ := cc_Int.ok h 3 (by omega)
  have n3 := n3 (by omega)
  obtain ⟨row, j2, e2, h2, hrow⟩ := cc_Cells.ok h1 n n0 (by omega)
  have more : ∀ (y : List S24) (j : Int), StOk L j → y.length ≤ 100 → ∃ r j', Ev (fun k => if x.length < 5864062014805 then l1_rows.l0 k (x ++ [y]) m L j else none) (r, j') ∧ StOk L j' ∧ r.length ≤ 100 ∧ ∀ q ∈ r, q.length ≤ 100 := by
   intro y j hj hy
   obtain ⟨r, j', e, h3, h4⟩ := l1_rows.l0_ok L m (x ++ [y]) j hj (by simp; omega) (fun q hq => by
    rcases List.mem_append.1 hq with c | c
    ·exact hx q c
    ·simp at c; exact c ▸ hy)
   exact ⟨r, j', Ev.congr (fun k => if_pos (by omega)) e, h3, h4⟩
  have st : ∀ res, Ev (fun k => if (x.length : Int) > 0 then ((cc_Bool.f L j2 3).bind fun bt848 => (if bt848.1 = true then ((cc_Int.f L bt848.2 (x.length : Int)).bind fun bt850 => (if 0 ≤ bt850.1 then (if bt850.1 < (x.length : Int) then (if x.length < 5864062014805 then (l1_rows.l0 k (x ++ [rd_L4 x bt850.1]) m L bt850.2) else (none)) else (none)) else (none))) else (if x.length < 5864062014805 then (l1_rows.l0 k (x ++ [row]) m L bt848.2) else (none)))) else (if x.length < 5864062014805 then (l1_rows.l0 k (x ++ [row]) m L j2) else (none))) res → Ev (fun k => l1_rows.l0 k x ((m + 1 : Nat) : Int) L i) res := by
   intro res hr
   refine Ev.step (fun k => by rw [l1_rows.l0, if_pos (by omega), e1, Option.bind_some, hw]) ?_
   exact Ev.bind e2 hr
  by_cases hx0 : (x.length : Int) > 0
  ·obtain ⟨b, j3, e3, h3⟩ := cc_Bool.ok h2 3 (by omega) (by omega)
   by_cases hb : b = true
   ·obtain ⟨n', j4, e4, h4, p0, -, p1⟩ := cc_Int.ok h3 (x.length : Int) (by omega)
    have p1 := p1 (by omega)
    obtain ⟨r, j', e, h5⟩ := more (rd_L4 x n') j4 h4 (hx _ (rd_L4_mem x n' p0 p1))
    refine ⟨r, j', st _ (Ev.congr (fun k => ?_) e), h5⟩
    rw [if_pos hx0, e3, Option.bind_some, if_pos hb, e4, Option.bind_some, if_pos p0, if_pos p1]
   ·obtain ⟨r, j', e, h5⟩ := more row j3 h3 (by omega)
    refine ⟨r, j', st _ (Ev.congr (fun k => ?_) e), h5⟩
    rw [if_pos hx0, e3, Option.bind_some, if_neg hb]
  ·obtain ⟨r, j', e, h5⟩ := more row j2 h2 (by omega)
   refine ⟨r, j', st _ (Ev.congr (fun k => ?_) e), h5⟩
   rw [if_neg hx0]
theorem l1_rows.ok {L : List Int} {i : Int} (h : StOk L i) : ∃ r j, Ev (fun k => l1_rows.f k L i) (r, j) ∧ StOk L j ∧ r.length ≤ 100 ∧ ∀ q ∈ r, q.length ≤ 100 := by
 obtain ⟨n, j, e, h2, n0, -, n7⟩ := cc_Int.ok h 7 (by omega)
 have n7 := n7 (by omega)
 obtain ⟨m, rfl⟩ := Int.eq_ofNat_of_zero_le n0
 obtain ⟨r, j', e2, h3⟩ := l1_rows.l0_ok L m [] j h2 (by simp; omega) (by simp)
 refine ⟨r, j', ?_, h3⟩
 unfold l1_rows.f
 rw [e]
 exact e2
end Go.Proofs.Ytpjcdacnhalclaa.Q
namespace Go.Proofs.Ytpjcdacnhalclaa.Q
open Go.RowKit Go.Proofs.YtpjcdacnhalclaaW.PrintWords Go.Proofs.YtpjcdacnhalclaaW.PrintLast Go.Proofs.YtpjcdacnhalclaaW.PrintMore
attribute [local go_sem] max2_int min2_int max_two min_two max_three min_three max_four min_four
theorem ded_mem : ∀ (l : List (List S24)) (o : Option (List S24)) (v : List S24), v ∈ ded o l → v ∈ l
 | [], _, _, h => by simp [ded] at h
 | x :: l, none, v, h => by
  rw [ded] at h
  rcases List.mem_cons.1 h with e | e
  ·exact e ▸ List.mem_cons.2 (.inl rfl)
  ·exact List.mem_cons.2 (.inr (ded_mem l _ v e))
 | x :: l, some p, v, h => by
  rw [ded] at h
  split at h
  ·exact List.mem_cons.2 (.inr (ded_mem l _ v h))
  ·rcases List.mem_cons.1 h with e | e
   ·exact e ▸ List.mem_cons.2 (.inl rfl)
   ·exact List.mem_cons.2 (.inr (ded_mem l _ v e))
theorem mem_ded : ∀ (l : List (List S24)) (o : Option (List S24)) (v : List S24), v ∈ l → v ∈ ded o l ∨ o = some v
 | [], _, _, h => by simp at h
 | x :: l, none, v, h => by
  rw [ded]
  rcases List.mem_cons.1 h with e | e
  ·exact .inl (e ▸ List.mem_cons.2 (.inl rfl))
  ·rcases mem_ded l (some x) v e with c | c
   ·exact .inl (List.mem_cons.2 (.inr c))
   ·injection c with c
    exact .inl (c ▸ List.mem_cons.2 (.inl rfl))
 | x :: l, some p, v, h => by
  rw [ded]
  by_cases hc : cmpL p x = 0
  ·rw [if_pos hc]
   have hpx := cmpL_zero.1 hc
   rcases List.mem_cons.1 h with e | e
   ·exact .inr (by rw [e, hpx])
   ·rcases mem_ded l (some x) v e with c | c
    ·exact .inl c
    ·exact .inr (by rw [hpx]; exact c)
  ·rw [if_neg hc]
   rcases List.mem_cons.1 h with e | e
   ·exact .inl (e ▸ List.mem_cons.2 (.inl rfl))
   ·rcases mem_ded l (some x) v e with c | c
    ·exact .inl (List.mem_cons.2 (.inr c))
    ·injection c with c
     exact .inl (c ▸ List.mem_cons.2 (.inl rfl))
theorem setOf_mem (l : List (List S24)) (v : List S24) : v ∈ setOf l ↔ v ∈ l := by
 unfold setOf
 constructor
 ·intro h
  exact List.mem_mergeSort.1 (ded_mem _ _ _ h)
 ·intro h
  rcases mem_ded _ none v (List.mem_mergeSort.2 h) with c | c
  ·exact c
  ·cases c
theorem setOf_len (l : List (List S24)) : (setOf l).length ≤ l.length := by
 unfold setOf
 rw [← List.length_mergeSort (le := leL) l]
 exact ded_len _ _
theorem rd_L4_at (x : List (List S24)) (i : Nat) (h : i < x.length) : rd_L4 x (i : Int) = x[i] := by
 unfold rd_L4
 rw [List.getD_eq_getElem?_getD, Int.toNat_natCast, List.getElem?_eq_getElem h]
 rfl
theorem r1_Same.l0_ev (l : List (List S24)) (hl : l.length < 4611686018427387904) (hr : ∀ r ∈ l, r.length ≤ 9223372036854775807) : ∀ (m i : Nat), l.length - i = m → i ≤ l.length → Ev (fun k => r1_Same.l0 k l l l.length i) true := by
 intro m
 induction m with
 | zero =>
  intro i hm hi
  exact Ev.step (fun k => by rw [r1_Same.l0, if_neg (by omega)]) (Ev.now _)
 | succ m ih =>
  intro i hm hi
  have hil : i < l.length := by omega
  have hw : wrap64 ((i : Int) + 1) = ((i + 1 : Nat) : Int) := wrap64_succ (by omega)
  refine Ev.step (fun k => by rw [r1_Same.l0, if_pos (by omega), if_pos (by omega), if_pos (by omega), if_pos (by omega), rd_L4_at l i hil, hw]) ?_
  refine Ev.bind (r1_CompareRows.ev l[i] l[i] (hr _ (List.getElem_mem hil))) ?_
  exact Ev.congr (fun k => if_pos (cmpL_self _)) (ih (i + 1) (by omega) (by omega))
theorem r1_Same.self (l : List (List S24)) (hl : l.length < 4611686018427387904) (hr : ∀ r ∈ l, r.length ≤ 9223372036854775807) : Ev (fun k => r1_Same.f k l l) true := by
 unfold r1_Same.f
 exact Ev.congr (fun k => if_pos rfl) (r1_Same.l0_ev l hl hr l.length 0 rfl (Nat.zero_le _))
structure OkR (l : List (List S24)) : Prop where
 len : l.length < 65536
 row : ∀ r ∈ l, r.length < 4398046511104
theorem OkR.ok {l : List (List S24)} (h : OkR l) : okRows l = true := by
 unfold okRows
 rw [Bool.and_eq_true]
 exact ⟨decide_eq_true h.len, List.all_eq_true.2 fun r hr => decide_eq_true (h.row r hr)⟩
theorem OkR.set {l : List (List S24)} (h : OkR l) : OkR (setOf l) := ⟨Nat.lt_of_le_of_lt (setOf_len l) h.len, fun r hr => h.row r ((setOf_mem l r).1 hr)⟩
theorem OkR.big {l : List (List S24)} (h : OkR l) : ∀ r ∈ l, r.length ≤ 9223372036854775807 := fun r hr => by have := h.row r hr; omega
theorem OkR.small {l : List (List S24)} (h : OkR l) : l.length < 4611686018427387904 := by have := h.len; omega
theorem v_Set.ev {l : List (List S24)} (h : OkR l) : Ev (fun k => v_Set.f k l) (setOf l) := Ev.congr (fun k => by unfold v_Set.f; rw [if_pos h.ok]) (Ev.now _)
theorem l1_copies.l0_ev (l : List (List S24)) (hl : l.length < 1000000) (hr : ∀ r ∈ l, r.length < 4398046511104) : ∀ (m : Nat) (x : List (List S24)), m ≤ l.length → x.length + m ≤ 1000000 → Ev (fun k => l1_copies.l0 k l x ((m : Int) - 1)) (x ++ (l.take m).reverse)
 | 0, x, _, _ => by
  refine Ev.step (fun k => by rw [l1_copies.l0, if_neg (by omega)]) ?_
  simp only [List.take_zero, List.reverse_nil, List.append_nil]
  exact Ev.now _
 | m + 1, x, hm, hx => by
  have hml : m < l.length := by omega
  have e : ((m + 1 : Nat) : Int) - 1 = (m : Int) := by omega
  have hw : wrap64 ((m : Int) - 1) = (m : Int) - 1 := by unfold wrap64; omega
  have hc := hr _ (List.getElem_mem hml)
  have hcp : r1_Copy.f l[m] = some l[m] := by
   unfold r1_Copy.f
   simp [hc]
   try omega
  have ih := l1_copies.l0_ev l hl hr m (x ++ [l[m]]) (by omega) (by simp; omega)
  rw [e]
  refine Ev.step (fun k => by rw [l1_copies.l0, if_pos (by omega), if_pos (by omega), if_pos (by omega), rd_L4_at l m hml, hcp, Option.bind_some, if_pos (by omega), hw]) ?_
  rw [List.append_assoc] at ih
  rw [List.take_succ_eq_append_getElem hml, List.reverse_append]
  exact ih
theorem l1_copies.ev {l : List (List S24)} (h : OkR l) : Ev (fun k => l1_copies.f k l) l.reverse := by
 have hl := h.len
 have := l1_copies.l0_ev l (by omega) h.row l.length [] (Nat.le_refl _) (by simp; omega)
 rw [List.take_length, List.nil_append] at this
 unfold l1_copies.f
 have hw : wrap64 ((l.length : Int) - 1) = (l.length : Int) - 1 := by unfold wrap64; omega
 rw [hw]
 exact this
theorem OkR.rev {l : List (List S24)} (h : OkR l) : OkR l.reverse := ⟨by rw [List.length_reverse]; exact h.len, fun r hr => h.row r (List.mem_reverse.1 hr)⟩
theorem r1_Same.yes {l m : List (List S24)} (e : l = m) (h : OkR l) : Ev (fun k => r1_Same.f k l m) true := e ▸ r1_Same.self l h.small h.big
theorem l1_ValueFresh.l1_ev (a b s c : List (List S24)) (i : Nat) (hi : i < s.length) (hr : s[i].length < 4611686018427387904) (h : Ev (fun k => l1_ValueFresh.l0 k a b s c s.length (wrap64 ((i : Int) + 1))) true) : ∀ (m j : Nat), s[i].length - j = m → j ≤ s[i].length → Ev (fun k => l1_ValueFresh.l1 k a b s c i s.length i s[i].length j) true := by
 intro m
 induction m with
 | zero =>
  intro j hm hj
  exact Ev.step (fun k => by rw [l1_ValueFresh.l1, if_neg (by omega)]) h
 | succ m ih =>
  intro j hm hj
  have hw : wrap64 ((j : Int) + 1) = ((j + 1 : Nat) : Int) := wrap64_succ (by omega)
  refine Ev.step (fun k => by rw [l1_ValueFresh.l1, if_pos (by omega), if_pos (by omega), if_pos (by omega), if_pos (by omega), rd_L4_at s i hi, if_pos (by omega), hw]) ?_
  exact ih (j + 1) (by omega) (by omega)
theorem l1_ValueFresh.l0_ev {a : List (List S24)} (ok : OkR a) (b c : List (List S24)) (hb : b = a) (hc : c = setOf a) : ∀ (m i : Nat), (setOf a).length - i = m → i ≤ (setOf a).length → Ev (fun k => l1_ValueFresh.l0 k a b (setOf a) c (setOf a).length i) true := by
 intro m
 induction m with
 | zero =>
  intro i hm hi
  refine Ev.step (fun k => by rw [l1_ValueFresh.l0, if_neg (by omega)]) ?_
  refine Ev.bind l1_begun.ev ?_
  simp only [if_true]
  refine Ev.bind (r1_Same.yes hb.symm ok) ?_
  simp only [if_true]
  refine Ev.bind (v_Set.ev ok) ?_
  exact Ev.bind (r1_Same.yes hc.symm ok.set) (Ev.now _)
 | succ m ih =>
  intro i hm hi
  have hil : i < (setOf a).length := by omega
  have hsm := ok.set.small
  have hw : wrap64 ((i : Int) + 1) = ((i + 1 : Nat) : Int) := wrap64_succ (by omega)
  have ih' := ih (i + 1) (by omega) (by omega)
  rw [← hw] at ih'
  have hrow := ok.set.row _ (List.getElem_mem hil)
  refine Ev.step (fun k => by rw [l1_ValueFresh.l0, if_pos (by omega), if_pos (by omega), if_pos (by omega), rd_L4_at _ i hil]) ?_
  exact l1_ValueFresh.l1_ev a b (setOf a) c i hil (by omega) ih' _ 0 rfl (Nat.zero_le _)
theorem l1_ValueFresh.pure (l : List Int) (hl : ∀ x ∈ l, 0 ≤ x ∧ x ≤ 255) : ∃ k, l1_ValueFresh.f k l = some true := by
 refine Ev.rounds (g := fun k => l1_ValueFresh.f k l) ?_
 unfold l1_ValueFresh.f
 obtain ⟨hn, hst⟩ := cs_New.ok hl 90 (by omega) (by omega)
 rw [hn]
 simp only [Option.bind_some]
 obtain ⟨L, j, e, -, h1, h2⟩ := l1_rows.ok hst
 refine Ev.bind e ?_
 refine Ev.congr (fun k => if_pos (by show L.length < _; omega)) ?_
 have ok : OkR (L ++ [[(⟨4, 7, (⟨#[]⟩ : ByteArray)⟩ : S24)]]) := ⟨by simp; omega, fun r hr => by
  rcases List.mem_append.1 hr with c | c
  ·have := h2 r c; omega
  ·simp at c
   subst c
   simp⟩
 generalize L ++ [[(⟨4, 7, (⟨#[]⟩ : ByteArray)⟩ : S24)]] = M at ok
 unfold l1_ValueFresh.h
 refine Ev.bind (l1_copies.ev ok) ?_
 refine Ev.bind (l1_copies.ev ok.rev) ?_
 refine Ev.bind (v_Set.ev ok) ?_
 refine Ev.bind (l1_copies.ev ok.set) ?_
 refine Ev.bind (l1_copies.ev ok.set.rev) ?_
 unfold l1_ValueFresh.g
 exact l1_ValueFresh.l0_ev ok _ _ (List.reverse_reverse _) (List.reverse_reverse _) _ 0 rfl (Nat.zero_le _)
end Go.Proofs.Ytpjcdacnhalclaa.Q
namespace Go.Proofs.Ytpjcdacnhalclaa.valueFresh
open Go.ChangeShapes Go.WideShapes Go.ChangeAt Go.RowKit Go.Joins
open Go.ChangeMaps (open_string shut_string)
open Go.Proofs.YtpjcdacnhalclaaW.PrintWords Go.Proofs.YtpjcdacnhalclaaW.PrintLast Go.Proofs.YtpjcdacnhalclaaW.PrintMore
set_option maxRecDepth 100000 in
theorem lifted (os : Os) (started : os.Started) (H : Type) (enc : TypeId × Value → H) :
  ReturnsInHanded {} Try.checked os 11 .any (Rows.valueFreshSpec.pre6 enc Try.prog Try.f11 Rows.valueFreshRow.domain false) (Rows.valueFreshSpec.post enc Try.prog Try.f11 false true false false) := by
 refine returnsInHanded_of_change_sized (C := Try.checked) Q.own started (by kernel_rfl) Try.func11
  (ChangeSpec.witness6 (enc := enc) (C := Try.checked) false ⟨#[], #[.slice none 0 0], []⟩ 8 (by kernel_rfl) (by kernel_rfl) (by kernel_rfl) (by kernel_rfl)) ?_
 intro W base args ds gs before hval0 hW hcnd hsz0 _
 have hsz : (DataW.weightsEach Try.prog (Try.f11.params.toList ++ Rows.valueFreshSpec.plain.varTypes Try.prog) (ds ++ gs)).all (· ≤ reachBytes) = true := hsz0
 have hval : ∀ (j : Nat) t v, Try.f11.params[j]? = some t → args[j]? = some v → Value.okWide Try.prog W .any base t v := hval0
 have hW' := hW
 obtain ⟨p, q, hA0, hV, rfl, hfz, hnd⟩ := hW
 have hA : DataW.TrodAll enc Try.prog W 0 (fun _ => true) true Try.f11.params.toList args.toList ds p := hA0
 rw [Try.params11] at hA hval hsz
 obtain ⟨v0, vs0, d0, ds0, p0, q0, hargs, rfl, rfl, h0, r0⟩ := trodAll_cons hA
 obtain ⟨rfl, rfl, rfl⟩ := trodAll_nil r0
 obtain rfl : args = #[v0] := by cases args; simp_all
 obtain ⟨rfl, rfl⟩ := trodVars_none hV
 have k0 := h0
 have lt0 : ∀ x ∈ p0, x.block < W.heap.size := by obtain ⟨m, hm⟩ := k0; exact DataW.trod_lt m _ _ _ hm
 obtain ⟨a0, len0, cap0, rfl⟩ := okWide_slice Try.underlying22 (hval 0 22 v0 rfl rfl)
 obtain ⟨z0, w0⟩ : ∃ zs, Q.IsRow .u8 W a0 len0 cap0 zs := by
  obtain ⟨fuel, hf⟩ := h0
  rcases open_ints Try.underlying22 Try.underlying5 (by kernel_rfl) hf with ⟨hcs, _⟩ | ⟨x, l, c, zs, hcs, _, hl, hm, hz, _, hcell, hwz⟩
  ·simp [Value.cells] at hcs
   obtain ⟨rfl, rfl, rfl⟩ := hcs
   exact ⟨[], .inl ⟨rfl, rfl, rfl, rfl⟩⟩
  ·simp [Value.cells] at hcs
   obtain ⟨rfl, rfl, rfl⟩ := hcs
   exact ⟨zs, .inr ⟨_, rfl, hl, hm, by simpa using hz, hcell, hwz⟩⟩
 obtain ⟨l0, rfl, hr0, hm0, hw0, hc0⟩ := ReadsInt.ofRowC w0
 clear hA0 hval0 hsz0 hsz
 obtain ⟨k, hk⟩ := Q.l1_ValueFresh.pure l0 (fun x hx => Q.wf_byte (hw0 x hx))
 refine (Q.l1_ValueFresh.calls k _ _ l0 true W (Kd.C_of_reads (d := (0 : Int)) (h1 := fun _ => rfl) hr0) hc0 hk ⟨rfl⟩).mono fun e W' ⟨he, bel⟩ => ?_
 subst he
 exact ⟨_, rfl, _, _, _, [], _, [], hW', trodAll_mk1 (shut_bool Try.underlying4 _), (trodAll_cons_mk (Below.trod Q.laidOut (by kernel_rfl) (of_decide_eq_true (by kernel_rfl)) k0 bel lt0) trodAll_mk0), rfl, bel.frame _, fun h => by cases h⟩
theorem over : Rows.valueFreshRow.holds Try.pinned (OpenSpec.ofChange Rows.valueFreshSpec) :=
 OpenClaim.holds_of_wide 11 Try.f11 rfl rfl rfl rfl rfl rfl rfl ⟨rfl, rfl, rfl, rfl, rfl⟩ rfl rfl rfl rfl rfl (by kernel_rfl) Try.func11 (by kernel_rfl)
  (of_decide_eq_true (by kernel_rfl)) (by unfold Func.isWrapper; first | (rw [if_pos (by decide +kernel)]; kernel_rfl) | (rw [if_neg (by decide +kernel)]; exact ⟨rfl, rfl⟩))
  (fun os started H enc _ => lifted os started H enc)
theorem proved : Rows.ValueFreshSaid := over
end Go.Proofs.Ytpjcdacnhalclaa.valueFresh
namespace Go.Proofs.Ytpjcdacnhalclaa
theorem valueFresh_holds : Rows.ValueFreshSaid := valueFresh.proved
#print axioms valueFresh_holds
end Go.Proofs.Ytpjcdacnhalclaa
