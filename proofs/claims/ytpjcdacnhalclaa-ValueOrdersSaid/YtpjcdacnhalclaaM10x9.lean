/- A part of a proof: facts of functions that the law calls; conditions stand in each. -/
import Derived.Test.YtpjcdacnhalclaaM10x2
import Derived.Test.YtpjcdacnhalclaaM10x8
import Derived.Test.YtpjcdacnhalclaaM10x7
import Derived.Test.YtpjcdacnhalclaaM10x6
import Derived.Test.YtpjcdacnhalclaaM10x4
import Derived.Deep.Slices
import Derived.Laws.CopyOwn
import Derived.Lib.SlBuf
import Derived.Test.YtpjcdacnhalclaaRows
set_option linter.unusedVariables false
set_option linter.unusedSimpArgs false
namespace Go.Proofs.Ytpjcdacnhalclaa.Q
open Go.RowKit Go.Proofs.YtpjcdacnhalclaaW.PrintWords Go.Proofs.YtpjcdacnhalclaaW.PrintLast Go.Proofs.YtpjcdacnhalclaaW.PrintMore
attribute [local go_sem] max2_int min2_int max_two min_two max_three min_three max_four min_four
mutual
def r1_CompareRows.l0 : Nat → List (S24) → List (S24) → Int → Option (Int)
 | 0, _, _, _ => none
 | k + 1, x0, x1, x5 => if x5 < (x0.length : Int) then (r1_CompareRows.j1 k x0 x1 x5 (decide (x5 < (x1.length : Int)))) else (r1_CompareRows.j1 k x0 x1 x5 false)
def r1_CompareRows.j1 : Nat → List (S24) → List (S24) → Int → Bool → Option (Int)
 | 0, _, _, _, _ => none
 | k + 1, x0, x1, x5, x16 => if x16 = true then (if 0 ≤ x5 then (if x5 < (x0.length : Int) then (if x5 < (x1.length : Int) then ((r1_Compare.f ((rd_T24 x0 x5).f0) ((rd_T24 x0 x5).f1) ((rd_T24 x0 x5).f2) ((rd_T24 x1 x5).f0) ((rd_T24 x1 x5).f1) ((rd_T24 x1 x5).f2)).bind fun t160 => (if t160 = 0 then (r1_CompareRows.l0 k x0 x1 (wrap64 (x5 + 1))) else (some t160))) else (none)) else (none)) else (none)) else (if (x0.length : Int) < (x1.length : Int) then (some (-1)) else (if (x0.length : Int) > (x1.length : Int) then (some 1) else (some 0)))
end
def r1_CompareRows.f (k : Nat) (l0 : List (S24)) (l1 : List (S24)) : Option (Int) := r1_CompareRows.l0 k l0 l1 0
def r1_CompareRows.T4 : Bool × List (List Nat × List Nat) := (true, [([], []), ([], []), ([0, 1], [0, 1]), ([2], [2]), ([], []), ([], []), ([4, 5], [4, 5]), ([6], [6]), ([3, 7], [3, 7]), ([8, 8, 0, 1, 2, 3, 4, 5, 6, 7, 8], [8])])
def r1_CompareRows.B4 : List Nat := [0, 0, 3, 7, 0, 0, 48, 112, 255, 511]
theorem r1_CompareRows.tab4 : rtab .any (opsOf Try.f53 4) = r1_CompareRows.T4 := by kernel_rfl
theorem r1_CompareRows.bits4 : waitsOk r1_CompareRows.T4.2 r1_CompareRows.B4 = true := by kernel_rfl
set_option maxHeartbeats 8000000 in
set_option maxRecDepth 100000 in
theorem r1_CompareRows.calls (k : Nat) (A0 : Option Addr) (c0 : Nat) (l0 : List (S24)) (A1 : Option Addr) (c1 : Nat) (l1 : List (S24)) (r : Int) (w : World) (hr0 : Kd.C k24 w A0 l0.length l0) (hc0 : l0.length ≤ c0) (hr1 : Kd.C k24 w A1 l1.length l1) (hc1 : l1.length ≤ c1) (h : r1_CompareRows.f k l0 l1 = some r) :
  Calls Try.prog 53 #[.slice A0 l0.length c0, .slice A1 l1.length c1] w fun e w' => e = .returned (.int .i64 r) ∧ Below w.heap.size w w' := by
 have hu24 := Try.underlying24
 have HR0 := Aside0.mk hr0
 have HC0 := Aside0.mk hc0
 clear hr0 hc0
 have HR1 := Aside0.mk hr1
 have HC1 := Aside0.mk hc1
 clear hr1 hc1
 have HB := aK (Below.refl w.heap.size w)
 have H : (r1_CompareRows.l0 k l0 l1 0) = some r := h
 clear h
 have H' := Aside0.mk H
 clear H
 go_enter Try.func53, Try.ntmps53
 go_wp2
 go_loopg [5] k (fun kq v5 w' => ∃ (x5_1 : Int), v5 = .int .i64 x5_1 ∧ Aside0 (r1_CompareRows.l0 kq l0 l1 x5_1 = some r) ∧ Aside0 (kq ≤ k) ∧ Aside0 (Below w.heap.size w w'))
 case atStart => exact ⟨(0), (by first | rfl | (simp; done) | (simp [*]; done)), H', ⟨Nat.le_refl _⟩, ⟨bO⟩⟩
 case round =>
  clear H'
  try clear c1
  try clear p2
  obtain ⟨x5_1, rfl, HA, HK1, HB⟩ := hrel
  cases gk with
  | zero => exact absurd HA.out (by simp [r1_CompareRows.l0])
  | succ k1 =>
   have H := HA.out
   clear HA
   simp only [r1_CompareRows.l0] at H
   have HC3 := Aside0.mk H
   clear H
   go_upto_region 2 with (fail)
   go_cut [16] (fun v16 wc => ∃ (kq : Nat) (x16_2 : Bool), v16 = .bool x16_2 ∧ Aside0 (r1_CompareRows.j1 kq l0 l1 x5_1 x16_2 = some r) ∧ Aside0 (kq ≤ k1) ∧ Aside0 (Below w.heap.size w wc))
   case first =>
    have H := HC3.out
    clear HC3
    by_cases c4 : x5_1 < (l0.length : Int)
    rotate_left
    ·rw [if_neg c4] at H
     have c4b0 : decide (x5_1 < (l0.length : Int)) = false := decide_eq_false c4
     clear c4
     (first | rw [c4b0] | (simp only [i64_w, i32_w]; rw [c4b0]) | skip)
     have H' := Aside0.mk H
     clear H
     go_wp2
     go_meet
     case rel => exact ⟨_, (false), (by first | rfl | (simp; done) | (simp [*]; done)), H', ⟨by have := HK1.out; first | omega | exact Nat.le_refl _⟩, ⟨bO⟩⟩
    rw [if_pos c4] at H
    have c4b0 : decide (x5_1 < (l0.length : Int)) = true := decide_eq_true c4
    clear c4
    (first | rw [c4b0] | (simp only [i64_w, i32_w]; rw [c4b0]) | skip)
    have H' := Aside0.mk H
    clear H
    go_wp2
    go_meet
    case rel => exact ⟨_, (decide (x5_1 < (l1.length : Int))), (by first | rfl | (simp; done) | (simp [*]; done)), H', ⟨by have := HK1.out; first | omega | exact Nat.le_refl _⟩, ⟨bO⟩⟩
   case rest =>
    clear HC3
    try clear c1
    try clear p2
    try clear c4
    try clear c4b0
    try clear p2
    obtain ⟨kq, x16_2, rfl, HA, HJ2, HB⟩ := hcut
    cases kq with
    | zero => exact absurd HA.out (by simp [r1_CompareRows.j1])
    | succ kj2 =>
     have H := HA.out
     clear HA
     simp only [r1_CompareRows.j1] at H
     by_cases c5 : x16_2 = true
     rotate_left
     ·replace c5 := Bool.eq_false_iff.mpr c5
      subst c5
      rw [if_neg (show ¬ (false = true) by decide)] at H
      by_cases c15 : (l0.length : Int) < (l1.length : Int)
      rotate_left
      ·rw [if_neg c15] at H
       have c15b0 : decide ((l0.length : Int) < (l1.length : Int)) = false := decide_eq_false c15
       have c15b1 : decide (l0.length < l1.length) = false := decide_eq_false (fun h => c15 (Int.ofNat_lt.mpr h))
       clear c15
       by_cases c16 : (l0.length : Int) > (l1.length : Int)
       rotate_left
       ·rw [if_neg c16] at H
        have c16b0 : decide ((l1.length : Int) < (l0.length : Int)) = false := decide_eq_false c16
        have c16b1 : decide (l1.length < l0.length) = false := decide_eq_false (fun h => c16 (Int.ofNat_lt.mpr h))
        clear c16
        obtain rfl := Option.some.inj H
        go_wp2
        go_ret
        exact ⟨eW, bO⟩
       rw [if_pos c16] at H
       have c16b0 : decide ((l1.length : Int) < (l0.length : Int)) = true := decide_eq_true c16
       have c16b1 : decide (l1.length < l0.length) = true := decide_eq_true (Int.ofNat_lt.mp c16)
       clear c16
       obtain rfl := Option.some.inj H
       go_wp2
       go_ret
       exact ⟨eW, bO⟩
      rw [if_pos c15] at H
      have c15b0 : decide ((l0.length : Int) < (l1.length : Int)) = true := decide_eq_true c15
      have c15b1 : decide (l0.length < l1.length) = true := decide_eq_true (Int.ofNat_lt.mp c15)
      clear c15
      obtain rfl := Option.some.inj H
      go_wp2
      go_ret
      exact ⟨eW, bO⟩
     subst c5
     rw [if_pos rfl] at H
     by_cases c6 : 0 ≤ x5_1
     rotate_left
     ·rw [if_neg c6] at H
      exact absurd H (by simp)
     rw [if_pos c6] at H
     have c6b0 : decide (0 ≤ x5_1) = true := decide_eq_true c6
     clear c6
     by_cases c7 : x5_1 < (l0.length : Int)
     rotate_left
     ·rw [if_neg c7] at H
      exact absurd H (by simp)
     rw [if_pos c7] at H
     have c7b0 : decide (x5_1 < (l0.length : Int)) = true := decide_eq_true c7
     clear c7
     by_cases c8 : x5_1 < (l1.length : Int)
     rotate_left
     ·rw [if_neg c8] at H
      exact absurd H (by simp)
     rw [if_pos c8] at H
     have c8b0 : decide (x5_1 < (l1.length : Int)) = true := decide_eq_true c8
     clear c8
     obtain ⟨t160, A9, H⟩ := oB H
     try dsimp only at H
     by_cases c10 : t160 = 0
     rotate_left
     ·rw [if_neg c10] at H
      have c10b0 : (t160 == 0) = false := beq_eq_false_iff_ne.mpr c10
      have c10b1 : (t160 != 0) = true := bne_iff_ne.mpr c10
      obtain rfl := Option.some.inj H
      try go_wp2
      have n0_ := aK (below_drew1 HB.out)
      clear HB
      have HB := n0_
      clear n0_
      have p158 : 0 ≤ (x5_1 : Int) := of_decide_eq_true (aA)
      have q158 : x5_1 < (l0.length : Int) := of_decide_eq_true (aA)
      obtain ⟨ad158, e158, hx158_0, hx158_1, hx158_2⟩ := at_T24 HR0.out x5_1 p158 q158
      have hw158_2 := hx158_2
      have hw158_1 := hx158_1
      have hw158_0 := hx158_0
      cases e158
      replace hx158_0 := hW HB.out hx158_0
      replace hx158_1 := hW HB.out hx158_1
      replace hx158_2 := hW HB.out hx158_2
      replace p158 := eq_true p158
      replace q158 := eq_true q158
      have p159 : 0 ≤ (x5_1 : Int) := of_decide_eq_true (aA)
      have q159 : x5_1 < (l1.length : Int) := of_decide_eq_true (aA)
      obtain ⟨ad159, e159, hx159_0, hx159_1, hx159_2⟩ := at_T24 HR1.out x5_1 p159 q159
      have hw159_2 := hx159_2
      have hw159_1 := hx159_1
      have hw159_0 := hx159_0
      cases e159
      replace hx159_0 := hW HB.out hx159_0
      replace hx159_1 := hW HB.out hx159_1
      replace hx159_2 := hW HB.out hx159_2
      replace p159 := eq_true p159
      replace q159 := eq_true q159
      refine start_ (n := 10) (S := fun w' => w'.cell? (ad158.add ((x5_1).toNat * 3)) = some (.int .i64 ((rd_T24 l0 x5_1).f0)) ∧ w'.cell? ⟨(ad158.add ((x5_1).toNat * 3)).block, (ad158.add ((x5_1).toNat * 3)).off + 1, none⟩ = some (.int .i64 ((rd_T24 l0 x5_1).f1)) ∧ w'.cell? ⟨(ad158.add ((x5_1).toNat * 3)).block, (ad158.add ((x5_1).toNat * 3)).off + 2, none⟩ = some (.string ((rd_T24 l0 x5_1).f2)) ∧ w'.cell? (ad159.add ((x5_1).toNat * 3)) = some (.int .i64 ((rd_T24 l1 x5_1).f0)) ∧ w'.cell? ⟨(ad159.add ((x5_1).toNat * 3)).block, (ad159.add ((x5_1).toNat * 3)).off + 1, none⟩ = some (.int .i64 ((rd_T24 l1 x5_1).f1)) ∧ w'.cell? ⟨(ad159.add ((x5_1).toNat * 3)).block, (ad159.add ((x5_1).toNat * 3)).off + 2, none⟩ = some (.string ((rd_T24 l1 x5_1).f2))) (ds := []) #[false, false, false, false, false, false, false, false, false, false] (by kernel_rfl) rfl rfl ⟨((HB.out.cell (World.block_lt_of_cell? w _ hw158_0)).trans hw158_0), ((HB.out.cell (World.block_lt_of_cell? w _ hw158_1)).trans hw158_1), ((HB.out.cell (World.block_lt_of_cell? w _ hw158_2)).trans hw158_2), ((HB.out.cell (World.block_lt_of_cell? w _ hw159_0)).trans hw159_0), ((HB.out.cell (World.block_lt_of_cell? w _ hw159_1)).trans hw159_1), ((HB.out.cell (World.block_lt_of_cell? w _ hw159_2)).trans hw159_2)⟩ (fun hHeld => ?_); refine with_tabW r1_CompareRows.tab4 r1_CompareRows.bits4 (fun HT_ HW_ => ?_)
      generalize wc.drew = w13 at HB hx158_0 hx158_1 hx158_2 hx159_0 hx159_1 hx159_2 hHeld ⊢
      refine pY (i := 0) (N := some 19) (tf 1 9) rfl rfl HT_.out ?_
      refine pY (i := 1) (N := some 20) (tf 2 8) rfl rfl HT_.out ?_
      refine pY (i := 2) (N := some 21) (tf 3 7) rfl rfl HT_.out ?_
      refine pY (i := 4) (N := some 23) #[true, true, true, false, true, false, false, false, false, false] rfl rfl HT_.out ?_
      refine pY (i := 5) (N := some 24) #[true, true, true, false, true, true, false, false, false, false] rfl rfl HT_.out ?_
      refine pY (i := 6) (N := some 25) #[true, true, true, false, true, true, true, false, false, false] rfl rfl HT_.out ?_
      refine take_ (i := 3) (N := some 22) (v := ?_) (a' := ?_) #[true, true, true, true, true, true, true, false, false, false] rfl rfl (take_ofW HT_.out HW_.out (by kernel_rfl)) (fun _ _ _ h => h) (Or.inl ⟨by rfl, ?_⟩) hHeld ?_ ?_
      rotate_left
      ·rintro w' ⟨s0, s1, s2, s3, s4, s5⟩
       go_simp
       with_reducible rfl
      rotate_left
      ·exact aP
      refine take_ (i := 7) (N := some 26) (v := ?_) (a' := ?_) #[true, true, true, true, true, true, true, true, false, false] rfl rfl (take_ofW HT_.out HW_.out (by kernel_rfl)) (fun _ _ _ h => h) (Or.inl ⟨by rfl, ?_⟩) hHeld ?_ ?_
      rotate_left
      ·rintro w' ⟨s0, s1, s2, s3, s4, s5⟩
       go_simp
       with_reducible rfl
      rotate_left
      ·exact aP
      refine one_ (i := 8) (N := some 27) #[true, true, true, true, true, true, true, true, true, false] rfl rfl (one_of HT_.out (by kernel_rfl)) (by decide) (fun K hK => ?_)
      refine goes_ Try.func26 (by kernel_rfl) rfl #[.agg #[.int .i64 ((rd_T24 l0 x5_1).f0), .int .i64 ((rd_T24 l0 x5_1).f1), .string ((rd_T24 l0 x5_1).f2)], .agg #[.int .i64 ((rd_T24 l1 x5_1).f0), .int .i64 ((rd_T24 l1 x5_1).f1), .string ((rd_T24 l1 x5_1).f2)]] (by rfl) rfl rfl (by (try simp only [List.map_toArray, List.map_cons, List.map_nil]); first | done | rfl | (simp only [List.length_drop, List.length_take]; rfl)) ?_
      with_reducible refine (r1_Compare.calls ((rd_T24 l0 x5_1).f0) ((rd_T24 l0 x5_1).f1) ((rd_T24 l0 x5_1).f2) ((rd_T24 l1 x5_1).f0) ((rd_T24 l1 x5_1).f1) ((rd_T24 l1 x5_1).f2) t160 _ A9.out).mono ?_
      rintro e w14 ⟨rfl, hb⟩
      refine ⟨_, rfl, ?_⟩
      have n0_ := aK (below_step bO hb)
      clear HB
      have HB := n0_
      clear n0_
      (try clear hb)
      (try clear hb2)
      (try clear hk)
      (try clear hi)
      refine hK.out _ _ ⟨((HB.out.cell (World.block_lt_of_cell? w _ hw158_0)).trans hw158_0), ((HB.out.cell (World.block_lt_of_cell? w _ hw158_1)).trans hw158_1), ((HB.out.cell (World.block_lt_of_cell? w _ hw158_2)).trans hw158_2), ((HB.out.cell (World.block_lt_of_cell? w _ hw159_0)).trans hw159_0), ((HB.out.cell (World.block_lt_of_cell? w _ hw159_1)).trans hw159_1), ((HB.out.cell (World.block_lt_of_cell? w _ hw159_2)).trans hw159_2)⟩ (fun hHeld => ?_)
      clear hK K
      refine norm_ (a' := ?_) ?_ ?_
      rotate_left
      ·show Act.put _ (some 27) _ = _
       simp only [Act.put, List.setIfInBounds_toArray, List.set_cons_zero, List.set_cons_succ, i64_w, i32_w]
       rfl
      refine pY (i := 9) (N := some 6) (tf 10 0) rfl rfl HT_.out ?_
      refine done_ (done_of HT_.out (by kernel_rfl)) ?_
      try go_wp2
      go_ret
      exact ⟨eW, bO⟩
     rw [if_pos c10] at H
     have c10b0 : (t160 == 0) = true := beq_iff_eq.mpr c10
     have c10b1 : (t160 != 0) = false := bne_eq_false_iff_eq.mpr c10
     clear c10
     have H' := Aside0.mk H
     clear H
     try go_wp2
     have n0_ := aK (below_drew1 HB.out)
     clear HB
     have HB := n0_
     clear n0_
     have p158 : 0 ≤ (x5_1 : Int) := of_decide_eq_true (aA)
     have q158 : x5_1 < (l0.length : Int) := of_decide_eq_true (aA)
     obtain ⟨ad158, e158, hx158_0, hx158_1, hx158_2⟩ := at_T24 HR0.out x5_1 p158 q158
     have hw158_2 := hx158_2
     have hw158_1 := hx158_1
     have hw158_0 := hx158_0
     cases e158
     replace hx158_0 := hW HB.out hx158_0
     replace hx158_1 := hW HB.out hx158_1
     replace hx158_2 := hW HB.out hx158_2
     replace p158 := eq_true p158
     replace q158 := eq_true q158
     have p159 : 0 ≤ (x5_1 : Int) := of_decide_eq_true (aA)
     have q159 : x5_1 < (l1.length : Int) := of_decide_eq_true (aA)
     obtain ⟨ad159, e159, hx159_0, hx159_1, hx159_2⟩ := at_T24 HR1.out x5_1 p159 q159
     have hw159_2 := hx159_2
     have hw159_1 := hx159_1
     have hw159_0 := hx159_0
     cases e159
     replace hx159_0 := hW HB.out hx159_0
     replace hx159_1 := hW HB.out hx159_1
     replace hx159_2 := hW HB.out hx159_2
     replace p159 := eq_true p159
     replace q159 := eq_true q159
     refine start_ (n := 10) (S := fun w' => w'.cell? (ad158.add ((x5_1).toNat * 3)) = some (.int .i64 ((rd_T24 l0 x5_1).f0)) ∧ w'.cell? ⟨(ad158.add ((x5_1).toNat * 3)).block, (ad158.add ((x5_1).toNat * 3)).off + 1, none⟩ = some (.int .i64 ((rd_T24 l0 x5_1).f1)) ∧ w'.cell? ⟨(ad158.add ((x5_1).toNat * 3)).block, (ad158.add ((x5_1).toNat * 3)).off + 2, none⟩ = some (.string ((rd_T24 l0 x5_1).f2)) ∧ w'.cell? (ad159.add ((x5_1).toNat * 3)) = some (.int .i64 ((rd_T24 l1 x5_1).f0)) ∧ w'.cell? ⟨(ad159.add ((x5_1).toNat * 3)).block, (ad159.add ((x5_1).toNat * 3)).off + 1, none⟩ = some (.int .i64 ((rd_T24 l1 x5_1).f1)) ∧ w'.cell? ⟨(ad159.add ((x5_1).toNat * 3)).block, (ad159.add ((x5_1).toNat * 3)).off + 2, none⟩ = some (.string ((rd_T24 l1 x5_1).f2))) (ds := []) #[false, false, false, false, false, false, false, false, false, false] (by kernel_rfl) rfl rfl ⟨((HB.out.cell (World.block_lt_of_cell? w _ hw158_0)).trans hw158_0), ((HB.out.cell (World.block_lt_of_cell? w _ hw158_1)).trans hw158_1), ((HB.out.cell (World.block_lt_of_cell? w _ hw158_2)).trans hw158_2), ((HB.out.cell (World.block_lt_of_cell? w _ hw159_0)).trans hw159_0), ((HB.out.cell (World.block_lt_of_cell? w _ hw159_1)).trans hw159_1), ((HB.out.cell (World.block_lt_of_cell? w _ hw159_2)).trans hw159_2)⟩ (fun hHeld => ?_); refine with_tabW r1_CompareRows.tab4 r1_CompareRows.bits4 (fun HT_ HW_ => ?_)
     generalize wc.drew = w11 at HB hx158_0 hx158_1 hx158_2 hx159_0 hx159_1 hx159_2 hHeld ⊢
     refine pY (i := 0) (N := some 19) (tf 1 9) rfl rfl HT_.out ?_
     refine pY (i := 1) (N := some 20) (tf 2 8) rfl rfl HT_.out ?_
     refine pY (i := 2) (N := some 21) (tf 3 7) rfl rfl HT_.out ?_
     refine pY (i := 4) (N := some 23) #[true, true, true, false, true, false, false, false, false, false] rfl rfl HT_.out ?_
     refine pY (i := 5) (N := some 24) #[true, true, true, false, true, true, false, false, false, false] rfl rfl HT_.out ?_
     refine pY (i := 6) (N := some 25) #[true, true, true, false, true, true, true, false, false, false] rfl rfl HT_.out ?_
     refine take_ (i := 3) (N := some 22) (v := ?_) (a' := ?_) #[true, true, true, true, true, true, true, false, false, false] rfl rfl (take_ofW HT_.out HW_.out (by kernel_rfl)) (fun _ _ _ h => h) (Or.inl ⟨by rfl, ?_⟩) hHeld ?_ ?_
     rotate_left
     ·rintro w' ⟨s0, s1, s2, s3, s4, s5⟩
      go_simp
      with_reducible rfl
     rotate_left
     ·exact aP
     refine take_ (i := 7) (N := some 26) (v := ?_) (a' := ?_) #[true, true, true, true, true, true, true, true, false, false] rfl rfl (take_ofW HT_.out HW_.out (by kernel_rfl)) (fun _ _ _ h => h) (Or.inl ⟨by rfl, ?_⟩) hHeld ?_ ?_
     rotate_left
     ·rintro w' ⟨s0, s1, s2, s3, s4, s5⟩
      go_simp
      with_reducible rfl
     rotate_left
     ·exact aP
     refine one_ (i := 8) (N := some 27) #[true, true, true, true, true, true, true, true, true, false] rfl rfl (one_of HT_.out (by kernel_rfl)) (by decide) (fun K hK => ?_)
     refine goes_ Try.func26 (by kernel_rfl) rfl #[.agg #[.int .i64 ((rd_T24 l0 x5_1).f0), .int .i64 ((rd_T24 l0 x5_1).f1), .string ((rd_T24 l0 x5_1).f2)], .agg #[.int .i64 ((rd_T24 l1 x5_1).f0), .int .i64 ((rd_T24 l1 x5_1).f1), .string ((rd_T24 l1 x5_1).f2)]] (by rfl) rfl rfl (by (try simp only [List.map_toArray, List.map_cons, List.map_nil]); first | done | rfl | (simp only [List.length_drop, List.length_take]; rfl)) ?_
     with_reducible refine (r1_Compare.calls ((rd_T24 l0 x5_1).f0) ((rd_T24 l0 x5_1).f1) ((rd_T24 l0 x5_1).f2) ((rd_T24 l1 x5_1).f0) ((rd_T24 l1 x5_1).f1) ((rd_T24 l1 x5_1).f2) t160 _ A9.out).mono ?_
     rintro e w12 ⟨rfl, hb⟩
     refine ⟨_, rfl, ?_⟩
     have n0_ := aK (below_step bO hb)
     clear HB
     have HB := n0_
     clear n0_
     (try clear hb)
     (try clear hb2)
     (try clear hk)
     (try clear hi)
     refine hK.out _ _ ⟨((HB.out.cell (World.block_lt_of_cell? w _ hw158_0)).trans hw158_0), ((HB.out.cell (World.block_lt_of_cell? w _ hw158_1)).trans hw158_1), ((HB.out.cell (World.block_lt_of_cell? w _ hw158_2)).trans hw158_2), ((HB.out.cell (World.block_lt_of_cell? w _ hw159_0)).trans hw159_0), ((HB.out.cell (World.block_lt_of_cell? w _ hw159_1)).trans hw159_1), ((HB.out.cell (World.block_lt_of_cell? w _ hw159_2)).trans hw159_2)⟩ (fun hHeld => ?_)
     clear hK K
     refine norm_ (a' := ?_) ?_ ?_
     rotate_left
     ·show Act.put _ (some 27) _ = _
      simp only [Act.put, List.setIfInBounds_toArray, List.set_cons_zero, List.set_cons_succ, i64_w, i32_w]
      rfl
     refine pY (i := 9) (N := some 6) (tf 10 0) rfl rfl HT_.out ?_
     refine done_ (done_of HT_.out (by kernel_rfl)) ?_
     try go_wp2
     go_roundg kj2
     case measure => have := HK1.out; have := HJ2.out; omega
     case rel => exact ⟨(wrap64 (x5_1 + 1)), (by first | rfl | (simp; done) | (simp [*]; done)), H', ⟨by have := HK1.out; have := HJ2.out; omega⟩, ⟨bO⟩⟩
def r1_Same.l0 : Nat → List (List (S24)) → List (List (S24)) → Int → Int → Option (Bool)
 | 0, _, _, _, _ => none
 | k + 1, x0, x1, x12, x13 => if x13 < x12 then (if 0 ≤ x13 then (if x13 < (x0.length : Int) then (if x13 < (x1.length : Int) then ((r1_CompareRows.f k (rd_L4 x0 x13) (rd_L4 x1 x13)).bind fun t871 => (if t871 = 0 then (r1_Same.l0 k x0 x1 x12 (wrap64 (x13 + 1))) else (some false))) else (none)) else (none)) else (none)) else (some true)
def r1_Same.f (k : Nat) (l0 : List (List (S24))) (l1 : List (List (S24))) : Option (Bool) := if (l0.length : Int) = (l1.length : Int) then (r1_Same.l0 k l0 l1 (l0.length : Int) 0) else (some false)
def r1_Same.T6 : Bool × List (List Nat × List Nat) := (true, [([], []), ([], []), ([0, 1], [0, 1]), ([2], [2]), ([], []), ([], []), ([4, 5], [4, 5]), ([6], [6]), ([3, 7], [3, 7]), ([8], [8])])
def r1_Same.B6 : List Nat := [0, 0, 3, 7, 0, 0, 48, 112, 255, 511]
theorem r1_Same.tab6 : rtab .any (opsOf Try.f56 6) = r1_Same.T6 := by kernel_rfl
theorem r1_Same.bits6 : waitsOk r1_Same.T6.2 r1_Same.B6 = true := by kernel_rfl
set_option maxHeartbeats 8000000 in
set_option maxRecDepth 100000 in
theorem r1_Same.calls (k : Nat) (A0 : Option Addr) (c0 : Nat) (l0 : List (List (S24))) (A1 : Option Addr) (c1 : Nat) (l1 : List (List (S24))) (r : Bool) (w : World) (hr0 : Kd.C (Kd.slice 24 k24) w A0 l0.length l0) (hc0 : l0.length ≤ c0) (hr1 : Kd.C (Kd.slice 24 k24) w A1 l1.length l1) (hc1 : l1.length ≤ c1) (h : r1_Same.f k l0 l1 = some r) :
  Calls Try.prog 56 #[.slice A0 l0.length c0, .slice A1 l1.length c1] w fun e w' => e = .returned (.bool r) ∧ Below w.heap.size w w' := by
 have HR0 := Aside0.mk hr0
 have HC0 := Aside0.mk hc0
 clear hr0 hc0
 have HR1 := Aside0.mk hr1
 have HC1 := Aside0.mk hc1
 clear hr1 hc1
 have HB := aK (Below.refl w.heap.size w)
 have H : (if (l0.length : Int) = (l1.length : Int) then (r1_Same.l0 k l0 l1 (l0.length : Int) 0) else (some false)) = some r := h
 clear h
 by_cases c3 : (l0.length : Int) = (l1.length : Int)
 rotate_left
 ·rw [if_neg c3] at H
  have c3b0 : ((l0.length : Int) == (l1.length : Int)) = false := beq_eq_false_iff_ne.mpr c3
  have c3b1 : ((l0.length : Int) != (l1.length : Int)) = true := bne_iff_ne.mpr c3
  have c3b2 : (l0.length == l1.length) = false := by first | simpa using c3 | (simp at c3 ⊢; omega)
  obtain rfl := Option.some.inj H
  go_enter Try.func56, Try.ntmps56
  go_wp2
  go_ret
  exact ⟨eW, bO⟩
 rw [if_pos c3] at H
 have c3b0 : ((l0.length : Int) == (l1.length : Int)) = true := beq_iff_eq.mpr c3
 have c3b1 : ((l0.length : Int) != (l1.length : Int)) = false := bne_eq_false_iff_eq.mpr c3
 have c3b2 : (l0.length == l1.length) = true := by first | simpa using c3 | (simp at c3 ⊢; omega)
 clear c3
 have H' := Aside0.mk H
 clear H
 go_enter Try.func56, Try.ntmps56
 go_wp2
 go_loopg [13] k (fun kq v13 w' => ∃ (x13_1 : Int), v13 = .int .i64 x13_1 ∧ Aside0 (r1_Same.l0 kq l0 l1 (l0.length : Int) x13_1 = some r) ∧ Aside0 (kq ≤ k) ∧ Aside0 (Below w.heap.size w w'))
 case atStart => exact ⟨(0), (by first | rfl | (simp; done) | (simp [*]; done)), H', ⟨Nat.le_refl _⟩, ⟨bO⟩⟩
 case round =>
  clear H'
  try clear c1
  try clear p2
  try clear c3
  try clear c3b0
  try clear c3b1
  try clear c3b2
  obtain ⟨x13_1, rfl, HA, HK1, HB⟩ := hrel
  cases gk with
  | zero => exact absurd HA.out (by simp [r1_Same.l0])
  | succ k1 =>
   have H := HA.out
   clear HA
   simp only [r1_Same.l0] at H
   by_cases c4 : x13_1 < (l0.length : Int)
   rotate_left
   ·rw [if_neg c4] at H
    have c4b0 : decide (x13_1 < (l0.length : Int)) = false := decide_eq_false c4
    clear c4
    obtain rfl := Option.some.inj H
    go_wp2
    go_ret
    exact ⟨eW, bO⟩
   rw [if_pos c4] at H
   have c4b0 : decide (x13_1 < (l0.length : Int)) = true := decide_eq_true c4
   clear c4
   by_cases c5 : 0 ≤ x13_1
   rotate_left
   ·rw [if_neg c5] at H
    exact absurd H (by simp)
   rw [if_pos c5] at H
   have c5b0 : decide (0 ≤ x13_1) = true := decide_eq_true c5
   clear c5
   by_cases c6 : x13_1 < (l0.length : Int)
   rotate_left
   ·rw [if_neg c6] at H
    exact absurd H (by simp)
   rw [if_pos c6] at H
   have c6b0 : decide (x13_1 < (l0.length : Int)) = true := decide_eq_true c6
   clear c6
   by_cases c7 : x13_1 < (l1.length : Int)
   rotate_left
   ·rw [if_neg c7] at H
    exact absurd H (by simp)
   rw [if_pos c7] at H
   have c7b0 : decide (x13_1 < (l1.length : Int)) = true := decide_eq_true c7
   clear c7
   obtain ⟨t871, A8, H⟩ := oB H
   try dsimp only at H
   by_cases c9 : t871 = 0
   rotate_left
   ·rw [if_neg c9] at H
    have c9b0 : (t871 == 0) = false := beq_eq_false_iff_ne.mpr c9
    have c9b1 : (t871 != 0) = true := bne_iff_ne.mpr c9
    obtain rfl := Option.some.inj H
    try go_wp2
    have n0_ := aK (below_drew1 HB.out)
    clear HB
    have HB := n0_
    clear n0_
    have p869 : 0 ≤ (x13_1 : Int) := of_decide_eq_true (aA)
    have q869 : x13_1 < (l0.length : Int) := of_decide_eq_true (aA)
    obtain ⟨ad869, A869_0, c869_0, e869, hx869_0, hl869_0, hi869_0⟩ := at_L4 HR0.out x13_1 p869 q869
    have hw869_0 := hx869_0
    cases e869
    replace hx869_0 := hW HB.out hx869_0
    have HR869_0 := Aside0.mk hi869_0
    have HC869_0 := Aside0.mk hl869_0
    clear hi869_0 hl869_0
    replace p869 := eq_true p869
    replace q869 := eq_true q869
    have p870 : 0 ≤ (x13_1 : Int) := of_decide_eq_true (aA)
    have q870 : x13_1 < (l1.length : Int) := of_decide_eq_true (aA)
    obtain ⟨ad870, A870_0, c870_0, e870, hx870_0, hl870_0, hi870_0⟩ := at_L4 HR1.out x13_1 p870 q870
    have hw870_0 := hx870_0
    cases e870
    replace hx870_0 := hW HB.out hx870_0
    have HR870_0 := Aside0.mk hi870_0
    have HC870_0 := Aside0.mk hl870_0
    clear hi870_0 hl870_0
    replace p870 := eq_true p870
    replace q870 := eq_true q870
    refine start_ (n := 10) (S := fun w' => w'.cell? (ad869.add (x13_1).toNat) = some (.slice A869_0 (rd_L4 l0 x13_1).length c869_0) ∧ w'.cell? (ad870.add (x13_1).toNat) = some (.slice A870_0 (rd_L4 l1 x13_1).length c870_0)) (ds := []) #[false, false, false, false, false, false, false, false, false, false] (by kernel_rfl) rfl rfl ⟨((HB.out.cell (World.block_lt_of_cell? w _ hw869_0)).trans hw869_0), ((HB.out.cell (World.block_lt_of_cell? w _ hw870_0)).trans hw870_0)⟩ (fun hHeld => ?_); refine with_tabW r1_Same.tab6 r1_Same.bits6 (fun HT_ HW_ => ?_)
    generalize wr.drew = w12 at HB HR869_0 HR870_0 hx869_0 hx870_0 hHeld ⊢
    refine pY (i := 0) (N := some 16) (tf 1 9) rfl rfl HT_.out ?_
    refine pY (i := 1) (N := some 17) (tf 2 8) rfl rfl HT_.out ?_
    refine pY (i := 2) (N := some 18) (tf 3 7) rfl rfl HT_.out ?_
    refine pY (i := 4) (N := some 20) #[true, true, true, false, true, false, false, false, false, false] rfl rfl HT_.out ?_
    refine pY (i := 5) (N := some 21) #[true, true, true, false, true, true, false, false, false, false] rfl rfl HT_.out ?_
    refine pY (i := 6) (N := some 22) #[true, true, true, false, true, true, true, false, false, false] rfl rfl HT_.out ?_
    refine take_ (i := 3) (N := some 19) (v := ?_) (a' := ?_) #[true, true, true, true, true, true, true, false, false, false] rfl rfl (take_ofW HT_.out HW_.out (by kernel_rfl)) (fun _ _ _ h => h) (Or.inl ⟨by rfl, ?_⟩) hHeld ?_ ?_
    rotate_left
    ·rintro w' ⟨s0, s1⟩
     go_simp
     with_reducible rfl
    rotate_left
    ·exact aP
    refine take_ (i := 7) (N := some 23) (v := ?_) (a' := ?_) #[true, true, true, true, true, true, true, true, false, false] rfl rfl (take_ofW HT_.out HW_.out (by kernel_rfl)) (fun _ _ _ h => h) (Or.inl ⟨by rfl, ?_⟩) hHeld ?_ ?_
    rotate_left
    ·rintro w' ⟨s0, s1⟩
     go_simp
     with_reducible rfl
    rotate_left
    ·exact aP
    refine one_ (i := 8) (N := some 24) #[true, true, true, true, true, true, true, true, true, false] rfl rfl (one_of HT_.out (by kernel_rfl)) (by decide) (fun K hK => ?_)
    refine goes_ Try.func53 (by kernel_rfl) rfl #[.slice A869_0 (rd_L4 l0 x13_1).length c869_0, .slice A870_0 (rd_L4 l1 x13_1).length c870_0] (by rfl) rfl rfl (by (try simp only [List.map_toArray, List.map_cons, List.map_nil]); first | done | rfl | (simp only [List.length_drop, List.length_take]; rfl)) ?_
    with_reducible refine (r1_CompareRows.calls k1 _ _ (rd_L4 l0 x13_1) _ _ (rd_L4 l1 x13_1) t871 _ ?side1 ?side2 ?side3 ?side4 A8.out).mono ?_
    (case side1 => repeat (first | exact (Kd.C_below HR869_0.out HB.out) | (with_reducible refine Kd.C_alloc ?_ _) | (with_reducible refine Kd.C_drewN ?_ _) | (with_reducible refine Kd.C_drew ?_)))
    (case side2 => exact HC869_0.out)
    (case side3 => repeat (first | exact (Kd.C_below HR870_0.out HB.out) | (with_reducible refine Kd.C_alloc ?_ _) | (with_reducible refine Kd.C_drewN ?_ _) | (with_reducible refine Kd.C_drew ?_)))
    (case side4 => exact HC870_0.out)
    rintro e w13 ⟨rfl, hb⟩
    refine ⟨_, rfl, ?_⟩
    have n0_ := aK (below_step bO hb)
    clear HB
    have HB := n0_
    clear n0_
    (try clear hb)
    (try clear hb2)
    (try clear hk)
    (try clear hi)
    refine hK.out _ _ ⟨((HB.out.cell (World.block_lt_of_cell? w _ hw869_0)).trans hw869_0), ((HB.out.cell (World.block_lt_of_cell? w _ hw870_0)).trans hw870_0)⟩ (fun hHeld => ?_)
    clear hK K
    refine norm_ (a' := ?_) ?_ ?_
    rotate_left
    ·show Act.put _ (some 24) _ = _
     simp only [Act.put, List.setIfInBounds_toArray, List.set_cons_zero, List.set_cons_succ, i64_w, i32_w]
     rfl
    refine pY (i := 9) (N := some 25) (tf 10 0) rfl rfl HT_.out ?_
    refine done_ (done_of HT_.out (by kernel_rfl)) ?_
    try go_wp2
    go_ret
    exact ⟨eW, bO⟩
   rw [if_pos c9] at H
   have c9b0 : (t871 == 0) = true := beq_iff_eq.mpr c9
   have c9b1 : (t871 != 0) = false := bne_eq_false_iff_eq.mpr c9
   clear c9
   have H' := Aside0.mk H
   clear H
   try go_wp2
   have n0_ := aK (below_drew1 HB.out)
   clear HB
   have HB := n0_
   clear n0_
   have p869 : 0 ≤ (x13_1 : Int) := of_decide_eq_true (aA)
   have q869 : x13_1 < (l0.length : Int) := of_decide_eq_true (aA)
   obtain ⟨ad869, A869_0, c869_0, e869, hx869_0, hl869_0, hi869_0⟩ := at_L4 HR0.out x13_1 p869 q869
   have hw869_0 := hx869_0
   cases e869
   replace hx869_0 := hW HB.out hx869_0
   have HR869_0 := Aside0.mk hi869_0
   have HC869_0 := Aside0.mk hl869_0
   clear hi869_0 hl869_0
   replace p869 := eq_true p869
   replace q869 := eq_true q869
   have p870 : 0 ≤ (x13_1 : Int) := of_decide_eq_true (aA)
   have q870 : x13_1 < (l1.length : Int) := of_decide_eq_true (aA)
   obtain ⟨ad870, A870_0, c870_0, e870, hx870_0, hl870_0, hi870_0⟩ := at_L4 HR1.out x13_1 p870 q870
   have hw870_0 := hx870_0
   cases e870
   replace hx870_0 := hW HB.out hx870_0
   have HR870_0 := Aside0.mk hi870_0
   have HC870_0 := Aside0.mk hl870_0
   clear hi870_0 hl870_0
   replace p870 := eq_true p870
   replace q870 := eq_true q870
   refine start_ (n := 10) (S := fun w' => w'.cell? (ad869.add (x13_1).toNat) = some (.slice A869_0 (rd_L4 l0 x13_1).length c869_0) ∧ w'.cell? (ad870.add (x13_1).toNat) = some (.slice A870_0 (rd_L4 l1 x13_1).length c870_0)) (ds := []) #[false, false, false, false, false, false, false, false, false, false] (by kernel_rfl) rfl rfl ⟨((HB.out.cell (World.block_lt_of_cell? w _ hw869_0)).trans hw869_0), ((HB.out.cell (World.block_lt_of_cell? w _ hw870_0)).trans hw870_0)⟩ (fun hHeld => ?_); refine with_tabW r1_Same.tab6 r1_Same.bits6 (fun HT_ HW_ => ?_)
   generalize wr.drew = w10 at HB HR869_0 HR870_0 hx869_0 hx870_0 hHeld ⊢
   refine pY (i := 0) (N := some 16) (tf 1 9) rfl rfl HT_.out ?_
   refine pY (i := 1) (N := some 17) (tf 2 8) rfl rfl HT_.out ?_
   refine pY (i := 2) (N := some 18) (tf 3 7) rfl rfl HT_.out ?_
   refine pY (i := 4) (N := some 20) #[true, true, true, false, true, false, false, false, false, false] rfl rfl HT_.out ?_
   refine pY (i := 5) (N := some 21) #[true, true, true, false, true, true, false, false, false, false] rfl rfl HT_.out ?_
   refine pY (i := 6) (N := some 22) #[true, true, true, false, true, true, true, false, false, false] rfl rfl HT_.out ?_
   refine take_ (i := 3) (N := some 19) (v := ?_) (a' := ?_) #[true, true, true, true, true, true, true, false, false, false] rfl rfl (take_ofW HT_.out HW_.out (by kernel_rfl)) (fun _ _ _ h => h) (Or.inl ⟨by rfl, ?_⟩) hHeld ?_ ?_
   rotate_left
   ·rintro w' ⟨s0, s1⟩
    go_simp
    with_reducible rfl
   rotate_left
   ·exact aP
   refine take_ (i := 7) (N := some 23) (v := ?_) (a' := ?_) #[true, true, true, true, true, true, true, true, false, false] rfl rfl (take_ofW HT_.out HW_.out (by kernel_rfl)) (fun _ _ _ h => h) (Or.inl ⟨by rfl, ?_⟩) hHeld ?_ ?_
   rotate_left
   ·rintro w' ⟨s0, s1⟩
    go_simp
    with_reducible rfl
   rotate_left
   ·exact aP
   refine one_ (i := 8) (N := some 24) #[true, true, true, true, true, true, true, true, true, false] rfl rfl (one_of HT_.out (by kernel_rfl)) (by decide) (fun K hK => ?_)
   refine goes_ Try.func53 (by kernel_rfl) rfl #[.slice A869_0 (rd_L4 l0 x13_1).length c869_0, .slice A870_0 (rd_L4 l1 x13_1).length c870_0] (by rfl) rfl rfl (by (try simp only [List.map_toArray, List.map_cons, List.map_nil]); first | done | rfl | (simp only [List.length_drop, List.length_take]; rfl)) ?_
   with_reducible refine (r1_CompareRows.calls k1 _ _ (rd_L4 l0 x13_1) _ _ (rd_L4 l1 x13_1) t871 _ ?side1 ?side2 ?side3 ?side4 A8.out).mono ?_
   (case side1 => repeat (first | exact (Kd.C_below HR869_0.out HB.out) | (with_reducible refine Kd.C_alloc ?_ _) | (with_reducible refine Kd.C_drewN ?_ _) | (with_reducible refine Kd.C_drew ?_)))
   (case side2 => exact HC869_0.out)
   (case side3 => repeat (first | exact (Kd.C_below HR870_0.out HB.out) | (with_reducible refine Kd.C_alloc ?_ _) | (with_reducible refine Kd.C_drewN ?_ _) | (with_reducible refine Kd.C_drew ?_)))
   (case side4 => exact HC870_0.out)
   rintro e w11 ⟨rfl, hb⟩
   refine ⟨_, rfl, ?_⟩
   have n0_ := aK (below_step bO hb)
   clear HB
   have HB := n0_
   clear n0_
   (try clear hb)
   (try clear hb2)
   (try clear hk)
   (try clear hi)
   refine hK.out _ _ ⟨((HB.out.cell (World.block_lt_of_cell? w _ hw869_0)).trans hw869_0), ((HB.out.cell (World.block_lt_of_cell? w _ hw870_0)).trans hw870_0)⟩ (fun hHeld => ?_)
   clear hK K
   refine norm_ (a' := ?_) ?_ ?_
   rotate_left
   ·show Act.put _ (some 24) _ = _
    simp only [Act.put, List.setIfInBounds_toArray, List.set_cons_zero, List.set_cons_succ, i64_w, i32_w]
    rfl
   refine pY (i := 9) (N := some 25) (tf 10 0) rfl rfl HT_.out ?_
   refine done_ (done_of HT_.out (by kernel_rfl)) ?_
   try go_wp2
   go_roundg k1
   case measure => have := HK1.out; omega
   case rel => exact ⟨(wrap64 (x13_1 + 1)), (by first | rfl | (simp; done) | (simp [*]; done)), H', ⟨by have := HK1.out; omega⟩, ⟨bO⟩⟩
def l1_ValueOrders.g (k : Nat) (l0 : List (List (S24))) (l1 : List (List (S24))) : Option (Bool) := (l1_begun.f k).bind fun t872 => (if t872 = true then ((v_Set.f k l1).bind fun t873 => ((r1_Same.f k t873 l0).bind fun t876 => (if t876 = true then ((l1_copies.f k l0).bind fun t877 => ((v_Set.f k t877).bind fun t880 => ((r1_Same.f k t880 l0).bind fun t883 => (if t883 = true then ((v_Set.f k l0).bind fun t884 => ((r1_Same.f k t884 l0).bind fun t887 => (some t887))) else (some false))))) else (some false)))) else (some false))
def l1_ValueOrders.h (k : Nat) (_ : List Int) (lm : List (List S24)) : Option Bool := (v_Set.f k lm).bind fun l0 => (l1_copies.f k lm).bind fun lo => if lo.length + lm.length < 5864062014805 then l1_ValueOrders.g k l0 (lo ++ lm) else none
def l1_ValueOrders.f (k : Nat) (lc : List Int) (ls : List (List S24)) : Option Bool := (cs_New.f lc 90).bind fun s => (l1_rows.f k s.1 s.2).bind fun q => if q.1.length < 65536 then l1_ValueOrders.h k lc (ls.take 8 ++ q.1) else none
set_option maxHeartbeats 8000000 in
set_option maxRecDepth 100000 in
theorem l1_ValueOrders.callsN (k : Nat) (Ac : Option Addr) (cc : Nat) (lc : List Int) (As : Option Addr) (cs : Nat) (ls : List (List S24)) (r : Bool) (wA : World) (hrc : Kd.C (Kd.int .u8) wA Ac lc.length lc) (hcc : lc.length ≤ cc) (hrs : Kd.C (Kd.slice 24 k24) wA As ls.length ls) (hcs : ls.length ≤ cs) (h : l1_ValueOrders.f k lc ls = some r) (HRT : Aside0 (r = true)) :
  Calls Try.prog 10 #[.slice Ac lc.length cc, .slice As ls.length cs] wA fun e w' => e = .returned (.bool r) ∧ ∃ wb, Below wA.heap.size wA wb ∧ Below wb.heap.size wb w' := by
 have HRc := Aside0.mk hrc
 have HCc := Aside0.mk hcc
 have HRs := Aside0.mk hrs
 have HCs := Aside0.mk hcs
 clear hrc hcc hrs hcs
 have HB := aK (Below.refl wA.heap.size wA)
 unfold l1_ValueOrders.f at h
 obtain ⟨⟨t1, t2⟩, A2_, h⟩ := Option.bind_eq_some_iff.mp h
 obtain ⟨⟨t3, t4⟩, A3_, h⟩ := Option.bind_eq_some_iff.mp h
 have hlt : t3.length < 65536 := by
  rcases Nat.lt_or_ge t3.length 65536 with c | c
  ·exact c
  ·rw [if_neg (Nat.not_lt.2 c)] at h; cases h
 rw [if_pos hlt] at h
 have LT := Aside0.mk hlt
 have AN := Aside0.mk A2_
 have AR := Aside0.mk A3_
 obtain ⟨lm, hl1⟩ : ∃ lm, lm = ls.take 8 ++ t3 := ⟨_, rfl⟩
 have HG : Aside0 (l1_ValueOrders.h k lc lm = some r) := ⟨by rw [hl1]; exact h⟩
 have HL := Aside0.mk hl1
 clear h hlt A2_ A3_ hl1
 go_enter Try.func10, Try.ntmps10
 go_upto_region 2 with (first | ((with_reducible refine gate_callee (f := 18) rfl ?_); refine gL (some 9) rfl Try.func18 #[.slice Ac lc.length cc, .int .i64 90] rfl ?_; (with_reducible refine (cs_New.calls _ _ lc 90 t1 t2 wA _ ?side1 ?side2 ?side3 AN.out).mono ?_); (case side1 => exact bO); (case side2 => exact HRc.out); (case side3 => exact HCc.out); rintro e w3 ⟨g, rfl, ⟨w, BWN, BNW, hIN⟩, hb, hb2⟩; refine ⟨_, rfl, ?_⟩; have HI := Aside0.mk hIN; have HBW := Aside0.mk BWN; have HB1 := Aside0.mk BNW; clear hIN BWN BNW hb hb2 HB))
 (try simp only [Act.put, List.setIfInBounds_toArray, List.set_cons_zero, List.set_cons_succ])
 have HBS := Aside0.mk HB1.out.size
 have HBA := aK (HBW.out.trans (HB1.out.mono HBW.out.size))
 go_cut [1] (fun v1 wc => ∃ (A1 : Option Addr) (c1 : Nat), v1 = .slice A1 lm.length c1 ∧ Aside0 (Kd.C (Kd.slice 24 k24) wc A1 lm.length lm) ∧ Aside0 (lm.length ≤ c1) ∧ Aside0 (Below wA.heap.size wA wc))
 case first =>
  obtain ⟨i0, hi0, _, hsz0, _⟩ := info_parts info54
  obtain ⟨m, hm⟩ : ∃ m : Nat, m = min ls.length 8 := ⟨_, rfl⟩
  have hm1 : m ≤ ls.length := by omega
  have ht8 : ls.take m = ls.take 8 := by
   rcases Nat.lt_or_ge 8 ls.length with c | c
   ·rw [show m = 8 from by omega]
   ·rw [List.take_of_length_le (by omega : ls.length ≤ m), List.take_of_length_le c]
  have hmin : (if (8 : Int) < (ls.length : Int) then (8 : Int) else (ls.length : Int)) = (m : Int) := by split <;> omega
  obtain ⟨hcut0, _, _⟩ := print_take_of (P := Try.prog) (fun _ : List S24 => (.bool true : Value)) [] 55 54 .i64 Try.underlying55 hi0 hsz0 As cs ls (m : Int) (by omega) (by omega) HCs.out
  have hcut : ∀ W : World, (Instr.slice 55 (.slice As ls.length cs) none (some (.int .i64 (m : Int))) none).run Try.prog W = .ok (.slice As m cs) W := by
   intro W
   rw [hcut0 W]
   congr 2
   rw [List.length_take]
   show min m ls.length = m
   omega
  have HM := Aside0.mk hm1
  have HM8 := aK (show m ≤ 8 by omega)
  have HT8 := Aside0.mk ht8
  clear hcut0 hi0 hsz0 hm hm1 ht8
  go_wp2_with (first | ((with_reducible refine gate_builtin (b := .append) (xs := #[.const (.slice none 0 0), .tmp 14]) rfl ?_); at_builtin; refine Kd.N_append_rows (Kd.slice 24 k24) (w0 := w3) w3.heap.size rfl (.const (.slice none 0 0)) (.tmp 14) 55 54 (.slice none 0 0) 24 rfl Try.underlying55 info54 rfl (by decide) (by omega) (.slice none 0 0) [] (ls.take 8) As _ cs (fun k_ => k_ ≠ g) (fun k_ => k_ < wA.heap.size) rfl rfl (Kd.N_nil _ _ _ _ _) ?aF (fun k_ hk_ => ⟨fun e_ => by have h_ := IsS75.ge HI.out; have h2_ := HBW.out.size; omega, by simp [Value.ownBlock]⟩) (fun k_ hk_ => IsS75.fresh HI.out k_ hk_) (Below.refl _ _) (Nat.le_refl _) (by have h_ := HM8.out; simp only [List.length_nil]; omega) ?_; (case aF => have q := Kd.F_take (m := m) (Kd.F_step (Kd.C_F (Kd.heap_slice 24 k24_heap) HRs.out) (fun k_ hk_ _ => HBA.out.block k_ hk_)) HM.out; rw [show (ls.take m).length = m from (by rw [List.length_take]; have h_ := HM.out; omega), HT8.out] at q; exact q); intro v18 w4 ho hb hg_ hat_; obtain ⟨lx, hlx⟩ : ∃ lx, lx = ls.take 8 := ⟨_, rfl⟩; rw [List.nil_append, ← hlx] at ho; have HX := Aside0.mk hlx; clear hlx; have HO := Aside0.mk ho; have n0_ := aK (IsS75.below HI.out hb); have n1_ := aK (below_step HB1.out hb); clear HI HB1; have HI := n0_; have HB1 := n1_; clear n0_ n1_ ho hb hg_ hat_; obtain ⟨Av, cv, ev⟩ := Kd.N_slice HO.out; subst ev) | ((with_reducible refine gate_callee (f := 51) rfl ?_); refine gL (some 17) rfl Try.func51 #[.pointer (some ⟨g, 0, none⟩)] rfl ?_; (with_reducible refine (l1_rows.calls k g t1 t2 t3 t4 w _ ?side1 ?side2 AR.out).mono ?_); (case side1 => exact HI.out); (case side2 => exact HB1.out); rintro e w5 ⟨v20, rfl, ho, hi, hb, hk⟩; refine ⟨_, rfl, ?_⟩; have HV := aK (Kd.N_lt HO.out); have n0_ := aK (Kd.N_keep HO.out hk (fun _ h_ => h_)); clear HO; have HO := n0_; have HO2 := Aside0.mk ho; have HB2 := Aside0.mk hb; clear n0_ ho hi hb hk HI HB1; obtain ⟨A9, c9, e9⟩ := Kd.N_slice HO2.out; subst e9) | ((with_reducible refine gate_builtin (b := .append) (xs := #[.tmp 15, .tmp 17]) rfl ?_); at_builtin; refine Kd.N_append_rows (Kd.slice 24 k24) (w0 := w) w.heap.size rfl (.tmp 15) (.tmp 17) 55 54 (.slice none 0 0) 24 rfl Try.underlying55 info54 rfl (by decide) (by omega) (.slice Av lx.length cv) lx t3 A9 _ c9 (fun _ => True) (fun k_ => w4.heap.size ≤ k_) rfl rfl ?aO ?aF ?aP (fun _ _ => trivial) ?aB ?aS ?aL ?_; (case aO => exact Kd.N_mono (Kd.N_lower HO.out HBS.out) (fun _ _ => trivial)); (case aF => exact Kd.N_F HO2.out); (case aP => exact fun k_ hk_ => ⟨trivial, fun he => by have h_ := HV.out _ he.symm; omega⟩); (case aB => exact HB2.out); (case aS => exact HB2.out.size); (case aL => have h_ := LT.out; have h2_ : lx.length ≤ 8 := (by rw [HX.out, List.length_take]; omega); show (lx.length + t3.length) * 24 ≤ _; omega); intro v3 w6 ho3 hb hg_ hat_; have HBF := aK (HBW.out.trans (hb.mono HBW.out.size)); rw [HX.out, ← HL.out] at ho3; have HO3 := Aside0.mk ho3; clear ho3 hb hg_ hat_ HO HO2 HB2 HV; obtain ⟨A1, c1, e3⟩ := Kd.N_slice HO3.out; subst e3; have HRF := aK (Kd.N_reads' HO3.out).2.2; have HCF := aK (Kd.N_reads' HO3.out).2.1; clear HO3))
  go_meet
  exact ⟨A1, c1, rfl, HRF, HCF, HBF⟩
 obtain ⟨A1, c1, rfl, HR1, HC1, HBWN⟩ := hcut
 obtain ⟨w, hw_⟩ : ∃ w, w = wc := ⟨_, rfl⟩
 subst hw_
 have HRm := Aside0.mk HR1.out
 have HCm := Aside0.mk HC1.out
 clear HR1 HC1 HRc HCc HRs HCs AN AR LT HL HBS HBA HBW HB1 HI
 have h := HG.out
 clear HG
 unfold l1_ValueOrders.h at h
 obtain ⟨l0, AS_, h⟩ := Option.bind_eq_some_iff.mp h
 obtain ⟨lo, AC_, h⟩ := Option.bind_eq_some_iff.mp h
 have hlt : lo.length + lm.length < 5864062014805 := by
  rcases Nat.lt_or_ge (lo.length + lm.length) 5864062014805 with c | c
  ·exact c
  ·rw [if_neg (Nat.not_lt.2 c)] at h; cases h
 rw [if_pos hlt] at h
 have LT := Aside0.mk hlt
 have AS := Aside0.mk AS_
 have AC := Aside0.mk AC_
 have HG := Aside0.mk h
 clear h hlt AS_ AC_
 have HB := aK (Below.refl w.heap.size w)
 go_upto_region 5 with (first | ((with_reducible refine gate_callee (f := 54) rfl ?_); refine gL (some 20) rfl Try.func54 #[.slice A1 lm.length c1] rfl ?_; (with_reducible refine (v_Set.calls k _ _ lm l0 w ?side1 ?side2 AS.out).mono ?_); (case side1 => exact HRm.out); (case side2 => exact HCm.out); rintro e w7 ⟨v20, rfl, ho, hb⟩; refine ⟨_, rfl, ?_⟩; have HS := Aside0.mk ho; have HBs := Aside0.mk hb; clear ho hb HB; obtain ⟨A0, c0, e0⟩ := Kd.S_slice HS.out; subst e0) | ((with_reducible refine gate_callee (f := 55) rfl ?_); refine gL (some 22) rfl Try.func55 #[.slice A1 lm.length c1] rfl ?_; (with_reducible refine (l1_copies.calls k _ _ lm lo w7 ?side1 ?side2 AC.out).mono ?_); (case side1 => exact Kd.C_below HRm.out HBs.out); (case side2 => exact HCm.out); rintro e w8 ⟨v22, rfl, ho, hb⟩; refine ⟨_, rfl, ?_⟩; have HO := Aside0.mk ho; have HBc := Aside0.mk hb; clear ho hb; obtain ⟨Ao, co, eo⟩ := Kd.S_slice HO.out; subst eo) | ((with_reducible refine gate_builtin (b := .append) (xs := #[.tmp 22, .tmp 23]) rfl ?_); at_builtin; refine Kd.N_append_rows (Kd.slice 24 k24) (w0 := w7) w7.heap.size rfl (.tmp 22) (.tmp 23) 55 54 (.slice none 0 0) 24 rfl Try.underlying55 info54 rfl (by decide) (by omega) (.slice Ao lo.length co) lo lm A1 _ c1 (fun _ => True) (fun k_ => k_ < w7.heap.size) rfl rfl ?aO ?aF ?aP (fun _ _ => trivial) ?aB ?aS ?aL ?_; (case aO => exact Kd.N_mono (Kd.S_N HO.out) (fun _ _ => trivial)); (case aF => exact Kd.F_step (Kd.C_F (Kd.heap_slice 24 k24_heap) (Kd.C_below HRm.out HBs.out)) (fun k_ hk_ _ => HBc.out.block k_ hk_)); (case aP => exact fun k_ hk_ => ⟨trivial, fun he => by have h_ := Kd.S_base HO.out _ he.symm; omega⟩); (case aB => exact HBc.out); (case aS => exact HBc.out.size); (case aL => have h_ := LT.out; omega); intro v24 wn ho hb hg_ hat_; obtain ⟨l1, hl1⟩ : ∃ l1, l1 = lo ++ lm := ⟨_, rfl⟩; rw [← hl1] at ho; have HL1 := Aside0.mk hl1; have HO1 := Aside0.mk ho; have HR0 := aK (Kd.C_below (Kd.S_reads' HS.out).2.2 hb); have HC0 := aK (Kd.S_reads' HS.out).2.1; have HBN := aK (HBWN.out.trans ((HBs.out.trans (hb.mono HBs.out.size)).mono HBWN.out.size)); clear ho hb hg_ hat_ hl1 HO HBc HS; obtain ⟨An, cn, en⟩ := Kd.N_slice HO1.out; subst en; have HRn := aK (Kd.N_reads' HO1.out).2.2; have HCn := aK (Kd.N_reads' HO1.out).2.1; clear HO1))
 clear HBs HBWN HRm HCm LT AS AC
 obtain ⟨w, hw2_⟩ : ∃ w, w = wn := ⟨_, rfl⟩
 subst hw2_
 have HBWN := HBN
 have HR1 := HRn
 have HC1 := HCn
 have h := HG.out
 rw [← HL1.out] at h
 clear HBN HRn HCn HG HL1
 have HB := aK (Below.refl w.heap.size w)
 have H : ((l1_begun.f k).bind fun t872 => (if t872 = true then ((v_Set.f k l1).bind fun t873 => ((r1_Same.f k t873 l0).bind fun t876 => (if t876 = true then ((l1_copies.f k l0).bind fun t877 => ((v_Set.f k t877).bind fun t880 => ((r1_Same.f k t880 l0).bind fun t883 => (if t883 = true then ((v_Set.f k l0).bind fun t884 => ((r1_Same.f k t884 l0).bind fun t887 => (some t887))) else (some false))))) else (some false)))) else (some false))) = some r := h
 clear h
 obtain ⟨t872, A3, H⟩ := oB H
 try dsimp only at H
 by_cases c4 : t872 = true
 rotate_left
 ·replace c4 := Bool.eq_false_iff.mpr c4
  subst c4
  rw [if_neg (show ¬ (false = true) by decide)] at H
  exact absurd (H.trans (congrArg some HRT.out)) (by simp)
 subst c4
 rw [if_pos rfl] at H
 obtain ⟨t873, A5, H⟩ := oB H
 try dsimp only at H
 obtain ⟨t876, A6, H⟩ := oB H
 try dsimp only at H
 by_cases c7 : t876 = true
 rotate_left
 ·replace c7 := Bool.eq_false_iff.mpr c7
  subst c7
  rw [if_neg (show ¬ (false = true) by decide)] at H
  exact absurd (H.trans (congrArg some HRT.out)) (by simp)
 subst c7
 rw [if_pos rfl] at H
 obtain ⟨t877, A8, H⟩ := oB H
 try dsimp only at H
 obtain ⟨t880, A9, H⟩ := oB H
 try dsimp only at H
 obtain ⟨t883, A10, H⟩ := oB H
 try dsimp only at H
 by_cases c11 : t883 = true
 rotate_left
 ·replace c11 := Bool.eq_false_iff.mpr c11
  subst c11
  rw [if_neg (show ¬ (false = true) by decide)] at H
  exact absurd (H.trans (congrArg some HRT.out)) (by simp)
 subst c11
 rw [if_pos rfl] at H
 obtain ⟨t884, A12, H⟩ := oB H
 try dsimp only at H
 obtain ⟨t887, A13, H⟩ := oB H
 try dsimp only at H
 obtain rfl := Option.some.inj H
 go_wp2_with (first | ((with_reducible refine gate_callee (f := 20) rfl ?_); refine gL (some 25) rfl Try.func20 #[] rfl ?_; (with_reducible refine (l1_begun.calls k  true _ A3.out).mono ?_); rintro e w14 ⟨rfl, hb⟩; refine ⟨_, rfl, ?_⟩; have n0_ := aK (below_step bO hb); clear HB; have HB := n0_; clear n0_; (try clear hb)) | (go_at_call 54; (with_reducible refine (v_Set.calls k _ _ l1 t873 _ ?side1 ?side2 A5.out).mono ?_); (case side1 => repeat (first | exact (Kd.C_below HR1.out HB.out) | (with_reducible refine Kd.C_alloc ?_ _) | (with_reducible refine Kd.C_drewN ?_ _) | (with_reducible refine Kd.C_drew ?_))); (case side2 => exact HC1.out); rintro e w15 ⟨v874, rfl, ho0, hb⟩; have n0_ := aK (Kd.S_lower ho0 (below_size bO)); have n1_ := aK (below_step bO hb); clear HB; have HO875 := n0_; have HB := n1_; clear n0_ n1_; (try clear hb ho0); obtain ⟨Ao16, co16, eo16⟩ := Kd.S_slice HO875.out; subst eo16) | (go_at_call 56; (with_reducible refine (r1_Same.calls k _ _ t873 _ _ l0 true _ ?side1 ?side2 ?side3 ?side4 A6.out).mono ?_); (case side1 => exact cX (Kd.S_reads' HO875.out).2.2); (case side2 => exact (Kd.S_reads' HO875.out).2.1); (case side3 => repeat (first | exact (Kd.C_below HR0.out HB.out) | (with_reducible refine Kd.C_alloc ?_ _) | (with_reducible refine Kd.C_drewN ?_ _) | (with_reducible refine Kd.C_drew ?_))); (case side4 => exact HC0.out); rintro e w17 ⟨rfl, hb⟩; have n0_ := aK (Kd.S_below (by (with_reducible repeat (first | apply Kd.S_alloc | apply Kd.S_drewN | apply Kd.S_drew)); exact HO875.out) hb); have n1_ := aK (below_step bO hb); clear HO875 HB; have HO875 := n0_; have HB := n1_; clear n0_ n1_; (try clear hb)) | (go_at_call 55; (with_reducible refine (l1_copies.calls k _ _ l0 t877 _ ?side1 ?side2 A8.out).mono ?_); (case side1 => repeat (first | exact (Kd.C_below HR0.out HB.out) | (with_reducible refine Kd.C_alloc ?_ _) | (with_reducible refine Kd.C_drewN ?_ _) | (with_reducible refine Kd.C_drew ?_))); (case side2 => exact HC0.out); rintro e w18 ⟨v878, rfl, ho0, hb⟩; have n0_ := aK (Kd.S_elder' (by (with_reducible repeat (first | apply Kd.S_alloc | apply Kd.S_drewN | apply Kd.S_drew)); exact HO875.out) (Kd.S_base ho0) hb); have n1_ := aK (Kd.S_lower (Kd.S_new' ho0 (Kd.S_lt (by (with_reducible repeat (first | apply Kd.S_alloc | apply Kd.S_drewN | apply Kd.S_drew)); exact HO875.out))) (below_size bO)); have n2_ := aK (below_step bO hb); clear HO875 HB; have HO875 := n0_; have HO879 := n1_; have HB := n2_; clear n0_ n1_ n2_; (try clear hb ho0); obtain ⟨Ao19, co19, eo19⟩ := Kd.S_slice HO879.out; subst eo19) | (go_at_call 54; (with_reducible refine (v_Set.calls k _ _ t877 t880 _ ?side1 ?side2 A9.out).mono ?_); (case side1 => exact cX (Kd.S_reads' HO879.out).2.2); (case side2 => exact (Kd.S_reads' HO879.out).2.1); rintro e w20 ⟨v881, rfl, ho0, hb⟩; have n0_ := aK (Kd.S_elder' (by (with_reducible repeat (first | apply Kd.S_alloc | apply Kd.S_drewN | apply Kd.S_drew)); exact HO875.out) (Kd.S_base ho0) hb); have n1_ := aK (Kd.S_elder' (by (with_reducible repeat (first | apply Kd.S_alloc | apply Kd.S_drewN | apply Kd.S_drew)); exact HO879.out) (Kd.S_base ho0) hb); have n2_ := aK (Kd.S_lower (Kd.S_new' (Kd.S_new' ho0 (Kd.S_lt (by (with_reducible repeat (first | apply Kd.S_alloc | apply Kd.S_drewN | apply Kd.S_drew)); exact HO875.out))) (Kd.S_lt (by (with_reducible repeat (first | apply Kd.S_alloc | apply Kd.S_drewN | apply Kd.S_drew)); exact HO879.out))) (below_size bO)); have n3_ := aK (below_step bO hb); clear HO875 HO879 HB; have HO875 := n0_; have HO879 := n1_; have HO882 := n2_; have HB := n3_; clear n0_ n1_ n2_ n3_; (try clear hb ho0); obtain ⟨Ao21, co21, eo21⟩ := Kd.S_slice HO882.out; subst eo21) | (go_at_call 56; (with_reducible refine (r1_Same.calls k _ _ t880 _ _ l0 true _ ?side1 ?side2 ?side3 ?side4 A10.out).mono ?_); (case side1 => exact cX (Kd.S_reads' HO882.out).2.2); (case side2 => exact (Kd.S_reads' HO882.out).2.1); (case side3 => repeat (first | exact (Kd.C_below HR0.out HB.out) | (with_reducible refine Kd.C_alloc ?_ _) | (with_reducible refine Kd.C_drewN ?_ _) | (with_reducible refine Kd.C_drew ?_))); (case side4 => exact HC0.out); rintro e w22 ⟨rfl, hb⟩; have n0_ := aK (Kd.S_below (by (with_reducible repeat (first | apply Kd.S_alloc | apply Kd.S_drewN | apply Kd.S_drew)); exact HO875.out) hb); have n1_ := aK (Kd.S_below (by (with_reducible repeat (first | apply Kd.S_alloc | apply Kd.S_drewN | apply Kd.S_drew)); exact HO879.out) hb); have n2_ := aK (Kd.S_below (by (with_reducible repeat (first | apply Kd.S_alloc | apply Kd.S_drewN | apply Kd.S_drew)); exact HO882.out) hb); have n3_ := aK (below_step bO hb); clear HO875 HO879 HO882 HB; have HO875 := n0_; have HO879 := n1_; have HO882 := n2_; have HB := n3_; clear n0_ n1_ n2_ n3_; (try clear hb)) | (go_at_call 54; (with_reducible refine (v_Set.calls k _ _ l0 t884 _ ?side1 ?side2 A12.out).mono ?_); (case side1 => repeat (first | exact (Kd.C_below HR0.out HB.out) | (with_reducible refine Kd.C_alloc ?_ _) | (with_reducible refine Kd.C_drewN ?_ _) | (with_reducible refine Kd.C_drew ?_))); (case side2 => exact HC0.out); rintro e w23 ⟨v885, rfl, ho0, hb⟩; have n0_ := aK (Kd.S_elder' (by (with_reducible repeat (first | apply Kd.S_alloc | apply Kd.S_drewN | apply Kd.S_drew)); exact HO875.out) (Kd.S_base ho0) hb); have n1_ := aK (Kd.S_elder' (by (with_reducible repeat (first | apply Kd.S_alloc | apply Kd.S_drewN | apply Kd.S_drew)); exact HO879.out) (Kd.S_base ho0) hb); have n2_ := aK (Kd.S_elder' (by (with_reducible repeat (first | apply Kd.S_alloc | apply Kd.S_drewN | apply Kd.S_drew)); exact HO882.out) (Kd.S_base ho0) hb); have n3_ := aK (Kd.S_lower (Kd.S_new' (Kd.S_new' (Kd.S_new' ho0 (Kd.S_lt (by (with_reducible repeat (first | apply Kd.S_alloc | apply Kd.S_drewN | apply Kd.S_drew)); exact HO875.out))) (Kd.S_lt (by (with_reducible repeat (first | apply Kd.S_alloc | apply Kd.S_drewN | apply Kd.S_drew)); exact HO879.out))) (Kd.S_lt (by (with_reducible repeat (first | apply Kd.S_alloc | apply Kd.S_drewN | apply Kd.S_drew)); exact HO882.out))) (below_size bO)); have n4_ := aK (below_step bO hb); clear HO875 HO879 HO882 HB; have HO875 := n0_; have HO879 := n1_; have HO882 := n2_; have HO886 := n3_; have HB := n4_; clear n0_ n1_ n2_ n3_ n4_; (try clear hb ho0); obtain ⟨Ao24, co24, eo24⟩ := Kd.S_slice HO886.out; subst eo24) | (go_at_call 56; (with_reducible refine (r1_Same.calls k _ _ t884 _ _ l0 t887 _ ?side1 ?side2 ?side3 ?side4 A13.out).mono ?_); (case side1 => exact cX (Kd.S_reads' HO886.out).2.2); (case side2 => exact (Kd.S_reads' HO886.out).2.1); (case side3 => repeat (first | exact (Kd.C_below HR0.out HB.out) | (with_reducible refine Kd.C_alloc ?_ _) | (with_reducible refine Kd.C_drewN ?_ _) | (with_reducible refine Kd.C_drew ?_))); (case side4 => exact HC0.out); rintro e w25 ⟨rfl, hb⟩; have n0_ := aK (Kd.S_below (by (with_reducible repeat (first | apply Kd.S_alloc | apply Kd.S_drewN | apply Kd.S_drew)); exact HO875.out) hb); have n1_ := aK (Kd.S_below (by (with_reducible repeat (first | apply Kd.S_alloc | apply Kd.S_drewN | apply Kd.S_drew)); exact HO879.out) hb); have n2_ := aK (Kd.S_below (by (with_reducible repeat (first | apply Kd.S_alloc | apply Kd.S_drewN | apply Kd.S_drew)); exact HO882.out) hb); have n3_ := aK (Kd.S_below (by (with_reducible repeat (first | apply Kd.S_alloc | apply Kd.S_drewN | apply Kd.S_drew)); exact HO886.out) hb); have n4_ := aK (below_step bO hb); clear HO875 HO879 HO882 HO886 HB; have HO875 := n0_; have HO879 := n1_; have HO882 := n2_; have HO886 := n3_; have HB := n4_; clear n0_ n1_ n2_ n3_ n4_; (try clear hb)))
 go_ret
 exact ⟨eW, _, HBWN.out, bO⟩
theorem l1_ValueOrders.calls (k : Nat) (Ac : Option Addr) (cc : Nat) (lc : List Int) (As : Option Addr) (cs : Nat) (ls : List (List S24)) (r : Bool) (wA : World) (hrc : Kd.C (Kd.int .u8) wA Ac lc.length lc) (hcc : lc.length ≤ cc) (hrs : Kd.C (Kd.slice 24 k24) wA As ls.length ls) (hcs : ls.length ≤ cs) (h : l1_ValueOrders.f k lc ls = some r) (HRT : Aside0 (r = true)) :
  Calls Try.prog 10 #[.slice Ac lc.length cc, .slice As ls.length cs] wA fun e w' => e = .returned (.bool r) ∧ Below wA.heap.size wA w' :=
 (l1_ValueOrders.callsN k Ac cc lc As cs ls r wA hrc hcc hrs hcs h HRT).mono fun _ _ ⟨he, _, h1, h2⟩ => ⟨he, h1.trans (h2.mono h1.size)⟩
end Go.Proofs.Ytpjcdacnhalclaa.Q
namespace Go.Proofs.Ytpjcdacnhalclaa.Q
open Go.RowKit Go.Proofs.YtpjcdacnhalclaaW.PrintWords Go.Proofs.YtpjcdacnhalclaaW.PrintLast Go.Proofs.YtpjcdacnhalclaaW.PrintMore
attribute [local go_sem] max2_int min2_int max_two min_two max_three min_three max_four min_four
section
open Go.Joins Go.ChangeShapes Go.WideShapes Go.Deep
variable {H : Type} {enc : TypeId × Value → H} {W : World} {base : Nat} {spare : Nat → Bool} {held : Bool}
theorem open_cells3 {P : Program} {t : TypeId} {f0 f1 f2 : Field} {fuel : Nat} {cs : List Value} {x : DataW H × List MemPlace} (hs : P.underlying t = some (.struct #[f0, f1, f2])) (hone : oneCellFields P #[f0, f1, f2] = true) (hC : P.cellsOf t = 3) (h : DataW.trod enc P W base spare held fuel t cs = some x) :
  ∃ v0 v1 v2 y0 y1 y2 n, cs = [v0, v1, v2] ∧ DataW.trod enc P W base spare held n f0.type [v0] = some y0 ∧ DataW.trod enc P W base spare held n f1.type [v1] = some y1 ∧ DataW.trod enc P W base spare held n f2.type [v2] = some y2 := by
 obtain ⟨y0, y1, y2, n, _, hl, h0, h1, h2⟩ := trod_struct3 hs h
 obtain ⟨o0, k0⟩ := hone_of hone 0 f0 rfl
 obtain ⟨o1, k1⟩ := hone_of hone 1 f1 rfl
 obtain ⟨o2, k2⟩ := hone_of hone 2 f2 rfl
 rw [hC] at hl
 match cs, hl with
 | [c0, c1, c2], _ => exact ⟨c0, c1, c2, y0, y1, y2, n, rfl, by simpa [o0, k0] using h0, by simpa [o1, k1] using h1, by simpa [o2, k2] using h2⟩
theorem open_value {fuel : Nat} {cs : List Value} {x : DataW H × List MemPlace} (h : DataW.trod enc Try.prog W base spare held fuel 24 cs = some x) : ∃ y : S24, cs = [.int .i64 y.f0, .int .i64 y.f1, .string y.f2] ∧ -9223372036854775808 ≤ y.f1 ∧ y.f1 ≤ 9223372036854775807 := by
 obtain ⟨v0, v1, v2, y0, y1, y2, n, rfl, h0, h1, h2⟩ := open_cells3 Try.underlying24 (by kernel_rfl) (by kernel_rfl) h
 obtain ⟨a, e0, _, _⟩ := DataW.trod_int Try.underlying3 h0
 obtain ⟨b, e1, _, w1⟩ := DataW.trod_int Try.underlying2 h1
 obtain ⟨c, e2, _, _⟩ := DataW.trod_string Try.underlying9 h2
 injection e0 with e0 _
 injection e1 with e1 _
 injection e2 with e2 _
 subst e0 e1 e2
 exact ⟨⟨a, b, c⟩, rfl, wf_int w1⟩
theorem bytes24 : Try.prog.bytesOf 24 = 32 := by kernel_rfl
theorem weights_all {P : Program} {e : TypeId} {d : DataW H} {n : Nat} (hn : n ∈ d.weights P e) : ∀ {ds : List (DataW H)}, d ∈ ds → n ∈ DataW.weightsAll P e ds
 | [], h => by simp at h
 | d0 :: ds, h => by
  rw [DataW.weightsAll, List.mem_append]
  rcases List.mem_cons.1 h with e | e
  ·exact .inl (e ▸ hn)
  ·exact .inr (weights_all hn e)
theorem cells54 : Try.prog.cellsOf 54 = 1 := by kernel_rfl
theorem cells24_ : Try.prog.cellsOf 24 = 3 := by kernel_rfl
theorem open_row {fuel : Nat} {cs : List Value} {x : DataW H × List MemPlace} (h : DataW.trod enc Try.prog W base spare held fuel 54 cs = some x) : ∃ A c l, cs = [.slice A l.length c] ∧ l.length ≤ c ∧ Kd.C k24 W A l.length l ∧ (∀ y ∈ l, -9223372036854775808 ≤ y.f1 ∧ y.f1 ≤ 9223372036854775807) ∧ ∀ B, (∀ n ∈ x.1.weights Try.prog 54, n ≤ B) → l.length * 32 ≤ B := by
 rcases open_slice Try.underlying54 h with ⟨rfl, _⟩ | ⟨a, len, cap, m, n, D, Pl, rfl, _, hl, hm, hmm, hxd, hi⟩
 ·exact ⟨none, 0, [], rfl, Nat.le_refl _, Kd.C_nil _ _, by simp, by simp⟩
 ·have hlm : len ≤ m := by rw [hmm]; split <;> omega
  have hx : ∀ i : Nat, i < len → ∃ y : S24, W.cells? base (a.add (i * 3)) 3 = some [.int .i64 y.f0, .int .i64 y.f1, .string y.f2] ∧ -9223372036854775808 ≤ y.f1 ∧ y.f1 ≤ 9223372036854775807 := by
   intro i hil
   obtain ⟨cs', hc, ht⟩ := hi i (by omega)
   rw [cells24_] at hc
   obtain ⟨y, rfl, hy⟩ := open_value ht
   exact ⟨y, hc, hy⟩
  refine ⟨some a, cap, (List.finRange len).map (fun j => (hx j.1 j.2).choose), ?_, ?_, ?_, ?_, ?_⟩
  ·simp
  ·simpa using hl
  ·refine ⟨by simp, by have := hm; unfold maxLen at this; simp; omega, fun _ => ⟨a, rfl, fun j p hj => ?_⟩⟩
   obtain ⟨hj1, rfl⟩ := List.getElem?_eq_some_iff.1 hj
   have hjl : j < len := by simpa using hj1
   simp only [List.getElem_map, List.getElem_finRange]
   have hs := (hx j hjl).choose_spec.1
   obtain ⟨_, _, hat⟩ := World.cells?_some hs
   refine ⟨_, rfl, k24_mk _ _, fun i u hu => ?_⟩
   have hi3 : i < 3 := by have := (List.getElem?_eq_some_iff.1 hu).1; simpa using this
   have h1 := hat i hi3
   rw [hu] at h1
   rw [Go.Deep.add_add] at h1
   exact h1
  ·intro y hy
   obtain ⟨j, _, rfl⟩ := List.mem_map.1 hy
   exact (hx j.1 j.2).choose_spec.2
  ·intro B hB
   have h1 := hB ((len + (m - len)) * 32) (by rw [hxd]; simp [DataW.weights, Try.underlying54, bytes24])
   simp only [List.length_map, List.length_finRange]
   omega
theorem open_rows {fuel : Nat} {cs : List Value} {x : DataW H × List MemPlace} (h : DataW.trod enc Try.prog W base spare held fuel 55 cs = some x) (hB : ∀ n ∈ x.1.weights Try.prog 55, n ≤ 140737488351232) : ∃ A c l, cs = [.slice A l.length c] ∧ l.length ≤ c ∧ Kd.C (Kd.slice 24 k24) W A l.length l ∧ ∀ r ∈ l, r.length < 4398046511104 := by
 rcases open_slice Try.underlying55 h with ⟨rfl, _⟩ | ⟨a, len, cap, m, n, D, Pl, rfl, _, hl, hm, hmm, hxd, hi⟩
 ·exact ⟨none, 0, [], rfl, Nat.le_refl _, Kd.C_nil _ _, by simp⟩
 ·have hlm : len ≤ m := by rw [hmm]; split <;> omega
  have hx : ∀ i : Nat, i < len → ∃ y : List S24, ∃ A c, W.cells? base (a.add (i * 1)) 1 = some [.slice A y.length c] ∧ y.length ≤ c ∧ Kd.C k24 W A y.length y ∧ y.length < 4398046511104 := by
   intro i hil
   obtain ⟨cs', hc, ht⟩ := hi i (by omega)
   rw [cells54] at hc
   obtain ⟨A, c, l, rfl, h1, h2, _, h3⟩ := open_row ht
   refine ⟨l, A, c, hc, h1, h2, ?_⟩
   have := h3 140737488351232 fun n hn => hB n (by
    rw [hxd]
    simp only [DataW.weights, Try.underlying55, List.mem_cons, List.mem_append]
    exact .inr (.inl (weights_all hn (List.mem_map.2 ⟨i, by simpa using hil, rfl⟩))))
   omega
  refine ⟨some a, cap, (List.finRange len).map (fun j => (hx j.1 j.2).choose), ?_, ?_, ?_, ?_⟩
  ·simp
  ·simpa using hl
  ·refine ⟨by simp, by have := hm; unfold maxLen at this; simp; omega, fun _ => ⟨a, rfl, fun j p hj => ?_⟩⟩
   obtain ⟨hj1, rfl⟩ := List.getElem?_eq_some_iff.1 hj
   have hjl : j < len := by simpa using hj1
   simp only [List.getElem_map, List.getElem_finRange]
   obtain ⟨A, c, hs, h1, h2, _⟩ := (hx j hjl).choose_spec
   obtain ⟨_, _, hat⟩ := World.cells?_some hs
   refine ⟨_, rfl, ⟨A, c, rfl, h1, h2⟩, fun i u hu => ?_⟩
   have hi1 : i < 1 := by have := (List.getElem?_eq_some_iff.1 hu).1; simpa using this
   have h3 := hat i hi1
   rw [hu] at h3
   rw [Go.Deep.add_add] at h3
   exact h3
  ·intro y hy
   obtain ⟨j, _, rfl⟩ := List.mem_map.1 hy
   obtain ⟨A, c, _, _, _, h5⟩ := (hx j.1 j.2).choose_spec
   exact h5
end
end Go.Proofs.Ytpjcdacnhalclaa.Q
namespace Go.Proofs.Ytpjcdacnhalclaa.Q
open Go.RowKit Go.Proofs.YtpjcdacnhalclaaW.PrintWords Go.Proofs.YtpjcdacnhalclaaW.PrintLast Go.Proofs.YtpjcdacnhalclaaW.PrintMore
attribute [local go_sem] max2_int min2_int max_two min_two max_three min_three max_four min_four
theorem r1_Compare.some_ (x y : S24) : r1_Compare.f x.f0 x.f1 x.f2 y.f0 y.f1 y.f2 = some (cmpV x y) := by
 unfold r1_Compare.f
 rcases cmpV_cases x y with ⟨h, e⟩ | ⟨h, e⟩ | ⟨h, e⟩
 ·rw [e]
  rcases h with h | ⟨e1, h | ⟨e2, h⟩⟩
  ·rw [if_pos h]
  ·rw [if_neg (by omega), if_neg (by omega), if_pos h]
  ·rw [if_neg (by omega), if_neg (by omega), if_neg (by omega), if_neg (by omega), if_pos (by rw [bytesLess_eq]; exact decide_eq_true h)]
 ·subst h
  rw [e, if_neg (by omega), if_neg (by omega), if_neg (by omega), if_neg (by omega), if_neg (by rw [bytesLess_eq]; exact fun k => List.lt_irrefl _ (of_decide_eq_true k)), if_pos (by simp)]
 ·rw [e]
  rcases h with h | ⟨e1, h | ⟨e2, h⟩⟩
  ·rw [if_neg (by omega), if_pos h]
  ·rw [if_neg (by omega), if_neg (by omega), if_neg (by omega), if_pos h]
  ·rw [if_neg (by omega), if_neg (by omega), if_neg (by omega), if_neg (by omega), if_neg (by rw [bytesLess_eq]; exact fun k => List.lt_asymm h (of_decide_eq_true k)), if_neg (by
    intro k
    rw [beq_iff_eq] at k
    rw [k] at h
    exact List.lt_irrefl _ h)]
theorem r1_CompareRows.same : ∀ k, (∀ x y i, r1_CompareRows.l0 k x y i = v_CompareRows.l0 k x y i) ∧ (∀ x y i b, r1_CompareRows.j1 k x y i b = v_CompareRows.j1 k x y i b)
 | 0 => ⟨fun _ _ _ => rfl, fun _ _ _ _ => rfl⟩
 | k + 1 => by
  obtain ⟨h0, h1⟩ := r1_CompareRows.same k
  refine ⟨fun x y i => ?_, fun x y i b => ?_⟩
  ·rw [r1_CompareRows.l0, v_CompareRows.l0]
   simp only [h1]
  ·rw [r1_CompareRows.j1, v_CompareRows.j1]
   simp only [h0, r1_Compare.some_, v_Compare.some_]
theorem r1_CompareRows.some_ (x y : List S24) (hx : x.length ≤ 9223372036854775807) (k : Nat) (hk : 2 * x.length + 2 ≤ k) : r1_CompareRows.f k x y = some (cmpL x y) := by
 rw [r1_CompareRows.f, (r1_CompareRows.same k).1]
 exact v_CompareRows.some_ x y hx k hk
theorem r1_CompareRows.ev (x y : List S24) (hx : x.length ≤ 9223372036854775807) : Ev (fun k => r1_CompareRows.f k x y) (cmpL x y) := ⟨2 * x.length + 2, fun k hk => r1_CompareRows.some_ x y hx k hk⟩
theorem cc_Cells.l0_ok (L : List Int) : ∀ (m : Nat) (x : List S24) (i : Int), StOk L i → x.length + m ≤ 1000 → ∃ r j, Ev (fun k => cc_Cells.l0 k m x L i) (r, j) ∧ StOk L j ∧ r.length = x.length + m
 | 0, x, i, h, _ => ⟨x, i, Ev.step (fun k => by rw [cc_Cells.l0, if_neg (by omega)]) (Ev.now _), h, rfl⟩
 | m + 1, x, i, h, hl => by
  obtain ⟨a, b, c, j, e, h2, -, -, -⟩ := cc_Any.ok h
  obtain ⟨r, j', e2, h3, hr⟩ := cc_Cells.l0_ok L m (x ++ [⟨a, b, c⟩]) j h2 (by simp; omega)
  have hw : wrap64 (((m + 1 : Nat) : Int) - 1) = (m : Int) := by unfold wrap64; omega
  refine ⟨r, j', Ev.step (fun k => by rw [cc_Cells.l0, if_pos (by omega), hw]) (Ev.bind e ?_), h3, by rw [hr]; simp; omega⟩
  exact Ev.congr (fun k => if_pos (by omega)) e2
theorem cc_Cells.ok {L : List Int} {i : Int} (h : StOk L i) (n : Int) (h0 : 0 ≤ n) (h1 : n ≤ 100) : ∃ r j, Ev (fun k => cc_Cells.f k L i n) (r, j) ∧ StOk L j ∧ (r.length : Int) ≤ 100 := by
 obtain ⟨m, rfl⟩ := Int.eq_ofNat_of_zero_le h0
 obtain ⟨r, j, e, h2, hr⟩ := cc_Cells.l0_ok L m [] i h (by simp; omega)
 exact ⟨r, j, e, h2, by rw [hr]; simp; omega⟩
theorem rd_L4_mem (x : List (List S24)) (i : Int) (h0 : 0 ≤ i) (h1 : i < x.length) : rd_L4 x i ∈ x := by
 unfold rd_L4
 rw [List.getD_eq_getElem?_getD, List.getElem?_eq_getElem (by omega)]
 exact List.getElem_mem _
theorem l1_rows.l0_ok (L : List Int) : ∀ (m : Nat) (x : List (List S24)) (i : Int), StOk L i → x.length + m ≤ 100 → (∀ r ∈ x, r.length ≤ 100) → ∃ r j, Ev (fun k => l1_rows.l0 k x m L i) (r, j) ∧ StOk L j ∧ r.length ≤ 100 ∧ ∀ q ∈ r, q.length ≤ 100
 | 0, x, i, h, hl, hx => ⟨x, i, Ev.step (fun k => by rw [l1_rows.l0, if_neg (by omega)]) (Ev.now _), h, by omega, hx⟩
 | m + 1, x, i, h, hl, hx => by
  have hw : wrap64 (((m + 1 : Nat) : Int) - 1) = (m : Int) := by unfold wrap64; omega
  obtain ⟨n, j1, e1, h1, n0, -, n3⟩ := cc_Int.ok h 3 (by omega)
  have n3 := n3 (by omega)
  obtain ⟨row, j2, e2, h2, hrow⟩ := cc_Cells.ok h1 n n0 (by omega)
  have more : ∀ (y : List S24) (j : Int), StOk L j → y.length ≤ 100 → ∃ r j', Ev (fun k => if x.length < 5864062014805 then l1_rows.l0 k (x ++ [y]) m L j else none) (r, j') ∧ StOk L j' ∧ r.length ≤ 100 ∧ ∀ q ∈ r, q.length ≤ 100 := by
   intro y j hj hy
   obtain ⟨r, j', e, h3, h4⟩ := l1_rows.l0_ok L m (x ++ [y]) j hj (by simp; omega) (fun q hq => by
    rcases List.mem_append.1 hq with c | c
    ·exact hx q c
    ·simp at c; exact c ▸ hy)
   exact ⟨r, j', Ev.congr (fun k => if_pos (by omega)) e, h3, h4⟩
  have st : ∀ res, Ev (fun k => if (x.length : Int) > 0 then ((cc_Bool.f L j2 3).bind fun bt848 => (if bt848.1 = true then ((cc_Int.f L bt848.2 (x.length : Int)).bind fun bt850 => (if 0 ≤ bt850.1 then (if bt850.1 < (x.length : Int) then (if x.length < 5864062014805 then (l1_rows.l0 k (x ++ [rd_L4 x bt850.1]) m L bt850.2) else (none)) else (none)) else (none))) else (if x.length < 5864062014805 then (l1_rows.l0 k (x ++ [row]) m L bt848.2) else (none)))) else (if x.length < 5864062014805 then (l1_rows.l0 k (x ++ [row]) m L j2) else (none))) res → Ev (fun k => l1_rows.l0 k x ((m + 1 : Nat) : Int) L i) res := by
   intro res hr
   refine Ev.step (fun k => by rw [l1_rows.l0, if_pos (by omega), e1, Option.bind_some, hw]) ?_
   exact Ev.bind e2 hr
  by_cases hx0 : (x.length : Int) > 0
  ·obtain ⟨b, j3, e3, h3⟩ := cc_Bool.ok h2 3 (by omega) (by omega)
   by_cases hb : b = true
   ·obtain ⟨n', j4, e4, h4, p0, -, p1⟩ := cc_Int.ok h3 (x.length : Int) (by omega)
    have p1 := p1 (by omega)
    obtain ⟨r, j', e, h5⟩ := more (rd_L4 x n') j4 h4 (hx _ (rd_L4_mem x n' p0 p1))
    refine ⟨r, j', st _ (Ev.congr (fun k => ?_) e), h5⟩
    rw [if_pos hx0, e3, Option.bind_some, if_pos hb, e4, Option.bind_some, if_pos p0, if_pos p1]
   ·obtain ⟨r, j', e, h5⟩ := more row j3 h3 (by omega)
    refine ⟨r, j', st _ (Ev.congr (fun k => ?_) e), h5⟩
    rw [if_pos hx0, e3, Option.bind_some, if_neg hb]
  ·obtain ⟨r, j', e, h5⟩ := more row j2 h2 (by omega)
   refine ⟨r, j', st _ (Ev.congr (fun k => ?_) e), h5⟩
   rw [if_neg hx0]
theorem l1_rows.ok {L : List Int} {i : Int} (h : StOk L i) : ∃ r j, Ev (fun k => l1_rows.f k L i) (r, j) ∧ StOk L j ∧ r.length ≤ 100 ∧ ∀ q ∈ r, q.length ≤ 100 := by
 obtain ⟨n, j, e, h2, n0, -, n7⟩ := cc_Int.ok h 7 (by omega)
 have n7 := n7 (by omega)
 obtain ⟨m, rfl⟩ := Int.eq_ofNat_of_zero_le n0
 obtain ⟨r, j', e2, h3⟩ := l1_rows.l0_ok L m [] j h2 (by simp; omega) (by simp)
 refine ⟨r, j', ?_, h3⟩
 unfold l1_rows.f
 rw [e]
 exact e2
end Go.Proofs.Ytpjcdacnhalclaa.Q
namespace Go.Proofs.Ytpjcdacnhalclaa.Q
open Go.RowKit Go.Proofs.YtpjcdacnhalclaaW.PrintWords Go.Proofs.YtpjcdacnhalclaaW.PrintLast Go.Proofs.YtpjcdacnhalclaaW.PrintMore
attribute [local go_sem] max2_int min2_int max_two min_two max_three min_three max_four min_four
theorem ded_mem : ∀ (l : List (List S24)) (o : Option (List S24)) (v : List S24), v ∈ ded o l → v ∈ l
 | [], _, _, h => by simp [ded] at h
 | x :: l, none, v, h => by
  rw [ded] at h
  rcases List.mem_cons.1 h with e | e
  ·exact e ▸ List.mem_cons.2 (.inl rfl)
  ·exact List.mem_cons.2 (.inr (ded_mem l _ v e))
 | x :: l, some p, v, h => by
  rw [ded] at h
  split at h
  ·exact List.mem_cons.2 (.inr (ded_mem l _ v h))
  ·rcases List.mem_cons.1 h with e | e
   ·exact e ▸ List.mem_cons.2 (.inl rfl)
   ·exact List.mem_cons.2 (.inr (ded_mem l _ v e))
theorem mem_ded : ∀ (l : List (List S24)) (o : Option (List S24)) (v : List S24), v ∈ l → v ∈ ded o l ∨ o = some v
 | [], _, _, h => by simp at h
 | x :: l, none, v, h => by
  rw [ded]
  rcases List.mem_cons.1 h with e | e
  ·exact .inl (e ▸ List.mem_cons.2 (.inl rfl))
  ·rcases mem_ded l (some x) v e with c | c
   ·exact .inl (List.mem_cons.2 (.inr c))
   ·injection c with c
    exact .inl (c ▸ List.mem_cons.2 (.inl rfl))
 | x :: l, some p, v, h => by
  rw [ded]
  by_cases hc : cmpL p x = 0
  ·rw [if_pos hc]
   have hpx := cmpL_zero.1 hc
   rcases List.mem_cons.1 h with e | e
   ·exact .inr (by rw [e, hpx])
   ·rcases mem_ded l (some x) v e with c | c
    ·exact .inl c
    ·exact .inr (by rw [hpx]; exact c)
  ·rw [if_neg hc]
   rcases List.mem_cons.1 h with e | e
   ·exact .inl (e ▸ List.mem_cons.2 (.inl rfl))
   ·rcases mem_ded l (some x) v e with c | c
    ·exact .inl (List.mem_cons.2 (.inr c))
    ·injection c with c
     exact .inl (c ▸ List.mem_cons.2 (.inl rfl))
theorem setOf_mem (l : List (List S24)) (v : List S24) : v ∈ setOf l ↔ v ∈ l := by
 unfold setOf
 constructor
 ·intro h
  exact List.mem_mergeSort.1 (ded_mem _ _ _ h)
 ·intro h
  rcases mem_ded _ none v (List.mem_mergeSort.2 h) with c | c
  ·exact c
  ·cases c
theorem setOf_len (l : List (List S24)) : (setOf l).length ≤ l.length := by
 unfold setOf
 rw [← List.length_mergeSort (le := leL) l]
 exact ded_len _ _
theorem rd_L4_at (x : List (List S24)) (i : Nat) (h : i < x.length) : rd_L4 x (i : Int) = x[i] := by
 unfold rd_L4
 rw [List.getD_eq_getElem?_getD, Int.toNat_natCast, List.getElem?_eq_getElem h]
 rfl
theorem r1_Same.l0_ev (l : List (List S24)) (hl : l.length < 4611686018427387904) (hr : ∀ r ∈ l, r.length ≤ 9223372036854775807) : ∀ (m i : Nat), l.length - i = m → i ≤ l.length → Ev (fun k => r1_Same.l0 k l l l.length i) true := by
 intro m
 induction m with
 | zero =>
  intro i hm hi
  exact Ev.step (fun k => by rw [r1_Same.l0, if_neg (by omega)]) (Ev.now _)
 | succ m ih =>
  intro i hm hi
  have hil : i < l.length := by omega
  have hw : wrap64 ((i : Int) + 1) = ((i + 1 : Nat) : Int) := wrap64_succ (by omega)
  refine Ev.step (fun k => by rw [r1_Same.l0, if_pos (by omega), if_pos (by omega), if_pos (by omega), if_pos (by omega), rd_L4_at l i hil, hw]) ?_
  refine Ev.bind (r1_CompareRows.ev l[i] l[i] (hr _ (List.getElem_mem hil))) ?_
  exact Ev.congr (fun k => if_pos (cmpL_self _)) (ih (i + 1) (by omega) (by omega))
theorem r1_Same.self (l : List (List S24)) (hl : l.length < 4611686018427387904) (hr : ∀ r ∈ l, r.length ≤ 9223372036854775807) : Ev (fun k => r1_Same.f k l l) true := by
 unfold r1_Same.f
 exact Ev.congr (fun k => if_pos rfl) (r1_Same.l0_ev l hl hr l.length 0 rfl (Nat.zero_le _))
structure OkR (l : List (List S24)) : Prop where
 len : l.length < 65536
 row : ∀ r ∈ l, r.length < 4398046511104
theorem OkR.ok {l : List (List S24)} (h : OkR l) : okRows l = true := by
 unfold okRows
 rw [Bool.and_eq_true]
 exact ⟨decide_eq_true h.len, List.all_eq_true.2 fun r hr => decide_eq_true (h.row r hr)⟩
theorem OkR.set {l : List (List S24)} (h : OkR l) : OkR (setOf l) := ⟨Nat.lt_of_le_of_lt (setOf_len l) h.len, fun r hr => h.row r ((setOf_mem l r).1 hr)⟩
theorem OkR.big {l : List (List S24)} (h : OkR l) : ∀ r ∈ l, r.length ≤ 9223372036854775807 := fun r hr => by have := h.row r hr; omega
theorem OkR.small {l : List (List S24)} (h : OkR l) : l.length < 4611686018427387904 := by have := h.len; omega
theorem v_Set.ev {l : List (List S24)} (h : OkR l) : Ev (fun k => v_Set.f k l) (setOf l) := Ev.congr (fun k => by unfold v_Set.f; rw [if_pos h.ok]) (Ev.now _)
theorem made_ok {ls L : List (List S24)} (h1 : ∀ r ∈ ls, r.length < 4398046511104) (h2 : L.length ≤ 100) (h3 : ∀ q ∈ L, q.length ≤ 100) : OkR (ls.take 8 ++ L) where
 len := by rw [List.length_append, List.length_take]; omega
 row := fun r hr => by
  rcases List.mem_append.1 hr with c | c
  ·exact h1 r (List.mem_of_mem_take c)
  ·have := h3 r c; omega
def ltL (x y : List S24) : Prop := cmpL x y < 0
theorem ltL_irrefl (x : List S24) : ¬ ltL x x := by unfold ltL; rw [cmpL_self]; omega
theorem ltL_trans {x y z : List S24} (h : ltL x y) (k : ltL y z) : ltL x z := by
 unfold ltL at *
 have h1 := cmpL_le_trans (Int.le_of_lt h) (Int.le_of_lt k)
 by_cases c : cmpL x z = 0
 ·have e := cmpL_zero.1 c
  subst e
  have := cmpL_neg x y
  omega
 ·omega
theorem ltL_of {x y : List S24} (h : leL x y = true) (k : ¬ cmpL x y = 0) : ltL x y := by
 have := of_decide_eq_true h
 unfold ltL
 omega
theorem ded_strict : ∀ (l : List (List S24)) (o : Option (List S24)), l.Pairwise (fun a b => leL a b = true) → (∀ p, o = some p → ∀ x ∈ l, leL p x = true) → (ded o l).Pairwise ltL ∧ ∀ p, o = some p → ∀ q ∈ ded o l, ltL p q
 | [], _, _, _ => by simp [ded]
 | x :: l, none, h, _ => by
  obtain ⟨hx, hl⟩ := List.pairwise_cons.1 h
  obtain ⟨h1, h2⟩ := ded_strict l (some x) hl (fun p hp y hy => by injection hp with hp; exact hp ▸ hx y hy)
  rw [ded]
  exact ⟨List.pairwise_cons.2 ⟨h2 x rfl, h1⟩, fun p hp => by cases hp⟩
 | x :: l, some p, h, hp => by
  obtain ⟨hx, hl⟩ := List.pairwise_cons.1 h
  obtain ⟨h1, h2⟩ := ded_strict l (some x) hl (fun p hp y hy => by injection hp with hp; exact hp ▸ hx y hy)
  have hpx := hp p rfl x (by simp)
  rw [ded]
  by_cases hc : cmpL p x = 0
  ·rw [if_pos hc]
   have e := cmpL_zero.1 hc
   subst e
   exact ⟨h1, fun q hq => by injection hq with hq; subst hq; exact h2 _ rfl⟩
  ·rw [if_neg hc]
   have hlt := ltL_of hpx hc
   refine ⟨List.pairwise_cons.2 ⟨h2 x rfl, h1⟩, fun q hq r hr => ?_⟩
   injection hq with hq
   subst hq
   rcases List.mem_cons.1 hr with e | e
   ·exact e ▸ hlt
   ·exact ltL_trans hlt (h2 x rfl r e)
theorem setOf_strict (l : List (List S24)) : (setOf l).Pairwise ltL := (ded_strict _ none (List.pairwise_mergeSort leL_trans leL_total l) (fun p hp => by cases hp)).1
theorem strict_unique : ∀ {a b : List (List S24)}, a.Pairwise ltL → b.Pairwise ltL → (∀ v, v ∈ a ↔ v ∈ b) → a = b
 | [], [], _, _, _ => rfl
 | [], y :: b, _, _, h => absurd ((h y).2 (by simp)) (by simp)
 | x :: a, [], _, _, h => absurd ((h x).1 (by simp)) (by simp)
 | x :: a, y :: b, ha, hb, h => by
  obtain ⟨hx, ha'⟩ := List.pairwise_cons.1 ha
  obtain ⟨hy, hb'⟩ := List.pairwise_cons.1 hb
  have e : x = y := by
   rcases List.mem_cons.1 ((h x).1 (by simp)) with c | c
   ·exact c
   ·rcases List.mem_cons.1 ((h y).2 (by simp)) with d | d
    ·exact d.symm
    ·exact absurd (ltL_trans (hx y d) (hy x c)) (ltL_irrefl _)
  subst e
  have : a = b := strict_unique ha' hb' fun v => by
   constructor
   ·intro hv
    rcases List.mem_cons.1 ((h v).1 (by simp [hv])) with c | c
    ·exact absurd (hx v hv) (c ▸ ltL_irrefl _)
    ·exact c
   ·intro hv
    rcases List.mem_cons.1 ((h v).2 (by simp [hv])) with c | c
    ·exact absurd (hy v hv) (c ▸ ltL_irrefl _)
    ·exact c
  rw [this]
theorem setOf_eq {l m : List (List S24)} (h : ∀ v, v ∈ l ↔ v ∈ m) : setOf l = setOf m := strict_unique (setOf_strict l) (setOf_strict m) fun v => by rw [setOf_mem, setOf_mem, h]
theorem setOf_self {l : List (List S24)} {s : List (List S24)} (h : ∀ v, v ∈ s ↔ v ∈ setOf l) : setOf s = setOf l := strict_unique (setOf_strict s) (setOf_strict l) fun v => by rw [setOf_mem, h]
theorem l1_copies.l0_ev (l : List (List S24)) (hl : l.length < 1000000) (hr : ∀ r ∈ l, r.length < 4398046511104) : ∀ (m : Nat) (x : List (List S24)), m ≤ l.length → x.length + m ≤ 1000000 → Ev (fun k => l1_copies.l0 k l x ((m : Int) - 1)) (x ++ (l.take m).reverse)
 | 0, x, _, _ => by
  refine Ev.step (fun k => by rw [l1_copies.l0, if_neg (by omega)]) ?_
  simp only [List.take_zero, List.reverse_nil, List.append_nil]
  exact Ev.now _
 | m + 1, x, hm, hx => by
  have hml : m < l.length := by omega
  have e : ((m + 1 : Nat) : Int) - 1 = (m : Int) := by omega
  have hw : wrap64 ((m : Int) - 1) = (m : Int) - 1 := by unfold wrap64; omega
  have hc := hr _ (List.getElem_mem hml)
  have hcp : r1_Copy.f l[m] = some l[m] := by
   unfold r1_Copy.f
   simp [hc]
   try omega
  have ih := l1_copies.l0_ev l hl hr m (x ++ [l[m]]) (by omega) (by simp; omega)
  rw [e]
  refine Ev.step (fun k => by rw [l1_copies.l0, if_pos (by omega), if_pos (by omega), if_pos (by omega), rd_L4_at l m hml, hcp, Option.bind_some, if_pos (by omega), hw]) ?_
  rw [List.append_assoc] at ih
  rw [List.take_succ_eq_append_getElem hml, List.reverse_append]
  exact ih
theorem l1_copies.ev {l : List (List S24)} (h : OkR l) : Ev (fun k => l1_copies.f k l) l.reverse := by
 have hl := h.len
 have := l1_copies.l0_ev l (by omega) h.row l.length [] (Nat.le_refl _) (by simp; omega)
 rw [List.take_length, List.nil_append] at this
 unfold l1_copies.f
 have hw : wrap64 ((l.length : Int) - 1) = (l.length : Int) - 1 := by unfold wrap64; omega
 rw [hw]
 exact this
theorem OkR.rev {l : List (List S24)} (h : OkR l) : OkR l.reverse := ⟨by rw [List.length_reverse]; exact h.len, fun r hr => h.row r (List.mem_reverse.1 hr)⟩
theorem r1_Same.yes {l m : List (List S24)} (e : l = m) (h : OkR l) : Ev (fun k => r1_Same.f k l m) true := e ▸ r1_Same.self l h.small h.big
theorem l1_ValueOrders.pure (l : List Int) (hl : ∀ x ∈ l, 0 ≤ x ∧ x ≤ 255) (ls : List (List S24)) (_hm : ls.length ≤ 9223372036854775807) (hls : ∀ r ∈ ls, r.length < 4398046511104) : ∃ k, l1_ValueOrders.f k l ls = some true := by
 refine Ev.rounds (g := fun k => l1_ValueOrders.f k l ls) ?_
 unfold l1_ValueOrders.f
 obtain ⟨hn, hst⟩ := cs_New.ok hl 90 (by omega) (by omega)
 rw [hn]
 simp only [Option.bind_some]
 obtain ⟨L, j, e, -, h1, h2⟩ := l1_rows.ok hst
 refine Ev.bind e ?_
 refine Ev.congr (fun k => if_pos (by show L.length < _; omega)) ?_
 have ok := made_ok hls h1 h2
 have hlen : (ls.take 8 ++ L).length ≤ 108 := by rw [List.length_append, List.length_take]; omega
 generalize ls.take 8 ++ L = M at ok hlen
 unfold l1_ValueOrders.h
 refine Ev.bind (v_Set.ev ok) ?_
 refine Ev.bind (l1_copies.ev ok) ?_
 refine Ev.congr (fun k => if_pos (by rw [List.length_reverse]; omega)) ?_
 have ok2 : OkR (M.reverse ++ M) := ⟨by rw [List.length_append, List.length_reverse]; omega, fun r hr => by
  rcases List.mem_append.1 hr with c | c
  ·exact ok.row r (List.mem_reverse.1 c)
  ·exact ok.row r c⟩
 unfold l1_ValueOrders.g
 refine Ev.bind l1_begun.ev ?_
 simp only [if_true]
 refine Ev.bind (v_Set.ev ok2) ?_
 refine Ev.bind (r1_Same.yes (setOf_eq fun v => by simp) ok2.set) ?_
 simp only [if_true]
 refine Ev.bind (l1_copies.ev ok.set) ?_
 refine Ev.bind (v_Set.ev ok.set.rev) ?_
 refine Ev.bind (r1_Same.yes (setOf_self fun v => List.mem_reverse) ok.set.rev.set) ?_
 simp only [if_true]
 refine Ev.bind (v_Set.ev ok.set) ?_
 exact Ev.bind (r1_Same.yes (setOf_self fun v => Iff.rfl) ok.set.set) (Ev.now _)
end Go.Proofs.Ytpjcdacnhalclaa.Q
namespace Go.Proofs.Ytpjcdacnhalclaa.valueOrders
open Go.ChangeShapes Go.WideShapes Go.ChangeAt Go.RowKit Go.Joins
open Go.ChangeMaps (open_string shut_string)
open Go.Proofs.YtpjcdacnhalclaaW.PrintWords Go.Proofs.YtpjcdacnhalclaaW.PrintLast Go.Proofs.YtpjcdacnhalclaaW.PrintMore
set_option maxRecDepth 100000 in
theorem lifted (os : Os) (started : os.Started) (H : Type) (enc : TypeId × Value → H) :
  ReturnsInHanded {} Try.checked os 10 .any (Rows.valueOrdersSpec.pre6 enc Try.prog Try.f10 Rows.valueOrdersRow.domain false) (Rows.valueOrdersSpec.post enc Try.prog Try.f10 false true false false) := by
 refine returnsInHanded_of_change_sized (C := Try.checked) Q.own started (by kernel_rfl) Try.func10
  (ChangeSpec.witness6 (enc := enc) (C := Try.checked) false ⟨#[], #[.slice none 0 0, .slice none 0 0], []⟩ 8 (by kernel_rfl) (by kernel_rfl) (by kernel_rfl) (by kernel_rfl)) ?_
 intro W base args ds gs before hval0 hW hcnd hsz0 _
 have hsz : (DataW.weightsEach Try.prog (Try.f10.params.toList ++ Rows.valueOrdersSpec.plain.varTypes Try.prog) (ds ++ gs)).all (· ≤ reachBytes) = true := hsz0
 have hval : ∀ (j : Nat) t v, Try.f10.params[j]? = some t → args[j]? = some v → Value.okWide Try.prog W .any base t v := hval0
 have hW' := hW
 obtain ⟨p, q, hA0, hV, rfl, hfz, hnd⟩ := hW
 have hA : DataW.TrodAll enc Try.prog W 0 (fun _ => true) true Try.f10.params.toList args.toList ds p := hA0
 rw [Try.params10] at hA hval hsz
 obtain ⟨v0, vs0, d0, ds0, p0, q0, hargs, rfl, rfl, h0, r0⟩ := trodAll_cons hA
 obtain ⟨v1, vs1, d1, ds1, p1, q1, rfl, rfl, rfl, h1, r1⟩ := trodAll_cons r0
 obtain ⟨rfl, rfl, rfl⟩ := trodAll_nil r1
 obtain rfl : args = #[v0, v1] := by cases args; simp_all
 obtain ⟨rfl, rfl⟩ := trodVars_none hV
 have k0 := h0
 have lt0 : ∀ x ∈ p0, x.block < W.heap.size := by obtain ⟨m, hm⟩ := k0; exact DataW.trod_lt m _ _ _ hm
 obtain ⟨a0, len0, cap0, rfl⟩ := okWide_slice Try.underlying22 (hval 0 22 v0 rfl rfl)
 obtain ⟨z0, w0⟩ : ∃ zs, Q.IsRow .u8 W a0 len0 cap0 zs := by
  obtain ⟨fuel, hf⟩ := h0
  rcases open_ints Try.underlying22 Try.underlying5 (by kernel_rfl) hf with ⟨hcs, _⟩ | ⟨x, l, c, zs, hcs, _, hl, hm, hz, _, hcell, hwz⟩
  ·simp [Value.cells] at hcs
   obtain ⟨rfl, rfl, rfl⟩ := hcs
   exact ⟨[], .inl ⟨rfl, rfl, rfl, rfl⟩⟩
  ·simp [Value.cells] at hcs
   obtain ⟨rfl, rfl, rfl⟩ := hcs
   exact ⟨zs, .inr ⟨_, rfl, hl, hm, by simpa using hz, hcell, hwz⟩⟩
 obtain ⟨l0, rfl, hr0, hm0, hw0, hc0⟩ := ReadsInt.ofRowC w0
 have k1 := h1
 have lt1 : ∀ x ∈ p1, x.block < W.heap.size := by obtain ⟨m, hm⟩ := k1; exact DataW.trod_lt m _ _ _ hm
 obtain ⟨a1, len1, cap1, rfl⟩ := okWide_slice Try.underlying55 (hval 1 55 v1 rfl rfl)
 obtain ⟨fu1, hf1⟩ := h1
 obtain ⟨A1, c1, l1, e1, hc1, hr1, hb1⟩ := Q.open_rows hf1 (fun n_ hn_ => (by have h_ := List.all_eq_true.1 hsz _ (DataW.weights_mem_each (j := 1) (t := 55) (d := d1) rfl rfl n_ hn_); simpa using h_ : n_ ≤ reachBytes))
 simp [Value.cells] at e1
 obtain ⟨rfl, rfl, rfl⟩ := e1
 clear hA0 hval0 hsz0 hsz
 obtain ⟨k, hk⟩ := Q.l1_ValueOrders.pure l0 (fun x hx => Q.wf_byte (hw0 x hx)) l1 (Kd.C_max hr1) hb1
 refine (Q.l1_ValueOrders.calls k _ _ l0 _ _ l1 true W (Kd.C_of_reads (d := (0 : Int)) (h1 := fun _ => rfl) hr0) hc0 hr1 hc1 hk ⟨rfl⟩).mono fun e W' ⟨he, bel⟩ => ?_
 subst he
 exact ⟨_, rfl, _, _, _, [], _, [], hW', trodAll_mk1 (shut_bool Try.underlying4 _), (trodAll_cons_mk (Below.trod Q.laidOut (by kernel_rfl) (of_decide_eq_true (by kernel_rfl)) k0 bel lt0) (trodAll_cons_mk (Below.trod Q.laidOut (by kernel_rfl) (of_decide_eq_true (by kernel_rfl)) k1 bel lt1) trodAll_mk0)), rfl, bel.frame _, fun h => by cases h⟩
theorem over : Rows.valueOrdersRow.holds Try.pinned (OpenSpec.ofChange Rows.valueOrdersSpec) :=
 OpenClaim.holds_of_wide 10 Try.f10 rfl rfl rfl rfl rfl rfl rfl ⟨rfl, rfl, rfl, rfl, rfl⟩ rfl rfl rfl rfl rfl (by kernel_rfl) Try.func10 (by kernel_rfl)
  (of_decide_eq_true (by kernel_rfl)) (by unfold Func.isWrapper; first | (rw [if_pos (by decide +kernel)]; kernel_rfl) | (rw [if_neg (by decide +kernel)]; exact ⟨rfl, rfl⟩))
  (fun os started H enc _ => lifted os started H enc)
theorem proved : Rows.ValueOrdersSaid := over
end Go.Proofs.Ytpjcdacnhalclaa.valueOrders
namespace Go.Proofs.Ytpjcdacnhalclaa
theorem valueOrders_holds : Rows.ValueOrdersSaid := valueOrders.proved
#print axioms valueOrders_holds
end Go.Proofs.Ytpjcdacnhalclaa
