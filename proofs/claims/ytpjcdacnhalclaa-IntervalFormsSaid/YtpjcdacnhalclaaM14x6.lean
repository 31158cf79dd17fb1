/- A part of a proof: facts of functions that the law calls; conditions stand in each. -/
import Derived.Test.YtpjcdacnhalclaaM14x3
import Derived.Test.YtpjcdacnhalclaaM14x5
set_option linter.unusedVariables false
set_option linter.unusedSimpArgs false
namespace Go.Proofs.Ytpjcdacnhalclaa.Q
open Go.RowKit Go.Proofs.YtpjcdacnhalclaaW.PrintWords Go.Proofs.YtpjcdacnhalclaaW.PrintLast Go.Proofs.YtpjcdacnhalclaaW.PrintMore
attribute [local go_sem] max2_int min2_int max_two min_two max_three min_three max_four min_four
attribute [local go_sem high] eqA24
mutual
def i_Valid.l0 : Nat → List (S65) → List (S65) → Int → Int → Option (Bool)
 | 0, _, _, _, _ => none
 | k + 1, x0, x8, x9, x10 => if x10 < x9 then (if 0 ≤ x10 then (if x10 < (x8.length : Int) then ((v_Valid.f k ((rd_T65 x8 x10).f0.f0) ((rd_T65 x8 x10).f0.f1) ((rd_T65 x8 x10).f0.f2)).bind fun t494 => (if t494 = true then (if (rd_T65 x8 x10).f2 = true then (if x10 < (wrap64 ((x0.length : Int) - 1)) then (some false) else (if (!(((rd_T65 x8 x10).f1.f0) == 0) || (!(((rd_T65 x8 x10).f1.f1) == 0) || (!((((rd_T65 x8 x10).f1.f2).toList) == ([] : List UInt8))))) = true then (some false) else (i_Valid.l0 k x0 x8 x9 (wrap64 (x10 + 1))))) else ((v_Valid.f k ((rd_T65 x8 x10).f1.f0) ((rd_T65 x8 x10).f1.f1) ((rd_T65 x8 x10).f1.f2)).bind fun t495 => (if t495 = true then ((v_Compare.f ((rd_T65 x8 x10).f0.f0) ((rd_T65 x8 x10).f0.f1) ((rd_T65 x8 x10).f0.f2) ((rd_T65 x8 x10).f1.f0) ((rd_T65 x8 x10).f1.f1) ((rd_T65 x8 x10).f1.f2)).bind fun t496 => (i_Valid.j1 k x0 x10 x8 x9 x10 (decide (t496 ≥ 0)) ((rd_T65 x8 x10).f0.f0) ((rd_T65 x8 x10).f0.f1) ((rd_T65 x8 x10).f0.f2) ((rd_T65 x8 x10).f1.f0) ((rd_T65 x8 x10).f1.f1) ((rd_T65 x8 x10).f1.f2) ((rd_T65 x8 x10).f2))) else (i_Valid.j1 k x0 x10 x8 x9 x10 true ((rd_T65 x8 x10).f0.f0) ((rd_T65 x8 x10).f0.f1) ((rd_T65 x8 x10).f0.f2) ((rd_T65 x8 x10).f1.f0) ((rd_T65 x8 x10).f1.f1) ((rd_T65 x8 x10).f1.f2) ((rd_T65 x8 x10).f2))))) else (some false))) else (none)) else (none)) else (some true)
def i_Valid.j1 : Nat → List (S65) → Int → List (S65) → Int → Int → Bool → Int → Int → ByteArray → Int → Int → ByteArray → Bool → Option (Bool)
 | 0, _, _, _, _, _, _, _, _, _, _, _, _, _ => none
 | k + 1, x0, x3, x8, x9, x10, x43, x494000, x494001, x494002, x494003, x494004, x494005, x494006 => if x43 = true then (some false) else (if x3 < (wrap64 ((x0.length : Int) - 1)) then (if 0 ≤ (wrap64 (x3 + 1)) then (if (wrap64 (x3 + 1)) < (x0.length : Int) then ((v_Compare.f x494003 x494004 x494005 ((rd_T65 x0 (wrap64 (x3 + 1))).f0.f0) ((rd_T65 x0 (wrap64 (x3 + 1))).f0.f1) ((rd_T65 x0 (wrap64 (x3 + 1))).f0.f2)).bind fun t498 => (if t498 ≥ 0 then (some false) else (i_Valid.l0 k x0 x8 x9 (wrap64 (x10 + 1))))) else (none)) else (none)) else (i_Valid.l0 k x0 x8 x9 (wrap64 (x10 + 1))))
end
def i_Valid.f (k : Nat) (l0 : List (S65)) : Option (Bool) := if (l0.length : Int) > 64 then (some false) else (i_Valid.l0 k l0 l0 (l0.length : Int) 0)
theorem i_Valid.mono_l : ∀ k, (∀ y0 y1 y2 y3, LeO (i_Valid.l0 k y0 y1 y2 y3) (i_Valid.l0 (k + 1) y0 y1 y2 y3)) ∧ (∀ y0 y1 y2 y3 y4 y5 y6 y7 y8 y9 y10 y11 y12, LeO (i_Valid.j1 k y0 y1 y2 y3 y4 y5 y6 y7 y8 y9 y10 y11 y12) (i_Valid.j1 (k + 1) y0 y1 y2 y3 y4 y5 y6 y7 y8 y9 y10 y11 y12))
 | 0 => ⟨fun _ _ _ _ r h => by simp [i_Valid.l0] at h, fun _ _ _ _ _ _ _ _ _ _ _ _ _ r h => by simp [i_Valid.j1] at h⟩
 | k + 1 => by
  obtain ⟨ih0, ih1⟩ := i_Valid.mono_l k
  refine ⟨?_, ?_⟩
  ·intro y0 y1 y2 y3
   unfold i_Valid.l0
   repeat' first
   | (with_reducible exact ih0 _ _ _ _)
   | (with_reducible exact ih1 _ _ _ _ _ _ _ _ _ _ _ _ _)
   | (with_reducible exact v_Valid.mono _ _ _ _)
   | (with_reducible exact LeO.refl _)
   | (with_reducible exact LeO.none _)
   | (with_reducible refine LeO.ite ?_ ?_)
   | (with_reducible refine LeO.bind ?_ (fun _ => ?_))
   | exact ih0 _ _ _ _
   | exact ih1 _ _ _ _ _ _ _ _ _ _ _ _ _
   | exact v_Valid.mono _ _ _ _
   | exact LeO.none _
   | refine LeO.ite ?_ ?_
   | refine LeO.bind ?_ (fun _ => ?_)
  ·intro y0 y1 y2 y3 y4 y5 y6 y7 y8 y9 y10 y11 y12
   unfold i_Valid.j1
   repeat' first
   | (with_reducible exact ih0 _ _ _ _)
   | (with_reducible exact ih1 _ _ _ _ _ _ _ _ _ _ _ _ _)
   | (with_reducible exact v_Valid.mono _ _ _ _)
   | (with_reducible exact LeO.refl _)
   | (with_reducible exact LeO.none _)
   | (with_reducible refine LeO.ite ?_ ?_)
   | (with_reducible refine LeO.bind ?_ (fun _ => ?_))
   | exact ih0 _ _ _ _
   | exact ih1 _ _ _ _ _ _ _ _ _ _ _ _ _
   | exact v_Valid.mono _ _ _ _
   | exact LeO.none _
   | refine LeO.ite ?_ ?_
   | refine LeO.bind ?_ (fun _ => ?_)
theorem i_Valid.mono : ∀ a0 k, LeO (i_Valid.f k a0) (i_Valid.f (k + 1) a0) := by
 intro a0 k
 obtain ⟨ih0, ih1⟩ := i_Valid.mono_l k
 unfold i_Valid.f
 repeat' first
   | (with_reducible exact ih0 _ _ _ _)
   | (with_reducible exact ih1 _ _ _ _ _ _ _ _ _ _ _ _ _)
   | (with_reducible exact v_Valid.mono _ _ _ _)
   | (with_reducible exact LeO.refl _)
   | (with_reducible exact LeO.none _)
   | (with_reducible refine LeO.ite ?_ ?_)
   | (with_reducible refine LeO.bind ?_ (fun _ => ?_))
   | exact ih0 _ _ _ _
   | exact ih1 _ _ _ _ _ _ _ _ _ _ _ _ _
   | exact v_Valid.mono _ _ _ _
   | exact LeO.none _
   | refine LeO.ite ?_ ?_
   | refine LeO.bind ?_ (fun _ => ?_)
def i_Valid.T13 : Bool × List (List Nat × List Nat) := (true, [([], []), ([], []), ([1], [1]), ([2], [2]), ([0, 3], [0, 3]), ([4], [4]), ([5], [5]), ([6, 5], [5, 6]), ([5], [5]), ([5], [5]), ([9, 5], [5, 9]), ([8, 10, 5], [5, 8, 10]), ([11, 5], [5, 11]), ([12, 5], [5, 12]), ([7, 13, 5, 5], [5, 7, 13]), ([14, 5], [5, 14]), ([5, 15], [5, 15])])
def i_Valid.B13 : List Nat := [0, 0, 2, 6, 15, 31, 63, 127, 63, 63, 575, 1855, 3903, 7999, 16383, 32767, 65535]
theorem i_Valid.tab13 : rtab .any (opsOf Try.f37 13) = i_Valid.T13 := by kernel_rfl
theorem i_Valid.bits13 : waitsOk i_Valid.T13.2 i_Valid.B13 = true := by kernel_rfl
set_option maxHeartbeats 8000000 in
set_option maxRecDepth 100000 in
theorem i_Valid.calls (k : Nat) (A0 : Option Addr) (c0 : Nat) (l0 : List (S65)) (r : Bool) (w : World) (hr0 : Kd.C k65 w A0 l0.length l0) (hc0 : l0.length ≤ c0) (h : i_Valid.f k l0 = some r) :
  Calls Try.prog 37 #[.slice A0 l0.length c0] w fun e w' => e = .returned (.bool r) ∧ Below w.heap.size w w' := by
 have hu65 := Try.underlying65
 have hu24 := Try.underlying24
 have HR0 := Aside0.mk hr0
 have HC0 := Aside0.mk hc0
 clear hr0 hc0
 have HB := aK (Below.refl w.heap.size w)
 have H : (if (l0.length : Int) > 64 then (some false) else (i_Valid.l0 k l0 l0 (l0.length : Int) 0)) = some r := h
 clear h
 by_cases c2 : (l0.length : Int) > 64
 rotate_left
 ·rw [if_neg c2] at H
  have c2b0 : decide (64 < (l0.length : Int)) = false := decide_eq_false c2
  have c2b1 : decide (64 < l0.length) = false := decide_eq_false (by omega)
  clear c2
  have H' := Aside0.mk H
  clear H
  go_enter Try.func37, Try.ntmps37
  go_wp2
  go_loopg [10] k (fun kq v10 w' => ∃ (x10_1 : Int), v10 = .int .i64 x10_1 ∧ Aside0 (i_Valid.l0 kq l0 l0 (l0.length : Int) x10_1 = some r) ∧ Aside0 (kq ≤ k) ∧ Aside0 (Below w.heap.size w w'))
  case atStart => exact ⟨(0), (by first | rfl | (simp; done) | (simp [*]; done)), H', ⟨Nat.le_refl _⟩, ⟨bO⟩⟩
  case round =>
   clear H'
   try clear c2
   try clear c2b0
   try clear c2b1
   try clear p2
   obtain ⟨x10_1, rfl, HA, HK1, HB⟩ := hrel
   cases gk with
   | zero => exact absurd HA.out (by simp [i_Valid.l0])
   | succ k1 =>
    have H := HA.out
    clear HA
    simp only [i_Valid.l0] at H
    by_cases c3 : x10_1 < (l0.length : Int)
    rotate_left
    ·rw [if_neg c3] at H
     have c3b0 : decide (x10_1 < (l0.length : Int)) = false := decide_eq_false c3
     clear c3
     obtain rfl := Option.some.inj H
     go_wp2
     go_ret
     exact ⟨eW, bO⟩
    rw [if_pos c3] at H
    have c3b0 : decide (x10_1 < (l0.length : Int)) = true := decide_eq_true c3
    clear c3
    by_cases c4 : 0 ≤ x10_1
    rotate_left
    ·rw [if_neg c4] at H
     exact absurd H (by simp)
    rw [if_pos c4] at H
    have c4b0 : decide (0 ≤ x10_1) = true := decide_eq_true c4
    clear c4
    by_cases c5 : x10_1 < (l0.length : Int)
    rotate_left
    ·rw [if_neg c5] at H
     exact absurd H (by simp)
    rw [if_pos c5] at H
    have c5b0 : decide (x10_1 < (l0.length : Int)) = true := decide_eq_true c5
    clear c5
    obtain ⟨t494, A6, H⟩ := oB H
    try dsimp only at H
    by_cases c7 : t494 = true
    rotate_left
    ·replace c7 := Bool.eq_false_iff.mpr c7
     subst c7
     rw [if_neg (show ¬ (false = true) by decide)] at H
     obtain rfl := Option.some.inj H
     have p492 : 0 ≤ (x10_1 : Int) := of_decide_eq_true (aA)
     have q492 : x10_1 < (l0.length : Int) := of_decide_eq_true (aA)
     obtain ⟨ad492, e492, hx492_0, hx492_1, hx492_2, hx492_3, hx492_4, hx492_5, hx492_6⟩ := at_T65 HR0.out x10_1 p492 q492
     cases e492
     replace hx492_0 := hW HB.out hx492_0
     replace hx492_1 := hW HB.out hx492_1
     replace hx492_2 := hW HB.out hx492_2
     replace hx492_3 := hW HB.out hx492_3
     replace hx492_4 := hW HB.out hx492_4
     replace hx492_5 := hW HB.out hx492_5
     replace hx492_6 := hW HB.out hx492_6
     replace p492 := eq_true p492
     replace q492 := eq_true q492
     go_wp2_with (first | ((with_reducible refine gate_dst (N := 4) rfl ?_); refine box_event ?hg (N := 4) ?hd (cs := #[.int .i64 0, .int .i64 0, .string (⟨#[]⟩ : ByteArray), .int .i64 0, .int .i64 0, .string (⟨#[]⟩ : ByteArray), .bool false]) (t := 65) ?hr ?_; (case hd => rfl); (case hg => rfl); (case hr => exact hR); intro gb493 hg w50 hbox hb; have n0_ := aK (below_step bO hb); have n1_ := aK (hbox); have n2_ := aK ((by rw [hg]; exact (below_size bO) : w.heap.size ≤ gb493)); have n3_ := aK ((by rw [hg]; exact (below_size bO) : w.heap.size ≤ gb493)); clear HB; have HB := n0_; have BK493 := n1_; have GW493 := n2_; have GE493 := n3_; clear n0_ n1_ n2_ n3_ hb hbox hg; obtain ⟨hcz51_0, hcz51_1, hcz51_2, hcz51_3, hcz51_4, hcz51_5, hcz51_6⟩ := z7 BK493.out (.int .i64 0) (.int .i64 0) (.string (⟨#[]⟩ : ByteArray)) (.int .i64 0) (.int .i64 0) (.string (⟨#[]⟩ : ByteArray)) (.bool false); obtain ⟨hfz51_0, hfz51_1, hfz51_2, hfz51_3, hfz51_4, hfz51_5, hfz51_6⟩ := f7 BK493.out) | ((with_reducible refine gate_callee (f := 21) rfl ?_); refine gL (some 17) rfl Try.func21 #[.agg #[.int .i64 ((rd_T65 l0 x10_1).f0.f0), .int .i64 ((rd_T65 l0 x10_1).f0.f1), .string ((rd_T65 l0 x10_1).f0.f2)]] rfl ?_; (with_reducible refine (v_Valid.calls k1 ((rd_T65 l0 x10_1).f0.f0) ((rd_T65 l0 x10_1).f0.f1) ((rd_T65 l0 x10_1).f0.f2) false _ A6.out).mono ?_); rintro e w52 ⟨rfl, hb⟩; refine ⟨_, rfl, ?_⟩; have n0_ := aK (blk_below (g := gb493) (o := .cells #[.int .i64 ((rd_T65 l0 x10_1).f0.f0), .int .i64 ((rd_T65 l0 x10_1).f0.f1), .string ((rd_T65 l0 x10_1).f0.f2), .int .i64 ((rd_T65 l0 x10_1).f1.f0), .int .i64 ((rd_T65 l0 x10_1).f1.f1), .string ((rd_T65 l0 x10_1).f1.f2), .bool ((rd_T65 l0 x10_1).f2)] 65 (0, 0)) (put7 BK493.out) hb); have n1_ := aK (below_step (bS GE493.out) hb); clear BK493 HB; have BK493 := n0_; have HB := n1_; clear n0_ n1_; (try clear hb)))
     go_ret
     exact ⟨eW, bS GE493.out⟩
    subst c7
    rw [if_pos rfl] at H
    obtain ⟨bq8, hbq8⟩ : ∃ b_ : Bool, b_ = ((rd_T65 l0 x10_1).f2) := ⟨_, rfl⟩
    replace H : (if bq8 = true then (if x10_1 < (wrap64 ((l0.length : Int) - 1)) then (some false) else (if (!(((rd_T65 l0 x10_1).f1.f0) == 0) || (!(((rd_T65 l0 x10_1).f1.f1) == 0) || (!((((rd_T65 l0 x10_1).f1.f2).toList) == ([] : List UInt8))))) = true then (some false) else (i_Valid.l0 k1 l0 l0 (l0.length : Int) (wrap64 (x10_1 + 1))))) else ((v_Valid.f k1 ((rd_T65 l0 x10_1).f1.f0) ((rd_T65 l0 x10_1).f1.f1) ((rd_T65 l0 x10_1).f1.f2)).bind fun t495 => (if t495 = true then ((v_Compare.f ((rd_T65 l0 x10_1).f0.f0) ((rd_T65 l0 x10_1).f0.f1) ((rd_T65 l0 x10_1).f0.f2) ((rd_T65 l0 x10_1).f1.f0) ((rd_T65 l0 x10_1).f1.f1) ((rd_T65 l0 x10_1).f1.f2)).bind fun t496 => (i_Valid.j1 k1 l0 x10_1 l0 (l0.length : Int) x10_1 (decide (t496 ≥ 0)) ((rd_T65 l0 x10_1).f0.f0) ((rd_T65 l0 x10_1).f0.f1) ((rd_T65 l0 x10_1).f0.f2) ((rd_T65 l0 x10_1).f1.f0) ((rd_T65 l0 x10_1).f1.f1) ((rd_T65 l0 x10_1).f1.f2) bq8)) else (i_Valid.j1 k1 l0 x10_1 l0 (l0.length : Int) x10_1 true ((rd_T65 l0 x10_1).f0.f0) ((rd_T65 l0 x10_1).f0.f1) ((rd_T65 l0 x10_1).f0.f2) ((rd_T65 l0 x10_1).f1.f0) ((rd_T65 l0 x10_1).f1.f1) ((rd_T65 l0 x10_1).f1.f2) bq8)))) = some r := by rw [← hbq8] at H; exact H
    have Nbq8 := Aside0.mk hbq8
    clear hbq8
    by_cases c9 : bq8 = true
    rotate_left
    ·replace c9 := Bool.eq_false_iff.mpr c9
     subst c9
     rw [if_neg (show ¬ (false = true) by decide)] at H
     have HC24 := Aside0.mk H
     clear H
     have p492 : 0 ≤ (x10_1 : Int) := of_decide_eq_true (aA)
     have q492 : x10_1 < (l0.length : Int) := of_decide_eq_true (aA)
     obtain ⟨ad492, e492, hx492_0, hx492_1, hx492_2, hx492_3, hx492_4, hx492_5, hx492_6⟩ := at_T65 HR0.out x10_1 p492 q492
     (try rw [← Nbq8.out] at hx492_6)
     cases e492
     replace hx492_0 := hW HB.out hx492_0
     replace hx492_1 := hW HB.out hx492_1
     replace hx492_2 := hW HB.out hx492_2
     replace hx492_3 := hW HB.out hx492_3
     replace hx492_4 := hW HB.out hx492_4
     replace hx492_5 := hW HB.out hx492_5
     replace hx492_6 := hW HB.out hx492_6
     replace p492 := eq_true p492
     replace q492 := eq_true q492
     go_upto_region 11 with (first | ((with_reducible refine gate_dst (N := 4) rfl ?_); refine box_event ?hg (N := 4) ?hd (cs := #[.int .i64 0, .int .i64 0, .string (⟨#[]⟩ : ByteArray), .int .i64 0, .int .i64 0, .string (⟨#[]⟩ : ByteArray), .bool false]) (t := 65) ?hr ?_; (case hd => rfl); (case hg => rfl); (case hr => exact hR); intro gb493 hg w25 hbox hb; have n0_ := aK (below_step bO hb); have n1_ := aK (hbox); have n2_ := aK ((by rw [hg]; exact (below_size bO) : w.heap.size ≤ gb493)); have n3_ := aK ((by rw [hg]; exact (below_size bO) : w.heap.size ≤ gb493)); clear HB; have HB := n0_; have BK493 := n1_; have GW493 := n2_; have GE493 := n3_; clear n0_ n1_ n2_ n3_ hb hbox hg; obtain ⟨hcz26_0, hcz26_1, hcz26_2, hcz26_3, hcz26_4, hcz26_5, hcz26_6⟩ := z7 BK493.out (.int .i64 0) (.int .i64 0) (.string (⟨#[]⟩ : ByteArray)) (.int .i64 0) (.int .i64 0) (.string (⟨#[]⟩ : ByteArray)) (.bool false); obtain ⟨hfz26_0, hfz26_1, hfz26_2, hfz26_3, hfz26_4, hfz26_5, hfz26_6⟩ := f7 BK493.out) | ((with_reducible refine gate_callee (f := 21) rfl ?_); refine gL (some 17) rfl Try.func21 #[.agg #[.int .i64 ((rd_T65 l0 x10_1).f0.f0), .int .i64 ((rd_T65 l0 x10_1).f0.f1), .string ((rd_T65 l0 x10_1).f0.f2)]] rfl ?_; (with_reducible refine (v_Valid.calls k1 ((rd_T65 l0 x10_1).f0.f0) ((rd_T65 l0 x10_1).f0.f1) ((rd_T65 l0 x10_1).f0.f2) true _ A6.out).mono ?_); rintro e w27 ⟨rfl, hb⟩; refine ⟨_, rfl, ?_⟩; have n0_ := aK (blk_below (g := gb493) (o := .cells #[.int .i64 ((rd_T65 l0 x10_1).f0.f0), .int .i64 ((rd_T65 l0 x10_1).f0.f1), .string ((rd_T65 l0 x10_1).f0.f2), .int .i64 ((rd_T65 l0 x10_1).f1.f0), .int .i64 ((rd_T65 l0 x10_1).f1.f1), .string ((rd_T65 l0 x10_1).f1.f2), .bool false] 65 (0, 0)) (put7 BK493.out) hb); have n1_ := aK (below_step (bS GE493.out) hb); clear BK493 HB; have BK493 := n0_; have HB := n1_; clear n0_ n1_; (try clear hb); obtain ⟨hcz28_0, hcz28_1, hcz28_2, hcz28_3, hcz28_4, hcz28_5, hcz28_6⟩ := z7 BK493.out (.int .i64 ((rd_T65 l0 x10_1).f0.f0)) (.int .i64 ((rd_T65 l0 x10_1).f0.f1)) (.string ((rd_T65 l0 x10_1).f0.f2)) (.int .i64 ((rd_T65 l0 x10_1).f1.f0)) (.int .i64 ((rd_T65 l0 x10_1).f1.f1)) (.string ((rd_T65 l0 x10_1).f1.f2)) (.bool false); obtain ⟨hfz28_0, hfz28_1, hfz28_2, hfz28_3, hfz28_4, hfz28_5, hfz28_6⟩ := f7 BK493.out))
     (try simp only [Act.put, List.setIfInBounds_toArray, List.set_cons_zero, List.set_cons_succ])
     go_cut [43] (fun v43 wc => ∃ (kq : Nat) (x43_23 : Bool), v43 = .bool x43_23 ∧ Aside0 (i_Valid.j1 kq l0 x10_1 l0 (l0.length : Int) x10_1 x43_23 ((rd_T65 l0 x10_1).f0.f0) ((rd_T65 l0 x10_1).f0.f1) ((rd_T65 l0 x10_1).f0.f2) ((rd_T65 l0 x10_1).f1.f0) ((rd_T65 l0 x10_1).f1.f1) ((rd_T65 l0 x10_1).f1.f2) false = some r) ∧ Aside0 (kq ≤ k1) ∧ Aside0 (wc.heap[gb493]? = some (.cells #[.int .i64 ((rd_T65 l0 x10_1).f0.f0), .int .i64 ((rd_T65 l0 x10_1).f0.f1), .string ((rd_T65 l0 x10_1).f0.f2), .int .i64 ((rd_T65 l0 x10_1).f1.f0), .int .i64 ((rd_T65 l0 x10_1).f1.f1), .string ((rd_T65 l0 x10_1).f1.f2), .bool false] 65 (0, 0))) ∧ Aside0 (Below w.heap.size w wc))
     case first =>
      have H := HC24.out
      clear HC24
      obtain ⟨t495, A29, H⟩ := oB H
      try dsimp only at H
      by_cases c30 : t495 = true
      rotate_left
      ·replace c30 := Bool.eq_false_iff.mpr c30
       subst c30
       rw [if_neg (show ¬ (false = true) by decide)] at H
       have H' := Aside0.mk H
       clear H
       obtain ⟨hcz36_0, hcz36_1, hcz36_2, hcz36_3, hcz36_4, hcz36_5, hcz36_6⟩ := z7 BK493.out (.int .i64 ((rd_T65 l0 x10_1).f0.f0)) (.int .i64 ((rd_T65 l0 x10_1).f0.f1)) (.string ((rd_T65 l0 x10_1).f0.f2)) (.int .i64 ((rd_T65 l0 x10_1).f1.f0)) (.int .i64 ((rd_T65 l0 x10_1).f1.f1)) (.string ((rd_T65 l0 x10_1).f1.f2)) (.bool false)
       obtain ⟨hfz36_0, hfz36_1, hfz36_2, hfz36_3, hfz36_4, hfz36_5, hfz36_6⟩ := f7 BK493.out
       go_wp2_with (first | ((with_reducible refine gate_callee (f := 21) rfl ?_); refine gL (some 34) rfl Try.func21 #[.agg #[.int .i64 ((rd_T65 l0 x10_1).f1.f0), .int .i64 ((rd_T65 l0 x10_1).f1.f1), .string ((rd_T65 l0 x10_1).f1.f2)]] rfl ?_; (with_reducible refine (v_Valid.calls k1 ((rd_T65 l0 x10_1).f1.f0) ((rd_T65 l0 x10_1).f1.f1) ((rd_T65 l0 x10_1).f1.f2) false _ A29.out).mono ?_); rintro e w37 ⟨rfl, hb⟩; refine ⟨_, rfl, ?_⟩; have n0_ := aK (blk_below (bX BK493.out) hb); have n1_ := aK (below_step (bS GE493.out) hb); clear BK493 HB; have BK493 := n0_; have HB := n1_; clear n0_ n1_; (try clear hb)))
       go_meet
       case rel => exact ⟨_, (true), (by first | rfl | (simp; done) | (simp [*]; done)), H', ⟨by have := HK1.out; first | omega | exact Nat.le_refl _⟩, ⟨bX BK493.out⟩, ⟨bS GE493.out⟩⟩
      subst c30
      rw [if_pos rfl] at H
      obtain ⟨t496, A31, H⟩ := oB H
      try dsimp only at H
      have H' := Aside0.mk H
      clear H
      obtain ⟨hcz32_0, hcz32_1, hcz32_2, hcz32_3, hcz32_4, hcz32_5, hcz32_6⟩ := z7 BK493.out (.int .i64 ((rd_T65 l0 x10_1).f0.f0)) (.int .i64 ((rd_T65 l0 x10_1).f0.f1)) (.string ((rd_T65 l0 x10_1).f0.f2)) (.int .i64 ((rd_T65 l0 x10_1).f1.f0)) (.int .i64 ((rd_T65 l0 x10_1).f1.f1)) (.string ((rd_T65 l0 x10_1).f1.f2)) (.bool false)
      obtain ⟨hfz32_0, hfz32_1, hfz32_2, hfz32_3, hfz32_4, hfz32_5, hfz32_6⟩ := f7 BK493.out
      go_wp2_with (first | ((with_reducible refine gate_callee (f := 21) rfl ?_); refine gL (some 34) rfl Try.func21 #[.agg #[.int .i64 ((rd_T65 l0 x10_1).f1.f0), .int .i64 ((rd_T65 l0 x10_1).f1.f1), .string ((rd_T65 l0 x10_1).f1.f2)]] rfl ?_; (with_reducible refine (v_Valid.calls k1 ((rd_T65 l0 x10_1).f1.f0) ((rd_T65 l0 x10_1).f1.f1) ((rd_T65 l0 x10_1).f1.f2) true _ A29.out).mono ?_); rintro e w33 ⟨rfl, hb⟩; refine ⟨_, rfl, ?_⟩; have n0_ := aK (blk_below (bX BK493.out) hb); have n1_ := aK (below_step (bS GE493.out) hb); clear BK493 HB; have BK493 := n0_; have HB := n1_; clear n0_ n1_; (try clear hb); obtain ⟨hcz34_0, hcz34_1, hcz34_2, hcz34_3, hcz34_4, hcz34_5, hcz34_6⟩ := z7 BK493.out (.int .i64 ((rd_T65 l0 x10_1).f0.f0)) (.int .i64 ((rd_T65 l0 x10_1).f0.f1)) (.string ((rd_T65 l0 x10_1).f0.f2)) (.int .i64 ((rd_T65 l0 x10_1).f1.f0)) (.int .i64 ((rd_T65 l0 x10_1).f1.f1)) (.string ((rd_T65 l0 x10_1).f1.f2)) (.bool false); obtain ⟨hfz34_0, hfz34_1, hfz34_2, hfz34_3, hfz34_4, hfz34_5, hfz34_6⟩ := f7 BK493.out) | (go_at_call 25; (with_reducible refine (v_Compare.calls ((rd_T65 l0 x10_1).f0.f0) ((rd_T65 l0 x10_1).f0.f1) ((rd_T65 l0 x10_1).f0.f2) ((rd_T65 l0 x10_1).f1.f0) ((rd_T65 l0 x10_1).f1.f1) ((rd_T65 l0 x10_1).f1.f2) t496 _ A31.out).mono ?_); rintro e w35 ⟨rfl, hb⟩; have n0_ := aK (blk_below (bX BK493.out) hb); have n1_ := aK (below_step (bS GE493.out) hb); clear BK493 HB; have BK493 := n0_; have HB := n1_; clear n0_ n1_; (try clear hb)))
      go_meet
      case rel => exact ⟨_, (decide (t496 ≥ 0)), (by first | rfl | (simp; done) | (simp [*]; done)), H', ⟨by have := HK1.out; first | omega | exact Nat.le_refl _⟩, ⟨bX BK493.out⟩, ⟨bS GE493.out⟩⟩
     case rest =>
      clear HC24
      try clear c1
      try clear c2
      try clear c2b0
      try clear c2b1
      try clear p2
      try clear c3
      try clear c3b0
      try clear c4
      try clear c4b0
      try clear p4
      try clear q4
      try clear hx4
      try clear c5
      try clear c5b0
      try clear p6
      try clear c7
      try clear q8
      try clear c9
      try clear c10
      try clear c10b0
      try clear c15
      try clear c15b0
      try clear c21
      try clear c30
      try clear c37
      try clear hcz12_0 hcz12_1 hcz12_2 hcz12_3 hcz12_4 hcz12_5 hcz12_6
      try clear hcz14_0 hcz14_1 hcz14_2 hcz14_3 hcz14_4 hcz14_5 hcz14_6
      try clear hcz17_0 hcz17_1 hcz17_2 hcz17_3 hcz17_4 hcz17_5 hcz17_6
      try clear hcz19_0 hcz19_1 hcz19_2 hcz19_3 hcz19_4 hcz19_5 hcz19_6
      try clear hcz21_0 hcz21_1 hcz21_2 hcz21_3 hcz21_4 hcz21_5 hcz21_6
      try clear hcz23_0 hcz23_1 hcz23_2 hcz23_3 hcz23_4 hcz23_5 hcz23_6
      try clear hcz26_0 hcz26_1 hcz26_2 hcz26_3 hcz26_4 hcz26_5 hcz26_6
      try clear hcz28_0 hcz28_1 hcz28_2 hcz28_3 hcz28_4 hcz28_5 hcz28_6
      try clear hcz32_0 hcz32_1 hcz32_2 hcz32_3 hcz32_4 hcz32_5 hcz32_6
      try clear hcz34_0 hcz34_1 hcz34_2 hcz34_3 hcz34_4 hcz34_5 hcz34_6
      try clear hcz36_0 hcz36_1 hcz36_2 hcz36_3 hcz36_4 hcz36_5 hcz36_6
      try clear hfz12_0 hfz12_1 hfz12_2 hfz12_3 hfz12_4 hfz12_5 hfz12_6
      try clear hfz14_0 hfz14_1 hfz14_2 hfz14_3 hfz14_4 hfz14_5 hfz14_6
      try clear hfz17_0 hfz17_1 hfz17_2 hfz17_3 hfz17_4 hfz17_5 hfz17_6
      try clear hfz19_0 hfz19_1 hfz19_2 hfz19_3 hfz19_4 hfz19_5 hfz19_6
      try clear hfz21_0 hfz21_1 hfz21_2 hfz21_3 hfz21_4 hfz21_5 hfz21_6
      try clear hfz23_0 hfz23_1 hfz23_2 hfz23_3 hfz23_4 hfz23_5 hfz23_6
      try clear hfz26_0 hfz26_1 hfz26_2 hfz26_3 hfz26_4 hfz26_5 hfz26_6
      try clear hfz28_0 hfz28_1 hfz28_2 hfz28_3 hfz28_4 hfz28_5 hfz28_6
      try clear hfz32_0 hfz32_1 hfz32_2 hfz32_3 hfz32_4 hfz32_5 hfz32_6
      try clear hfz34_0 hfz34_1 hfz34_2 hfz34_3 hfz34_4 hfz34_5 hfz34_6
      try clear hfz36_0 hfz36_1 hfz36_2 hfz36_3 hfz36_4 hfz36_5 hfz36_6
      try clear hx492_0
      try clear hx492_1
      try clear hx492_2
      try clear hx492_3
      try clear hx492_4
      try clear hx492_5
      try clear hx492_6
      try clear p2
      try clear p492
      try clear q492
      obtain ⟨kq, x43_23, rfl, HA, HJ23, BK493, HB⟩ := hcut
      cases kq with
      | zero => exact absurd HA.out (by simp [i_Valid.j1])
      | succ kj23 =>
       have H := HA.out
       clear HA
       simp only [i_Valid.j1] at H
       by_cases c38 : x43_23 = true
       rotate_left
       ·replace c38 := Bool.eq_false_iff.mpr c38
        subst c38
        rw [if_neg (show ¬ (false = true) by decide)] at H
        by_cases c39 : x10_1 < (wrap64 ((l0.length : Int) - 1))
        rotate_left
        ·rw [if_neg c39] at H
         have c39b0 : decide (x10_1 < (wrap64 ((l0.length : Int) - 1))) = false := decide_eq_false c39
         clear c39
         have H' := Aside0.mk H
         clear H
         try go_wp2
         have n0_ := aK (blk_drew BK493.out)
         have n1_ := aK (below_drew1 HB.out)
         clear BK493
         clear HB
         have BK493 := n0_
         have HB := n1_
         clear n0_ n1_
         refine start_ (n := 17) (S := fun w' => True) (ds := []) #[false, false, false, false, false, false, false, false, false, false, false, false, false, false, false, false, false] (by kernel_rfl) rfl rfl trivial (fun hHeld => ?_); refine with_tabW i_Valid.tab13 i_Valid.bits13 (fun HT_ HW_ => ?_)
         generalize wc.drew = w49 at BK493 HB hHeld ⊢
         refine pY (i := 0) (N := some 44) (tf 1 16) rfl rfl HT_.out ?_
         refine pY (i := 1) (N := some 45) (tf 2 15) rfl rfl HT_.out ?_
         refine pY (i := 2) (N := some 46) (tf 3 14) rfl rfl HT_.out ?_
         refine pY (i := 3) (N := some 47) (tf 4 13) rfl rfl HT_.out ?_
         refine pY (i := 4) (N := some 48) (tf 5 12) rfl rfl HT_.out ?_
         refine pY (i := 5) (N := some 49) (tf 6 11) rfl rfl HT_.out ?_
         refine pure_ (i := 6) (N := some 50) (v := undef) (a' := ?_) (tf 7 10) rfl rfl (any_of HT_.out (by kernel_rfl)) (fun _ _ _ h => h) (Or.inr ⟨by rfl, rfl⟩) ?_ ?_
         rotate_left
         ·exact aP
         refine pure_ (i := 7) (N := some 51) (v := undef) (a' := ?_) (tf 8 9) rfl rfl (any_of HT_.out (by kernel_rfl)) (fun _ _ _ h => h) (Or.inr ⟨by rfl, rfl⟩) ?_ ?_
         rotate_left
         ·exact aP
         refine pure_ (i := 8) (N := some 52) (v := undef) (a' := ?_) (tf 9 8) rfl rfl (any_of HT_.out (by kernel_rfl)) (fun _ _ _ h => h) (Or.inr ⟨by rfl, rfl⟩) ?_ ?_
         rotate_left
         ·exact aP
         refine pure_ (i := 9) (N := some 53) (v := undef) (a' := ?_) (tf 10 7) rfl rfl (any_of HT_.out (by kernel_rfl)) (fun _ _ _ h => h) (Or.inr ⟨by rfl, rfl⟩) ?_ ?_
         rotate_left
         ·exact aP
         refine pure_ (i := 10) (N := some 54) (v := undef) (a' := ?_) (tf 11 6) rfl rfl (any_of HT_.out (by kernel_rfl)) (fun _ _ _ h => h) (Or.inr ⟨by rfl, rfl⟩) ?_ ?_
         rotate_left
         ·exact aP
         refine pure_ (i := 11) (N := some 55) (v := undef) (a' := ?_) (tf 12 5) rfl rfl (any_of HT_.out (by kernel_rfl)) (fun _ _ _ h => h) (Or.inr ⟨by rfl, rfl⟩) ?_ ?_
         rotate_left
         ·exact aP
         refine pure_ (i := 12) (N := some 56) (v := undef) (a' := ?_) (tf 13 4) rfl rfl (any_of HT_.out (by kernel_rfl)) (fun _ _ _ h => h) (Or.inr ⟨by rfl, rfl⟩) ?_ ?_
         rotate_left
         ·exact aP
         refine pure_ (i := 13) (N := some 57) (v := undef) (a' := ?_) (tf 14 3) rfl rfl (any_of HT_.out (by kernel_rfl)) (fun _ _ _ h => h) (Or.inr ⟨by rfl, rfl⟩) ?_ ?_
         rotate_left
         ·exact aP
         refine pure_ (i := 14) (N := some 58) (v := undef) (a' := ?_) (tf 15 2) rfl rfl (any_of HT_.out (by kernel_rfl)) (fun _ _ _ h => h) (Or.inr ⟨by rfl, rfl⟩) ?_ ?_
         rotate_left
         ·exact aP
         refine pure_ (i := 15) (N := some 59) (v := undef) (a' := ?_) (tf 16 1) rfl rfl (any_of HT_.out (by kernel_rfl)) (fun _ _ _ h => h) (Or.inr ⟨by rfl, rfl⟩) ?_ ?_
         rotate_left
         ·exact aP
         refine pY (i := 16) (N := some 60) (tf 17 0) rfl rfl HT_.out ?_
         refine done_ (done_of HT_.out (by kernel_rfl)) ?_
         try go_wp2
         go_roundg kj23
         case measure => have := HK1.out; have := HJ23.out; omega
         case rel => exact ⟨(wrap64 (x10_1 + 1)), (by first | rfl | (simp; done) | (simp [*]; done)), H', ⟨by have := HK1.out; have := HJ23.out; omega⟩, ⟨bS GE493.out⟩⟩
        rw [if_pos c39] at H
        have c39b0 : decide (x10_1 < (wrap64 ((l0.length : Int) - 1))) = true := decide_eq_true c39
        clear c39
        obtain ⟨ji40, hji40⟩ : ∃ j_ : Int, (wrap64 (x10_1 + 1)) = j_ := ⟨_, rfl⟩
        replace H : (if 0 ≤ (ji40) then (if (ji40) < (l0.length : Int) then ((v_Compare.f ((rd_T65 l0 x10_1).f1.f0) ((rd_T65 l0 x10_1).f1.f1) ((rd_T65 l0 x10_1).f1.f2) ((rd_T65 l0 (ji40)).f0.f0) ((rd_T65 l0 (ji40)).f0.f1) ((rd_T65 l0 (ji40)).f0.f2)).bind fun t498 => (if t498 ≥ 0 then (some false) else (i_Valid.l0 kj23 l0 l0 (l0.length : Int) ji40))) else (none)) else (none)) = some r := by first | (rw [hji40] at H; exact H) | (simp only [hji40] at H ⊢; exact H)
        have hji40w : (IntKind.i64.wrap (x10_1 + 1)) = ji40 := (i64_w _).trans hji40
        by_cases c41 : 0 ≤ (ji40)
        rotate_left
        ·rw [if_neg c41] at H
         exact absurd H (by simp)
        rw [if_pos c41] at H
        have c41b0 : decide (0 ≤ (ji40)) = true := decide_eq_true c41
        clear c41
        by_cases c42 : (ji40) < (l0.length : Int)
        rotate_left
        ·rw [if_neg c42] at H
         exact absurd H (by simp)
        rw [if_pos c42] at H
        have c42b0 : decide ((ji40) < (l0.length : Int)) = true := decide_eq_true c42
        clear c42
        obtain ⟨t498, A43, H⟩ := oB H
        try dsimp only at H
        by_cases c44 : t498 ≥ 0
        rotate_left
        ·rw [if_neg c44] at H
         have c44b0 : decide (0 ≤ t498) = false := decide_eq_false c44
         clear c44
         have H' := Aside0.mk H
         clear H
         try go_wp2
         have n0_ := aK (blk_drew BK493.out)
         have n1_ := aK (below_drew1 HB.out)
         clear BK493
         clear HB
         have BK493 := n0_
         have HB := n1_
         clear n0_ n1_
         have p497 : 0 ≤ ((ji40) : Int) := of_decide_eq_true (aA)
         have q497 : (ji40) < (l0.length : Int) := of_decide_eq_true (aA)
         obtain ⟨ad497, e497, hx497_0, hx497_1, hx497_2, hx497_3, hx497_4, hx497_5, hx497_6⟩ := at_T65 HR0.out (ji40) p497 q497
         have hw497_6 := hx497_6
         have hw497_5 := hx497_5
         have hw497_4 := hx497_4
         have hw497_3 := hx497_3
         have hw497_2 := hx497_2
         have hw497_1 := hx497_1
         have hw497_0 := hx497_0
         (try rw [← Nbq8.out] at hx497_6)
         obtain rfl : ad492 = ad497 := (by injection e497)
         replace hx497_0 := hW HB.out hx497_0
         replace hx497_1 := hW HB.out hx497_1
         replace hx497_2 := hW HB.out hx497_2
         replace hx497_3 := hW HB.out hx497_3
         replace hx497_4 := hW HB.out hx497_4
         replace hx497_5 := hW HB.out hx497_5
         replace hx497_6 := hW HB.out hx497_6
         replace p497 := eq_true p497
         replace q497 := eq_true q497
         refine start_ (n := 17) (S := fun w' => w'.cell? ⟨gb493, 0, none⟩ = some (.int .i64 ((rd_T65 l0 x10_1).f0.f0)) ∧ w'.cell? ⟨gb493, 1, none⟩ = some (.int .i64 ((rd_T65 l0 x10_1).f0.f1)) ∧ w'.cell? ⟨gb493, 2, none⟩ = some (.string ((rd_T65 l0 x10_1).f0.f2)) ∧ w'.cell? ⟨gb493, 3, none⟩ = some (.int .i64 ((rd_T65 l0 x10_1).f1.f0)) ∧ w'.cell? ⟨gb493, 4, none⟩ = some (.int .i64 ((rd_T65 l0 x10_1).f1.f1)) ∧ w'.cell? ⟨gb493, 5, none⟩ = some (.string ((rd_T65 l0 x10_1).f1.f2)) ∧ w'.cell? ⟨gb493, 6, none⟩ = some (.bool false) ∧ w'.cell? (ad492.add (((ji40)).toNat * 7)) = some (.int .i64 ((rd_T65 l0 (ji40)).f0.f0)) ∧ w'.cell? ⟨(ad492.add (((ji40)).toNat * 7)).block, (ad492.add (((ji40)).toNat * 7)).off + 1, none⟩ = some (.int .i64 ((rd_T65 l0 (ji40)).f0.f1)) ∧ w'.cell? ⟨(ad492.add (((ji40)).toNat * 7)).block, (ad492.add (((ji40)).toNat * 7)).off + 2, none⟩ = some (.string ((rd_T65 l0 (ji40)).f0.f2)) ∧ w'.cell? ⟨(ad492.add (((ji40)).toNat * 7)).block, (ad492.add (((ji40)).toNat * 7)).off + 3, none⟩ = some (.int .i64 ((rd_T65 l0 (ji40)).f1.f0)) ∧ w'.cell? ⟨(ad492.add (((ji40)).toNat * 7)).block, (ad492.add (((ji40)).toNat * 7)).off + 4, none⟩ = some (.int .i64 ((rd_T65 l0 (ji40)).f1.f1)) ∧ w'.cell? ⟨(ad492.add (((ji40)).toNat * 7)).block, (ad492.add (((ji40)).toNat * 7)).off + 5, none⟩ = some (.string ((rd_T65 l0 (ji40)).f1.f2)) ∧ w'.cell? ⟨(ad492.add (((ji40)).toNat * 7)).block, (ad492.add (((ji40)).toNat * 7)).off + 6, none⟩ = some (.bool ((rd_T65 l0 (ji40)).f2))) (ds := []) #[false, false, false, false, false, false, false, false, false, false, false, false, false, false, false, false, false] (by kernel_rfl) rfl rfl ⟨(blk_cell BK493.out 0).trans rfl, (blk_cell BK493.out 1).trans rfl, (blk_cell BK493.out 2).trans rfl, (blk_cell BK493.out 3).trans rfl, (blk_cell BK493.out 4).trans rfl, (blk_cell BK493.out 5).trans rfl, (blk_cell BK493.out 6).trans rfl, ((HB.out.cell (World.block_lt_of_cell? w _ hw497_0)).trans hw497_0), ((HB.out.cell (World.block_lt_of_cell? w _ hw497_1)).trans hw497_1), ((HB.out.cell (World.block_lt_of_cell? w _ hw497_2)).trans hw497_2), ((HB.out.cell (World.block_lt_of_cell? w _ hw497_3)).trans hw497_3), ((HB.out.cell (World.block_lt_of_cell? w _ hw497_4)).trans hw497_4), ((HB.out.cell (World.block_lt_of_cell? w _ hw497_5)).trans hw497_5), ((HB.out.cell (World.block_lt_of_cell? w _ hw497_6)).trans hw497_6)⟩ (fun hHeld => ?_); refine with_tabW i_Valid.tab13 i_Valid.bits13 (fun HT_ HW_ => ?_)
         generalize wc.drew = w47 at BK493 HB hx497_0 hx497_1 hx497_2 hx497_3 hx497_4 hx497_5 hx497_6 hHeld ⊢
         refine pY (i := 0) (N := some 44) (tf 1 16) rfl rfl HT_.out ?_
         refine pY (i := 1) (N := some 45) (tf 2 15) rfl rfl HT_.out ?_
         refine pY (i := 2) (N := some 46) (tf 3 14) rfl rfl HT_.out ?_
         refine pY (i := 3) (N := some 47) (tf 4 13) rfl rfl HT_.out ?_
         refine pY (i := 4) (N := some 48) (tf 5 12) rfl rfl HT_.out ?_
         refine pY (i := 5) (N := some 49) (tf 6 11) rfl rfl HT_.out ?_
         refine pY (i := 6) (N := some 50) (tf 7 10) rfl rfl HT_.out ?_
         refine pY (i := 8) (N := some 52) #[true, true, true, true, true, true, true, false, true, false, false, false, false, false, false, false, false] rfl rfl HT_.out ?_
         refine pY (i := 9) (N := some 53) #[true, true, true, true, true, true, true, false, true, true, false, false, false, false, false, false, false] rfl rfl HT_.out ?_
         refine pY (i := 10) (N := some 54) #[true, true, true, true, true, true, true, false, true, true, true, false, false, false, false, false, false] rfl rfl HT_.out ?_
         refine pY (i := 11) (N := some 55) #[true, true, true, true, true, true, true, false, true, true, true, true, false, false, false, false, false] rfl rfl HT_.out ?_
         refine pY (i := 12) (N := some 56) #[true, true, true, true, true, true, true, false, true, true, true, true, true, false, false, false, false] rfl rfl HT_.out ?_
         refine take_ (i := 7) (N := some 51) (v := ?_) (a' := ?_) (tf 13 4) rfl rfl (take_ofW HT_.out HW_.out (by kernel_rfl)) (fun _ _ _ h => h) (Or.inl ⟨by rfl, ?_⟩) hHeld ?_ ?_
         rotate_left
         ·rintro w' ⟨s0, s1, s2, s3, s4, s5, s6, s7, s8, s9, s10, s11, s12, s13⟩
          go_simp
          with_reducible rfl
         rotate_left
         ·exact aP
         refine take_ (i := 13) (N := some 57) (v := ?_) (a' := ?_) (tf 14 3) rfl rfl (take_ofW HT_.out HW_.out (by kernel_rfl)) (fun _ _ _ h => h) (Or.inl ⟨by rfl, ?_⟩) hHeld ?_ ?_
         rotate_left
         ·rintro w' ⟨s0, s1, s2, s3, s4, s5, s6, s7, s8, s9, s10, s11, s12, s13⟩
          go_simp
          with_reducible rfl
         rotate_left
         ·exact aP
         refine one_ (i := 14) (N := some 58) (tf 15 2) rfl rfl (one_of HT_.out (by kernel_rfl)) (by decide) (fun K hK => ?_)
         refine goes_ Try.func25 (by kernel_rfl) rfl #[.agg #[.int .i64 ((rd_T65 l0 x10_1).f1.f0), .int .i64 ((rd_T65 l0 x10_1).f1.f1), .string ((rd_T65 l0 x10_1).f1.f2)], .agg #[.int .i64 ((rd_T65 l0 (ji40)).f0.f0), .int .i64 ((rd_T65 l0 (ji40)).f0.f1), .string ((rd_T65 l0 (ji40)).f0.f2)]] (by rfl) rfl rfl (by (try simp only [List.map_toArray, List.map_cons, List.map_nil]); first | done | (simp only [hji40]; rfl) | rfl | (simp only [List.length_drop, List.length_take]; rfl)) ?_
         with_reducible refine (v_Compare.calls ((rd_T65 l0 x10_1).f1.f0) ((rd_T65 l0 x10_1).f1.f1) ((rd_T65 l0 x10_1).f1.f2) ((rd_T65 l0 (ji40)).f0.f0) ((rd_T65 l0 (ji40)).f0.f1) ((rd_T65 l0 (ji40)).f0.f2) t498 _ A43.out).mono ?_
         rintro e w48 ⟨rfl, hb⟩
         refine ⟨_, rfl, ?_⟩
         have n0_ := aK (blk_below (bX BK493.out) hb)
         have n1_ := aK (below_step (bS GE493.out) hb)
         clear BK493
         clear HB
         have BK493 := n0_
         have HB := n1_
         clear n0_ n1_
         (try clear hb)
         (try clear hb2)
         (try clear hk)
         (try clear hi)
         refine hK.out _ _ ⟨(blk_cell BK493.out 0).trans rfl, (blk_cell BK493.out 1).trans rfl, (blk_cell BK493.out 2).trans rfl, (blk_cell BK493.out 3).trans rfl, (blk_cell BK493.out 4).trans rfl, (blk_cell BK493.out 5).trans rfl, (blk_cell BK493.out 6).trans rfl, ((HB.out.cell (World.block_lt_of_cell? w _ hw497_0)).trans hw497_0), ((HB.out.cell (World.block_lt_of_cell? w _ hw497_1)).trans hw497_1), ((HB.out.cell (World.block_lt_of_cell? w _ hw497_2)).trans hw497_2), ((HB.out.cell (World.block_lt_of_cell? w _ hw497_3)).trans hw497_3), ((HB.out.cell (World.block_lt_of_cell? w _ hw497_4)).trans hw497_4), ((HB.out.cell (World.block_lt_of_cell? w _ hw497_5)).trans hw497_5), ((HB.out.cell (World.block_lt_of_cell? w _ hw497_6)).trans hw497_6)⟩ (fun hHeld => ?_)
         clear hK K
         refine norm_ (a' := ?_) ?_ ?_
         rotate_left
         ·show Act.put _ (some 58) _ = _
          simp only [Act.put, List.setIfInBounds_toArray, List.set_cons_zero, List.set_cons_succ, i64_w, i32_w]
          rfl
         refine pY (i := 15) (N := some 59) (tf 16 1) rfl rfl HT_.out ?_
         refine pY (i := 16) (N := some 60) (tf 17 0) rfl rfl HT_.out ?_
         refine done_ (done_of HT_.out (by kernel_rfl)) ?_
         try go_wp2
         go_roundg kj23
         case measure => have := HK1.out; have := HJ23.out; omega
         case rel => exact ⟨(ji40), (by first | rfl | (simp; done) | (simp only [← hji40] <;> (first | rfl | simp)) | (simp [*]; done)), H', ⟨by have := HK1.out; have := HJ23.out; omega⟩, ⟨bS GE493.out⟩⟩
        rw [if_pos c44] at H
        have c44b0 : decide (0 ≤ t498) = true := decide_eq_true c44
        clear c44
        obtain rfl := Option.some.inj H
        try go_wp2
        have n0_ := aK (blk_drew BK493.out)
        have n1_ := aK (below_drew1 HB.out)
        clear BK493
        clear HB
        have BK493 := n0_
        have HB := n1_
        clear n0_ n1_
        have p497 : 0 ≤ ((ji40) : Int) := of_decide_eq_true (aA)
        have q497 : (ji40) < (l0.length : Int) := of_decide_eq_true (aA)
        obtain ⟨ad497, e497, hx497_0, hx497_1, hx497_2, hx497_3, hx497_4, hx497_5, hx497_6⟩ := at_T65 HR0.out (ji40) p497 q497
        have hw497_6 := hx497_6
        have hw497_5 := hx497_5
        have hw497_4 := hx497_4
        have hw497_3 := hx497_3
        have hw497_2 := hx497_2
        have hw497_1 := hx497_1
        have hw497_0 := hx497_0
        (try rw [← Nbq8.out] at hx497_6)
        obtain rfl : ad492 = ad497 := (by injection e497)
        replace hx497_0 := hW HB.out hx497_0
        replace hx497_1 := hW HB.out hx497_1
        replace hx497_2 := hW HB.out hx497_2
        replace hx497_3 := hW HB.out hx497_3
        replace hx497_4 := hW HB.out hx497_4
        replace hx497_5 := hW HB.out hx497_5
        replace hx497_6 := hW HB.out hx497_6
        replace p497 := eq_true p497
        replace q497 := eq_true q497
        refine start_ (n := 17) (S := fun w' => w'.cell? ⟨gb493, 0, none⟩ = some (.int .i64 ((rd_T65 l0 x10_1).f0.f0)) ∧ w'.cell? ⟨gb493, 1, none⟩ = some (.int .i64 ((rd_T65 l0 x10_1).f0.f1)) ∧ w'.cell? ⟨gb493, 2, none⟩ = some (.string ((rd_T65 l0 x10_1).f0.f2)) ∧ w'.cell? ⟨gb493, 3, none⟩ = some (.int .i64 ((rd_T65 l0 x10_1).f1.f0)) ∧ w'.cell? ⟨gb493, 4, none⟩ = some (.int .i64 ((rd_T65 l0 x10_1).f1.f1)) ∧ w'.cell? ⟨gb493, 5, none⟩ = some (.string ((rd_T65 l0 x10_1).f1.f2)) ∧ w'.cell? ⟨gb493, 6, none⟩ = some (.bool false) ∧ w'.cell? (ad492.add (((ji40)).toNat * 7)) = some (.int .i64 ((rd_T65 l0 (ji40)).f0.f0)) ∧ w'.cell? ⟨(ad492.add (((ji40)).toNat * 7)).block, (ad492.add (((ji40)).toNat * 7)).off + 1, none⟩ = some (.int .i64 ((rd_T65 l0 (ji40)).f0.f1)) ∧ w'.cell? ⟨(ad492.add (((ji40)).toNat * 7)).block, (ad492.add (((ji40)).toNat * 7)).off + 2, none⟩ = some (.string ((rd_T65 l0 (ji40)).f0.f2)) ∧ w'.cell? ⟨(ad492.add (((ji40)).toNat * 7)).block, (ad492.add (((ji40)).toNat * 7)).off + 3, none⟩ = some (.int .i64 ((rd_T65 l0 (ji40)).f1.f0)) ∧ w'.cell? ⟨(ad492.add (((ji40)).toNat * 7)).block, (ad492.add (((ji40)).toNat * 7)).off + 4, none⟩ = some (.int .i64 ((rd_T65 l0 (ji40)).f1.f1)) ∧ w'.cell? ⟨(ad492.add (((ji40)).toNat * 7)).block, (ad492.add (((ji40)).toNat * 7)).off + 5, none⟩ = some (.string ((rd_T65 l0 (ji40)).f1.f2)) ∧ w'.cell? ⟨(ad492.add (((ji40)).toNat * 7)).block, (ad492.add (((ji40)).toNat * 7)).off + 6, none⟩ = some (.bool ((rd_T65 l0 (ji40)).f2))) (ds := []) #[false, false, false, false, false, false, false, false, false, false, false, false, false, false, false, false, false] (by kernel_rfl) rfl rfl ⟨(blk_cell BK493.out 0).trans rfl, (blk_cell BK493.out 1).trans rfl, (blk_cell BK493.out 2).trans rfl, (blk_cell BK493.out 3).trans rfl, (blk_cell BK493.out 4).trans rfl, (blk_cell BK493.out 5).trans rfl, (blk_cell BK493.out 6).trans rfl, ((HB.out.cell (World.block_lt_of_cell? w _ hw497_0)).trans hw497_0), ((HB.out.cell (World.block_lt_of_cell? w _ hw497_1)).trans hw497_1), ((HB.out.cell (World.block_lt_of_cell? w _ hw497_2)).trans hw497_2), ((HB.out.cell (World.block_lt_of_cell? w _ hw497_3)).trans hw497_3), ((HB.out.cell (World.block_lt_of_cell? w _ hw497_4)).trans hw497_4), ((HB.out.cell (World.block_lt_of_cell? w _ hw497_5)).trans hw497_5), ((HB.out.cell (World.block_lt_of_cell? w _ hw497_6)).trans hw497_6)⟩ (fun hHeld => ?_); refine with_tabW i_Valid.tab13 i_Valid.bits13 (fun HT_ HW_ => ?_)
        generalize wc.drew = w45 at BK493 HB hx497_0 hx497_1 hx497_2 hx497_3 hx497_4 hx497_5 hx497_6 hHeld ⊢
        refine pY (i := 0) (N := some 44) (tf 1 16) rfl rfl HT_.out ?_
        refine pY (i := 1) (N := some 45) (tf 2 15) rfl rfl HT_.out ?_
        refine pY (i := 2) (N := some 46) (tf 3 14) rfl rfl HT_.out ?_
        refine pY (i := 3) (N := some 47) (tf 4 13) rfl rfl HT_.out ?_
        refine pY (i := 4) (N := some 48) (tf 5 12) rfl rfl HT_.out ?_
        refine pY (i := 5) (N := some 49) (tf 6 11) rfl rfl HT_.out ?_
        refine pY (i := 6) (N := some 50) (tf 7 10) rfl rfl HT_.out ?_
        refine pY (i := 8) (N := some 52) #[true, true, true, true, true, true, true, false, true, false, false, false, false, false, false, false, false] rfl rfl HT_.out ?_
        refine pY (i := 9) (N := some 53) #[true, true, true, true, true, true, true, false, true, true, false, false, false, false, false, false, false] rfl rfl HT_.out ?_
        refine pY (i := 10) (N := some 54) #[true, true, true, true, true, true, true, false, true, true, true, false, false, false, false, false, false] rfl rfl HT_.out ?_
        refine pY (i := 11) (N := some 55) #[true, true, true, true, true, true, true, false, true, true, true, true, false, false, false, false, false] rfl rfl HT_.out ?_
        refine pY (i := 12) (N := some 56) #[true, true, true, true, true, true, true, false, true, true, true, true, true, false, false, false, false] rfl rfl HT_.out ?_
        refine take_ (i := 7) (N := some 51) (v := ?_) (a' := ?_) (tf 13 4) rfl rfl (take_ofW HT_.out HW_.out (by kernel_rfl)) (fun _ _ _ h => h) (Or.inl ⟨by rfl, ?_⟩) hHeld ?_ ?_
        rotate_left
        ·rintro w' ⟨s0, s1, s2, s3, s4, s5, s6, s7, s8, s9, s10, s11, s12, s13⟩
         go_simp
         with_reducible rfl
        rotate_left
        ·exact aP
        refine take_ (i := 13) (N := some 57) (v := ?_) (a' := ?_) (tf 14 3) rfl rfl (take_ofW HT_.out HW_.out (by kernel_rfl)) (fun _ _ _ h => h) (Or.inl ⟨by rfl, ?_⟩) hHeld ?_ ?_
        rotate_left
        ·rintro w' ⟨s0, s1, s2, s3, s4, s5, s6, s7, s8, s9, s10, s11, s12, s13⟩
         go_simp
         with_reducible rfl
        rotate_left
        ·exact aP
        refine one_ (i := 14) (N := some 58) (tf 15 2) rfl rfl (one_of HT_.out (by kernel_rfl)) (by decide) (fun K hK => ?_)
        refine goes_ Try.func25 (by kernel_rfl) rfl #[.agg #[.int .i64 ((rd_T65 l0 x10_1).f1.f0), .int .i64 ((rd_T65 l0 x10_1).f1.f1), .string ((rd_T65 l0 x10_1).f1.f2)], .agg #[.int .i64 ((rd_T65 l0 (ji40)).f0.f0), .int .i64 ((rd_T65 l0 (ji40)).f0.f1), .string ((rd_T65 l0 (ji40)).f0.f2)]] (by rfl) rfl rfl (by (try simp only [List.map_toArray, List.map_cons, List.map_nil]); first | done | (simp only [hji40]; rfl) | rfl | (simp only [List.length_drop, List.length_take]; rfl)) ?_
        with_reducible refine (v_Compare.calls ((rd_T65 l0 x10_1).f1.f0) ((rd_T65 l0 x10_1).f1.f1) ((rd_T65 l0 x10_1).f1.f2) ((rd_T65 l0 (ji40)).f0.f0) ((rd_T65 l0 (ji40)).f0.f1) ((rd_T65 l0 (ji40)).f0.f2) t498 _ A43.out).mono ?_
        rintro e w46 ⟨rfl, hb⟩
        refine ⟨_, rfl, ?_⟩
        have n0_ := aK (blk_below (bX BK493.out) hb)
        have n1_ := aK (below_step (bS GE493.out) hb)
        clear BK493
        clear HB
        have BK493 := n0_
        have HB := n1_
        clear n0_ n1_
        (try clear hb)
        (try clear hb2)
        (try clear hk)
        (try clear hi)
        refine hK.out _ _ ⟨(blk_cell BK493.out 0).trans rfl, (blk_cell BK493.out 1).trans rfl, (blk_cell BK493.out 2).trans rfl, (blk_cell BK493.out 3).trans rfl, (blk_cell BK493.out 4).trans rfl, (blk_cell BK493.out 5).trans rfl, (blk_cell BK493.out 6).trans rfl, ((HB.out.cell (World.block_lt_of_cell? w _ hw497_0)).trans hw497_0), ((HB.out.cell (World.block_lt_of_cell? w _ hw497_1)).trans hw497_1), ((HB.out.cell (World.block_lt_of_cell? w _ hw497_2)).trans hw497_2), ((HB.out.cell (World.block_lt_of_cell? w _ hw497_3)).trans hw497_3), ((HB.out.cell (World.block_lt_of_cell? w _ hw497_4)).trans hw497_4), ((HB.out.cell (World.block_lt_of_cell? w _ hw497_5)).trans hw497_5), ((HB.out.cell (World.block_lt_of_cell? w _ hw497_6)).trans hw497_6)⟩ (fun hHeld => ?_)
        clear hK K
        refine norm_ (a' := ?_) ?_ ?_
        rotate_left
        ·show Act.put _ (some 58) _ = _
         simp only [Act.put, List.setIfInBounds_toArray, List.set_cons_zero, List.set_cons_succ, i64_w, i32_w]
         rfl
        refine pY (i := 15) (N := some 59) (tf 16 1) rfl rfl HT_.out ?_
        refine pY (i := 16) (N := some 60) (tf 17 0) rfl rfl HT_.out ?_
        refine done_ (done_of HT_.out (by kernel_rfl)) ?_
        try go_wp2
        go_ret
        exact ⟨by first | rfl | (simp [errW_none, errW_some] <;> rfl) | (simp only [← hji40]; first | rfl | (simp [errW_none, errW_some] <;> rfl)) | (simp [*, errW_none, errW_some] <;> rfl), bS GE493.out⟩
       subst c38
       rw [if_pos rfl] at H
       obtain rfl := Option.some.inj H
       go_wp2
       go_ret
       exact ⟨eW, bS GE493.out⟩
    subst c9
    rw [if_pos rfl] at H
    by_cases c10 : x10_1 < (wrap64 ((l0.length : Int) - 1))
    rotate_left
    ·rw [if_neg c10] at H
     have c10b0 : decide (x10_1 < (wrap64 ((l0.length : Int) - 1))) = false := decide_eq_false c10
     clear c10
     by_cases c15 : (!(((rd_T65 l0 x10_1).f1.f0) == 0) || (!(((rd_T65 l0 x10_1).f1.f1) == 0) || (!((((rd_T65 l0 x10_1).f1.f2).toList) == ([] : List UInt8))))) = true
     rotate_left
     ·rw [if_neg c15] at H
      have c15b0 : (!(((rd_T65 l0 x10_1).f1.f0) == 0) || (!(((rd_T65 l0 x10_1).f1.f1) == 0) || (!((((rd_T65 l0 x10_1).f1.f2).toList) == ([] : List UInt8))))) = false := by simpa using c15
      have c15b7 : (((rd_T65 l0 x10_1).f1.f0) = 0 ∧ ((rd_T65 l0 x10_1).f1.f1) = 0 ∧ ((rd_T65 l0 x10_1).f1.f2).toList = ([] : List UInt8)) = True := eq_true (by simpa using c15b0)
      have c15b8 : (!(((rd_T65 l0 x10_1).f1.f0) == 0) || (!(((rd_T65 l0 x10_1).f1.f1) == 0) || (!(((rd_T65 l0 x10_1).f1.f2).toList.isEmpty)))) = false := by rw [← c15b0]; cases ((rd_T65 l0 x10_1).f1.f2).toList <;> rfl
      clear c15
      have H' := Aside0.mk H
      clear H
      have p492 : 0 ≤ (x10_1 : Int) := of_decide_eq_true (aA)
      have q492 : x10_1 < (l0.length : Int) := of_decide_eq_true (aA)
      obtain ⟨ad492, e492, hx492_0, hx492_1, hx492_2, hx492_3, hx492_4, hx492_5, hx492_6⟩ := at_T65 HR0.out x10_1 p492 q492
      (try rw [← Nbq8.out] at hx492_6)
      cases e492
      replace hx492_0 := hW HB.out hx492_0
      replace hx492_1 := hW HB.out hx492_1
      replace hx492_2 := hW HB.out hx492_2
      replace hx492_3 := hW HB.out hx492_3
      replace hx492_4 := hW HB.out hx492_4
      replace hx492_5 := hW HB.out hx492_5
      replace hx492_6 := hW HB.out hx492_6
      replace p492 := eq_true p492
      replace q492 := eq_true q492
      go_wp2_with (first | ((with_reducible refine gate_dst (N := 4) rfl ?_); refine box_event ?hg (N := 4) ?hd (cs := #[.int .i64 0, .int .i64 0, .string (⟨#[]⟩ : ByteArray), .int .i64 0, .int .i64 0, .string (⟨#[]⟩ : ByteArray), .bool false]) (t := 65) ?hr ?_; (case hd => rfl); (case hg => rfl); (case hr => exact hR); intro gb493 hg w20 hbox hb; have n0_ := aK (below_step bO hb); have n1_ := aK (hbox); have n2_ := aK ((by rw [hg]; exact (below_size bO) : w.heap.size ≤ gb493)); have n3_ := aK ((by rw [hg]; exact (below_size bO) : w.heap.size ≤ gb493)); clear HB; have HB := n0_; have BK493 := n1_; have GW493 := n2_; have GE493 := n3_; clear n0_ n1_ n2_ n3_ hb hbox hg; obtain ⟨hcz21_0, hcz21_1, hcz21_2, hcz21_3, hcz21_4, hcz21_5, hcz21_6⟩ := z7 BK493.out (.int .i64 0) (.int .i64 0) (.string (⟨#[]⟩ : ByteArray)) (.int .i64 0) (.int .i64 0) (.string (⟨#[]⟩ : ByteArray)) (.bool false); obtain ⟨hfz21_0, hfz21_1, hfz21_2, hfz21_3, hfz21_4, hfz21_5, hfz21_6⟩ := f7 BK493.out) | ((with_reducible refine gate_callee (f := 21) rfl ?_); refine gL (some 17) rfl Try.func21 #[.agg #[.int .i64 ((rd_T65 l0 x10_1).f0.f0), .int .i64 ((rd_T65 l0 x10_1).f0.f1), .string ((rd_T65 l0 x10_1).f0.f2)]] rfl ?_; (with_reducible refine (v_Valid.calls k1 ((rd_T65 l0 x10_1).f0.f0) ((rd_T65 l0 x10_1).f0.f1) ((rd_T65 l0 x10_1).f0.f2) true _ A6.out).mono ?_); rintro e w22 ⟨rfl, hb⟩; refine ⟨_, rfl, ?_⟩; have n0_ := aK (blk_below (g := gb493) (o := .cells #[.int .i64 ((rd_T65 l0 x10_1).f0.f0), .int .i64 ((rd_T65 l0 x10_1).f0.f1), .string ((rd_T65 l0 x10_1).f0.f2), .int .i64 ((rd_T65 l0 x10_1).f1.f0), .int .i64 ((rd_T65 l0 x10_1).f1.f1), .string ((rd_T65 l0 x10_1).f1.f2), .bool true] 65 (0, 0)) (put7 BK493.out) hb); have n1_ := aK (below_step (bS GE493.out) hb); clear BK493 HB; have BK493 := n0_; have HB := n1_; clear n0_ n1_; (try clear hb); obtain ⟨hcz23_0, hcz23_1, hcz23_2, hcz23_3, hcz23_4, hcz23_5, hcz23_6⟩ := z7 BK493.out (.int .i64 ((rd_T65 l0 x10_1).f0.f0)) (.int .i64 ((rd_T65 l0 x10_1).f0.f1)) (.string ((rd_T65 l0 x10_1).f0.f2)) (.int .i64 ((rd_T65 l0 x10_1).f1.f0)) (.int .i64 ((rd_T65 l0 x10_1).f1.f1)) (.string ((rd_T65 l0 x10_1).f1.f2)) (.bool true); obtain ⟨hfz23_0, hfz23_1, hfz23_2, hfz23_3, hfz23_4, hfz23_5, hfz23_6⟩ := f7 BK493.out))
      go_roundg k1
      case measure => have := HK1.out; omega
      case rel => exact ⟨(wrap64 (x10_1 + 1)), (by first | rfl | (simp; done) | (simp [*]; done)), H', ⟨by have := HK1.out; omega⟩, ⟨bS GE493.out⟩⟩
     rw [if_pos c15] at H
     have c15b0 : (!(((rd_T65 l0 x10_1).f1.f0) == 0) || (!(((rd_T65 l0 x10_1).f1.f1) == 0) || (!((((rd_T65 l0 x10_1).f1.f2).toList) == ([] : List UInt8))))) = true := c15
     have c15b7 : (((rd_T65 l0 x10_1).f1.f0) = 0 ∧ ((rd_T65 l0 x10_1).f1.f1) = 0 ∧ ((rd_T65 l0 x10_1).f1.f2).toList = ([] : List UInt8)) = False := eq_false (fun h_ => by simp [h_.1, h_.2.1, h_.2.2] at c15b0)
     have c15b8 : (!(((rd_T65 l0 x10_1).f1.f0) == 0) || (!(((rd_T65 l0 x10_1).f1.f1) == 0) || (!(((rd_T65 l0 x10_1).f1.f2).toList.isEmpty)))) = true := by rw [← c15b0]; cases ((rd_T65 l0 x10_1).f1.f2).toList <;> rfl
     clear c15
     obtain rfl := Option.some.inj H
     have p492 : 0 ≤ (x10_1 : Int) := of_decide_eq_true (aA)
     have q492 : x10_1 < (l0.length : Int) := of_decide_eq_true (aA)
     obtain ⟨ad492, e492, hx492_0, hx492_1, hx492_2, hx492_3, hx492_4, hx492_5, hx492_6⟩ := at_T65 HR0.out x10_1 p492 q492
     (try rw [← Nbq8.out] at hx492_6)
     cases e492
     replace hx492_0 := hW HB.out hx492_0
     replace hx492_1 := hW HB.out hx492_1
     replace hx492_2 := hW HB.out hx492_2
     replace hx492_3 := hW HB.out hx492_3
     replace hx492_4 := hW HB.out hx492_4
     replace hx492_5 := hW HB.out hx492_5
     replace hx492_6 := hW HB.out hx492_6
     replace p492 := eq_true p492
     replace q492 := eq_true q492
     go_wp2_with (first | ((with_reducible refine gate_dst (N := 4) rfl ?_); refine box_event ?hg (N := 4) ?hd (cs := #[.int .i64 0, .int .i64 0, .string (⟨#[]⟩ : ByteArray), .int .i64 0, .int .i64 0, .string (⟨#[]⟩ : ByteArray), .bool false]) (t := 65) ?hr ?_; (case hd => rfl); (case hg => rfl); (case hr => exact hR); intro gb493 hg w16 hbox hb; have n0_ := aK (below_step bO hb); have n1_ := aK (hbox); have n2_ := aK ((by rw [hg]; exact (below_size bO) : w.heap.size ≤ gb493)); have n3_ := aK ((by rw [hg]; exact (below_size bO) : w.heap.size ≤ gb493)); clear HB; have HB := n0_; have BK493 := n1_; have GW493 := n2_; have GE493 := n3_; clear n0_ n1_ n2_ n3_ hb hbox hg; obtain ⟨hcz17_0, hcz17_1, hcz17_2, hcz17_3, hcz17_4, hcz17_5, hcz17_6⟩ := z7 BK493.out (.int .i64 0) (.int .i64 0) (.string (⟨#[]⟩ : ByteArray)) (.int .i64 0) (.int .i64 0) (.string (⟨#[]⟩ : ByteArray)) (.bool false); obtain ⟨hfz17_0, hfz17_1, hfz17_2, hfz17_3, hfz17_4, hfz17_5, hfz17_6⟩ := f7 BK493.out) | ((with_reducible refine gate_callee (f := 21) rfl ?_); refine gL (some 17) rfl Try.func21 #[.agg #[.int .i64 ((rd_T65 l0 x10_1).f0.f0), .int .i64 ((rd_T65 l0 x10_1).f0.f1), .string ((rd_T65 l0 x10_1).f0.f2)]] rfl ?_; (with_reducible refine (v_Valid.calls k1 ((rd_T65 l0 x10_1).f0.f0) ((rd_T65 l0 x10_1).f0.f1) ((rd_T65 l0 x10_1).f0.f2) true _ A6.out).mono ?_); rintro e w18 ⟨rfl, hb⟩; refine ⟨_, rfl, ?_⟩; have n0_ := aK (blk_below (g := gb493) (o := .cells #[.int .i64 ((rd_T65 l0 x10_1).f0.f0), .int .i64 ((rd_T65 l0 x10_1).f0.f1), .string ((rd_T65 l0 x10_1).f0.f2), .int .i64 ((rd_T65 l0 x10_1).f1.f0), .int .i64 ((rd_T65 l0 x10_1).f1.f1), .string ((rd_T65 l0 x10_1).f1.f2), .bool true] 65 (0, 0)) (put7 BK493.out) hb); have n1_ := aK (below_step (bS GE493.out) hb); clear BK493 HB; have BK493 := n0_; have HB := n1_; clear n0_ n1_; (try clear hb); obtain ⟨hcz19_0, hcz19_1, hcz19_2, hcz19_3, hcz19_4, hcz19_5, hcz19_6⟩ := z7 BK493.out (.int .i64 ((rd_T65 l0 x10_1).f0.f0)) (.int .i64 ((rd_T65 l0 x10_1).f0.f1)) (.string ((rd_T65 l0 x10_1).f0.f2)) (.int .i64 ((rd_T65 l0 x10_1).f1.f0)) (.int .i64 ((rd_T65 l0 x10_1).f1.f1)) (.string ((rd_T65 l0 x10_1).f1.f2)) (.bool true); obtain ⟨hfz19_0, hfz19_1, hfz19_2, hfz19_3, hfz19_4, hfz19_5, hfz19_6⟩ := f7 BK493.out))
     go_ret
     exact ⟨eW, bS GE493.out⟩
    rw [if_pos c10] at H
    have c10b0 : decide (x10_1 < (wrap64 ((l0.length : Int) - 1))) = true := decide_eq_true c10
    clear c10
    obtain rfl := Option.some.inj H
    have p492 : 0 ≤ (x10_1 : Int) := of_decide_eq_true (aA)
    have q492 : x10_1 < (l0.length : Int) := of_decide_eq_true (aA)
    obtain ⟨ad492, e492, hx492_0, hx492_1, hx492_2, hx492_3, hx492_4, hx492_5, hx492_6⟩ := at_T65 HR0.out x10_1 p492 q492
    (try rw [← Nbq8.out] at hx492_6)
    cases e492
    replace hx492_0 := hW HB.out hx492_0
    replace hx492_1 := hW HB.out hx492_1
    replace hx492_2 := hW HB.out hx492_2
    replace hx492_3 := hW HB.out hx492_3
    replace hx492_4 := hW HB.out hx492_4
    replace hx492_5 := hW HB.out hx492_5
    replace hx492_6 := hW HB.out hx492_6
    replace p492 := eq_true p492
    replace q492 := eq_true q492
    go_wp2_with (first | ((with_reducible refine gate_dst (N := 4) rfl ?_); refine box_event ?hg (N := 4) ?hd (cs := #[.int .i64 0, .int .i64 0, .string (⟨#[]⟩ : ByteArray), .int .i64 0, .int .i64 0, .string (⟨#[]⟩ : ByteArray), .bool false]) (t := 65) ?hr ?_; (case hd => rfl); (case hg => rfl); (case hr => exact hR); intro gb493 hg w11 hbox hb; have n0_ := aK (below_step bO hb); have n1_ := aK (hbox); have n2_ := aK ((by rw [hg]; exact (below_size bO) : w.heap.size ≤ gb493)); have n3_ := aK ((by rw [hg]; exact (below_size bO) : w.heap.size ≤ gb493)); clear HB; have HB := n0_; have BK493 := n1_; have GW493 := n2_; have GE493 := n3_; clear n0_ n1_ n2_ n3_ hb hbox hg; obtain ⟨hcz12_0, hcz12_1, hcz12_2, hcz12_3, hcz12_4, hcz12_5, hcz12_6⟩ := z7 BK493.out (.int .i64 0) (.int .i64 0) (.string (⟨#[]⟩ : ByteArray)) (.int .i64 0) (.int .i64 0) (.string (⟨#[]⟩ : ByteArray)) (.bool false); obtain ⟨hfz12_0, hfz12_1, hfz12_2, hfz12_3, hfz12_4, hfz12_5, hfz12_6⟩ := f7 BK493.out) | ((with_reducible refine gate_callee (f := 21) rfl ?_); refine gL (some 17) rfl Try.func21 #[.agg #[.int .i64 ((rd_T65 l0 x10_1).f0.f0), .int .i64 ((rd_T65 l0 x10_1).f0.f1), .string ((rd_T65 l0 x10_1).f0.f2)]] rfl ?_; (with_reducible refine (v_Valid.calls k1 ((rd_T65 l0 x10_1).f0.f0) ((rd_T65 l0 x10_1).f0.f1) ((rd_T65 l0 x10_1).f0.f2) true _ A6.out).mono ?_); rintro e w13 ⟨rfl, hb⟩; refine ⟨_, rfl, ?_⟩; have n0_ := aK (blk_below (g := gb493) (o := .cells #[.int .i64 ((rd_T65 l0 x10_1).f0.f0), .int .i64 ((rd_T65 l0 x10_1).f0.f1), .string ((rd_T65 l0 x10_1).f0.f2), .int .i64 ((rd_T65 l0 x10_1).f1.f0), .int .i64 ((rd_T65 l0 x10_1).f1.f1), .string ((rd_T65 l0 x10_1).f1.f2), .bool true] 65 (0, 0)) (put7 BK493.out) hb); have n1_ := aK (below_step (bS GE493.out) hb); clear BK493 HB; have BK493 := n0_; have HB := n1_; clear n0_ n1_; (try clear hb); obtain ⟨hcz14_0, hcz14_1, hcz14_2, hcz14_3, hcz14_4, hcz14_5, hcz14_6⟩ := z7 BK493.out (.int .i64 ((rd_T65 l0 x10_1).f0.f0)) (.int .i64 ((rd_T65 l0 x10_1).f0.f1)) (.string ((rd_T65 l0 x10_1).f0.f2)) (.int .i64 ((rd_T65 l0 x10_1).f1.f0)) (.int .i64 ((rd_T65 l0 x10_1).f1.f1)) (.string ((rd_T65 l0 x10_1).f1.f2)) (.bool true); obtain ⟨hfz14_0, hfz14_1, hfz14_2, hfz14_3, hfz14_4, hfz14_5, hfz14_6⟩ := f7 BK493.out))
    go_ret
    exact ⟨eW, bS GE493.out⟩
 rw [if_pos c2] at H
 have c2b0 : decide (64 < (l0.length : Int)) = true := decide_eq_true c2
 have c2b1 : decide (64 < l0.length) = true := decide_eq_true (by omega)
 clear c2
 obtain rfl := Option.some.inj H
 go_enter Try.func37, Try.ntmps37
 go_wp2
 go_ret
 exact ⟨eW, bO⟩
end Go.Proofs.Ytpjcdacnhalclaa.Q
namespace Go.Proofs.Ytpjcdacnhalclaa.Q
open Go.RowKit Go.Proofs.YtpjcdacnhalclaaW.PrintWords Go.Proofs.YtpjcdacnhalclaaW.PrintLast Go.Proofs.YtpjcdacnhalclaaW.PrintMore
attribute [local go_sem] max2_int min2_int max_two min_two max_three min_three max_four min_four
def cells24 (l : List S24) : List Value := l.flatMap fun y => [.int .i64 y.f0, .int .i64 y.f1, .string y.f2]
theorem cells24_length (l : List S24) : (cells24 l).length = l.length * 3 := by
 unfold cells24
 rw [List.length_flatMap]
 simp [List.map_const', List.sum_replicate_nat]
theorem cells24_at : ∀ (l : List S24) (q : Nat) (hq : q < l.length), ((cells24 l).drop (q * 3)).take 3 = [Value.int .i64 (l[q]).f0, .int .i64 (l[q]).f1, .string (l[q]).f2]
 | [], _, hq => by simp at hq
 | a :: l, 0, _ => by simp [cells24]
 | a :: l, q + 1, hq => by
  have := cells24_at l q (by simpa using hq)
  simp only [cells24, List.flatMap_cons, List.getElem_cons_succ] at this ⊢
  rw [show (q + 1) * 3 = 3 + q * 3 from by omega, ← List.drop_drop]
  exact this
end Go.Proofs.Ytpjcdacnhalclaa.Q
