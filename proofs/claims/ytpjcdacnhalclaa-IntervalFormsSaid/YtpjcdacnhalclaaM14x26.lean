/- A part of a proof: facts of functions that the law calls; conditions stand in each. -/
import Derived.Test.YtpjcdacnhalclaaM14x3
import Derived.Test.YtpjcdacnhalclaaM14x5
import Derived.Test.YtpjcdacnhalclaaM14x13
import Derived.Test.YtpjcdacnhalclaaM14x12
set_option linter.unusedVariables false
set_option linter.unusedSimpArgs false
namespace Go.Proofs.Ytpjcdacnhalclaa.Q
open Go.RowKit Go.Proofs.YtpjcdacnhalclaaW.PrintWords Go.Proofs.YtpjcdacnhalclaaW.PrintLast Go.Proofs.YtpjcdacnhalclaaW.PrintMore
attribute [local go_sem] max2_int min2_int max_two min_two max_three min_three max_four min_four
attribute [local go_sem high] eqA24
mutual
def r3_Ordered.l0 : Nat → List (S65) → List (S65) → Int → Int → Option (Bool)
 | 0, _, _, _, _ => none
 | k + 1, x0, x5, x6, x7 => if x7 < x6 then (if 0 ≤ x7 then (if x7 < (x5.length : Int) then ((r1_Valid.f k ((rd_T65 x5 x7).f0.f0) ((rd_T65 x5 x7).f0.f1) ((rd_T65 x5 x7).f0.f2)).bind fun t966 => (if t966 = true then (if (rd_T65 x5 x7).f2 = true then (if x7 < (wrap64 ((x0.length : Int) - 1)) then (r3_Ordered.j1 k x0 x7 x5 x6 x7 true ((rd_T65 x5 x7).f0.f0) ((rd_T65 x5 x7).f0.f1) ((rd_T65 x5 x7).f0.f2) ((rd_T65 x5 x7).f1.f0) ((rd_T65 x5 x7).f1.f1) ((rd_T65 x5 x7).f1.f2) ((rd_T65 x5 x7).f2)) else (r3_Ordered.j1 k x0 x7 x5 x6 x7 (!(((rd_T65 x5 x7).f1.f0) == 0) || (!(((rd_T65 x5 x7).f1.f1) == 0) || (!((((rd_T65 x5 x7).f1.f2).toList) == ([] : List UInt8))))) ((rd_T65 x5 x7).f0.f0) ((rd_T65 x5 x7).f0.f1) ((rd_T65 x5 x7).f0.f2) ((rd_T65 x5 x7).f1.f0) ((rd_T65 x5 x7).f1.f1) ((rd_T65 x5 x7).f1.f2) ((rd_T65 x5 x7).f2))) else ((r1_Valid.f k ((rd_T65 x5 x7).f1.f0) ((rd_T65 x5 x7).f1.f1) ((rd_T65 x5 x7).f1.f2)).bind fun t969 => (if t969 = true then ((r1_Compare.f ((rd_T65 x5 x7).f0.f0) ((rd_T65 x5 x7).f0.f1) ((rd_T65 x5 x7).f0.f2) ((rd_T65 x5 x7).f1.f0) ((rd_T65 x5 x7).f1.f1) ((rd_T65 x5 x7).f1.f2)).bind fun t970 => (r3_Ordered.j2 k x0 x7 x5 x6 x7 (decide (t970 ≥ 0)) ((rd_T65 x5 x7).f0.f0) ((rd_T65 x5 x7).f0.f1) ((rd_T65 x5 x7).f0.f2) ((rd_T65 x5 x7).f1.f0) ((rd_T65 x5 x7).f1.f1) ((rd_T65 x5 x7).f1.f2) ((rd_T65 x5 x7).f2))) else (r3_Ordered.j2 k x0 x7 x5 x6 x7 true ((rd_T65 x5 x7).f0.f0) ((rd_T65 x5 x7).f0.f1) ((rd_T65 x5 x7).f0.f2) ((rd_T65 x5 x7).f1.f0) ((rd_T65 x5 x7).f1.f1) ((rd_T65 x5 x7).f1.f2) ((rd_T65 x5 x7).f2))))) else (some false))) else (none)) else (none)) else (some true)
def r3_Ordered.j1 : Nat → List (S65) → Int → List (S65) → Int → Int → Bool → Int → Int → ByteArray → Int → Int → ByteArray → Bool → Option (Bool)
 | 0, _, _, _, _, _, _, _, _, _, _, _, _, _ => none
 | k + 1, x0, x3, x5, x6, x7, x28, x966000, x966001, x966002, x966003, x966004, x966005, x966006 => if x28 = true then (some false) else (if x3 > 0 then (if 0 ≤ (wrap64 (x3 - 1)) then (if (wrap64 (x3 - 1)) < (x0.length : Int) then ((r1_Compare.f ((rd_T65 x0 (wrap64 (x3 - 1))).f1.f0) ((rd_T65 x0 (wrap64 (x3 - 1))).f1.f1) ((rd_T65 x0 (wrap64 (x3 - 1))).f1.f2) x966000 x966001 x966002).bind fun t968 => (if t968 ≥ 0 then (some false) else (r3_Ordered.l0 k x0 x5 x6 (wrap64 (x7 + 1))))) else (none)) else (none)) else (r3_Ordered.l0 k x0 x5 x6 (wrap64 (x7 + 1))))
def r3_Ordered.j2 : Nat → List (S65) → Int → List (S65) → Int → Int → Bool → Int → Int → ByteArray → Int → Int → ByteArray → Bool → Option (Bool)
 | 0, _, _, _, _, _, _, _, _, _, _, _, _, _ => none
 | k + 1, x0, x3, x5, x6, x7, x40, x966000, x966001, x966002, x966003, x966004, x966005, x966006 => if x40 = true then (some false) else (if x3 > 0 then (if 0 ≤ (wrap64 (x3 - 1)) then (if (wrap64 (x3 - 1)) < (x0.length : Int) then ((r1_Compare.f ((rd_T65 x0 (wrap64 (x3 - 1))).f1.f0) ((rd_T65 x0 (wrap64 (x3 - 1))).f1.f1) ((rd_T65 x0 (wrap64 (x3 - 1))).f1.f2) x966000 x966001 x966002).bind fun t972 => (if t972 ≥ 0 then (some false) else (r3_Ordered.l0 k x0 x5 x6 (wrap64 (x7 + 1))))) else (none)) else (none)) else (r3_Ordered.l0 k x0 x5 x6 (wrap64 (x7 + 1))))
end
def r3_Ordered.f (k : Nat) (l0 : List (S65)) : Option (Bool) := r3_Ordered.l0 k l0 l0 (l0.length : Int) 0
def r3_Ordered.T11 : Bool × List (List Nat × List Nat) := (true, [([], []), ([0], [0]), ([1], [1]), ([2], [2]), ([2], [2]), ([4, 2], [2, 4]), ([3, 5, 2], [2, 3, 5]), ([6, 2], [2, 6]), ([7, 2], [2, 7]), ([2], [2]), ([9, 2], [2, 9]), ([8, 10, 2, 2], [2, 8, 10]), ([11, 2], [2, 11]), ([2, 12], [2, 12])])
def r3_Ordered.B11 : List Nat := [0, 1, 3, 7, 7, 23, 63, 127, 255, 7, 519, 2047, 4095, 8191]
theorem r3_Ordered.tab11 : rtab .any (opsOf Try.f91 11) = r3_Ordered.T11 := by kernel_rfl
theorem r3_Ordered.bits11 : waitsOk r3_Ordered.T11.2 r3_Ordered.B11 = true := by kernel_rfl
set_option maxHeartbeats 8000000 in
set_option maxRecDepth 100000 in
theorem r3_Ordered.calls (k : Nat) (A0 : Option Addr) (c0 : Nat) (l0 : List (S65)) (r : Bool) (w : World) (hr0 : Kd.C k65 w A0 l0.length l0) (hc0 : l0.length ≤ c0) (h : r3_Ordered.f k l0 = some r) :
  Calls Try.prog 91 #[.slice A0 l0.length c0] w fun e w' => e = .returned (.bool r) ∧ Below w.heap.size w w' := by
 have hu65 := Try.underlying65
 have hu24 := Try.underlying24
 have HR0 := Aside0.mk hr0
 have HC0 := Aside0.mk hc0
 clear hr0 hc0
 have HB := aK (Below.refl w.heap.size w)
 have H : (r3_Ordered.l0 k l0 l0 (l0.length : Int) 0) = some r := h
 clear h
 have H' := Aside0.mk H
 clear H
 go_enter Try.func91, Try.ntmps91
 go_wp2
 go_loopg [7] k (fun kq v7 w' => ∃ (x7_1 : Int), v7 = .int .i64 x7_1 ∧ Aside0 (r3_Ordered.l0 kq l0 l0 (l0.length : Int) x7_1 = some r) ∧ Aside0 (kq ≤ k) ∧ Aside0 (Below w.heap.size w w'))
 case atStart => exact ⟨(0), (by first | rfl | (simp; done) | (simp [*]; done)), H', ⟨Nat.le_refl _⟩, ⟨bO⟩⟩
 case round =>
  clear H'
  obtain ⟨x7_1, rfl, HA, HK1, HB⟩ := hrel
  cases gk with
  | zero => exact absurd HA.out (by simp [r3_Ordered.l0])
  | succ k1 =>
   have H := HA.out
   clear HA
   simp only [r3_Ordered.l0] at H
   by_cases c2 : x7_1 < (l0.length : Int)
   rotate_left
   ·rw [if_neg c2] at H
    have c2b0 : decide (x7_1 < (l0.length : Int)) = false := decide_eq_false c2
    clear c2
    obtain rfl := Option.some.inj H
    go_wp2
    go_ret
    exact ⟨eW, bO⟩
   rw [if_pos c2] at H
   have c2b0 : decide (x7_1 < (l0.length : Int)) = true := decide_eq_true c2
   clear c2
   by_cases c3 : 0 ≤ x7_1
   rotate_left
   ·rw [if_neg c3] at H
    exact absurd H (by simp)
   rw [if_pos c3] at H
   have c3b0 : decide (0 ≤ x7_1) = true := decide_eq_true c3
   clear c3
   by_cases c4 : x7_1 < (l0.length : Int)
   rotate_left
   ·rw [if_neg c4] at H
    exact absurd H (by simp)
   rw [if_pos c4] at H
   have c4b0 : decide (x7_1 < (l0.length : Int)) = true := decide_eq_true c4
   clear c4
   obtain ⟨t966, A5, H⟩ := oB H
   try dsimp only at H
   by_cases c6 : t966 = true
   rotate_left
   ·replace c6 := Bool.eq_false_iff.mpr c6
    subst c6
    rw [if_neg (show ¬ (false = true) by decide)] at H
    obtain rfl := Option.some.inj H
    have p964 : 0 ≤ (x7_1 : Int) := of_decide_eq_true (aA)
    have q964 : x7_1 < (l0.length : Int) := of_decide_eq_true (aA)
    obtain ⟨ad964, e964, hx964_0, hx964_1, hx964_2, hx964_3, hx964_4, hx964_5, hx964_6⟩ := at_T65 HR0.out x7_1 p964 q964
    cases e964
    replace hx964_0 := hW HB.out hx964_0
    replace hx964_1 := hW HB.out hx964_1
    replace hx964_2 := hW HB.out hx964_2
    replace hx964_3 := hW HB.out hx964_3
    replace hx964_4 := hW HB.out hx964_4
    replace hx964_5 := hW HB.out hx964_5
    replace hx964_6 := hW HB.out hx964_6
    replace p964 := eq_true p964
    replace q964 := eq_true q964
    go_wp2_with (first | ((with_reducible refine gate_dst (N := 4) rfl ?_); refine box_event ?hg (N := 4) ?hd (cs := #[.int .i64 0, .int .i64 0, .string (⟨#[]⟩ : ByteArray), .int .i64 0, .int .i64 0, .string (⟨#[]⟩ : ByteArray), .bool false]) (t := 65) ?hr ?_; (case hd => rfl); (case hg => rfl); (case hr => exact hR); intro gb965 hg w54 hbox hb; have n0_ := aK (below_step bO hb); have n1_ := aK (hbox); have n2_ := aK ((by rw [hg]; exact (below_size bO) : w.heap.size ≤ gb965)); have n3_ := aK ((by rw [hg]; exact (below_size bO) : w.heap.size ≤ gb965)); clear HB; have HB := n0_; have BK965 := n1_; have GW965 := n2_; have GE965 := n3_; clear n0_ n1_ n2_ n3_ hb hbox hg; obtain ⟨hcz55_0, hcz55_1, hcz55_2, hcz55_3, hcz55_4, hcz55_5, hcz55_6⟩ := z7 BK965.out (.int .i64 0) (.int .i64 0) (.string (⟨#[]⟩ : ByteArray)) (.int .i64 0) (.int .i64 0) (.string (⟨#[]⟩ : ByteArray)) (.bool false); obtain ⟨hfz55_0, hfz55_1, hfz55_2, hfz55_3, hfz55_4, hfz55_5, hfz55_6⟩ := f7 BK965.out) | ((with_reducible refine gate_callee (f := 23) rfl ?_); refine gL (some 14) rfl Try.func23 #[.agg #[.int .i64 ((rd_T65 l0 x7_1).f0.f0), .int .i64 ((rd_T65 l0 x7_1).f0.f1), .string ((rd_T65 l0 x7_1).f0.f2)]] rfl ?_; (with_reducible refine (r1_Valid.calls k1 ((rd_T65 l0 x7_1).f0.f0) ((rd_T65 l0 x7_1).f0.f1) ((rd_T65 l0 x7_1).f0.f2) false _ A5.out).mono ?_); rintro e w56 ⟨rfl, hb⟩; refine ⟨_, rfl, ?_⟩; have n0_ := aK (blk_below (g := gb965) (o := .cells #[.int .i64 ((rd_T65 l0 x7_1).f0.f0), .int .i64 ((rd_T65 l0 x7_1).f0.f1), .string ((rd_T65 l0 x7_1).f0.f2), .int .i64 ((rd_T65 l0 x7_1).f1.f0), .int .i64 ((rd_T65 l0 x7_1).f1.f1), .string ((rd_T65 l0 x7_1).f1.f2), .bool ((rd_T65 l0 x7_1).f2)] 65 (0, 0)) (put7 BK965.out) hb); have n1_ := aK (below_step (bS GE965.out) hb); clear BK965 HB; have BK965 := n0_; have HB := n1_; clear n0_ n1_; (try clear hb)))
    go_ret
    exact ⟨eW, bS GE965.out⟩
   subst c6
   rw [if_pos rfl] at H
   obtain ⟨bq7, hbq7⟩ : ∃ b_ : Bool, b_ = ((rd_T65 l0 x7_1).f2) := ⟨_, rfl⟩
   replace H : (if bq7 = true then (if x7_1 < (wrap64 ((l0.length : Int) - 1)) then (r3_Ordered.j1 k1 l0 x7_1 l0 (l0.length : Int) x7_1 true ((rd_T65 l0 x7_1).f0.f0) ((rd_T65 l0 x7_1).f0.f1) ((rd_T65 l0 x7_1).f0.f2) ((rd_T65 l0 x7_1).f1.f0) ((rd_T65 l0 x7_1).f1.f1) ((rd_T65 l0 x7_1).f1.f2) bq7) else (r3_Ordered.j1 k1 l0 x7_1 l0 (l0.length : Int) x7_1 (!(((rd_T65 l0 x7_1).f1.f0) == 0) || (!(((rd_T65 l0 x7_1).f1.f1) == 0) || (!((((rd_T65 l0 x7_1).f1.f2).toList) == ([] : List UInt8))))) ((rd_T65 l0 x7_1).f0.f0) ((rd_T65 l0 x7_1).f0.f1) ((rd_T65 l0 x7_1).f0.f2) ((rd_T65 l0 x7_1).f1.f0) ((rd_T65 l0 x7_1).f1.f1) ((rd_T65 l0 x7_1).f1.f2) bq7)) else ((r1_Valid.f k1 ((rd_T65 l0 x7_1).f1.f0) ((rd_T65 l0 x7_1).f1.f1) ((rd_T65 l0 x7_1).f1.f2)).bind fun t969 => (if t969 = true then ((r1_Compare.f ((rd_T65 l0 x7_1).f0.f0) ((rd_T65 l0 x7_1).f0.f1) ((rd_T65 l0 x7_1).f0.f2) ((rd_T65 l0 x7_1).f1.f0) ((rd_T65 l0 x7_1).f1.f1) ((rd_T65 l0 x7_1).f1.f2)).bind fun t970 => (r3_Ordered.j2 k1 l0 x7_1 l0 (l0.length : Int) x7_1 (decide (t970 ≥ 0)) ((rd_T65 l0 x7_1).f0.f0) ((rd_T65 l0 x7_1).f0.f1) ((rd_T65 l0 x7_1).f0.f2) ((rd_T65 l0 x7_1).f1.f0) ((rd_T65 l0 x7_1).f1.f1) ((rd_T65 l0 x7_1).f1.f2) bq7)) else (r3_Ordered.j2 k1 l0 x7_1 l0 (l0.length : Int) x7_1 true ((rd_T65 l0 x7_1).f0.f0) ((rd_T65 l0 x7_1).f0.f1) ((rd_T65 l0 x7_1).f0.f2) ((rd_T65 l0 x7_1).f1.f0) ((rd_T65 l0 x7_1).f1.f1) ((rd_T65 l0 x7_1).f1.f2) bq7)))) = some r := by rw [← hbq7] at H; exact H
   have Nbq7 := Aside0.mk hbq7
   clear hbq7
   by_cases c8 : bq7 = true
   rotate_left
   ·replace c8 := Bool.eq_false_iff.mpr c8
    subst c8
    rw [if_neg (show ¬ (false = true) by decide)] at H
    have HC28 := Aside0.mk H
    clear H
    have p964 : 0 ≤ (x7_1 : Int) := of_decide_eq_true (aA)
    have q964 : x7_1 < (l0.length : Int) := of_decide_eq_true (aA)
    obtain ⟨ad964, e964, hx964_0, hx964_1, hx964_2, hx964_3, hx964_4, hx964_5, hx964_6⟩ := at_T65 HR0.out x7_1 p964 q964
    (try rw [← Nbq7.out] at hx964_6)
    cases e964
    replace hx964_0 := hW HB.out hx964_0
    replace hx964_1 := hW HB.out hx964_1
    replace hx964_2 := hW HB.out hx964_2
    replace hx964_3 := hW HB.out hx964_3
    replace hx964_4 := hW HB.out hx964_4
    replace hx964_5 := hW HB.out hx964_5
    replace hx964_6 := hW HB.out hx964_6
    replace p964 := eq_true p964
    replace q964 := eq_true q964
    go_upto_region 9 with (first | ((with_reducible refine gate_dst (N := 4) rfl ?_); refine box_event ?hg (N := 4) ?hd (cs := #[.int .i64 0, .int .i64 0, .string (⟨#[]⟩ : ByteArray), .int .i64 0, .int .i64 0, .string (⟨#[]⟩ : ByteArray), .bool false]) (t := 65) ?hr ?_; (case hd => rfl); (case hg => rfl); (case hr => exact hR); intro gb965 hg w29 hbox hb; have n0_ := aK (below_step bO hb); have n1_ := aK (hbox); have n2_ := aK ((by rw [hg]; exact (below_size bO) : w.heap.size ≤ gb965)); have n3_ := aK ((by rw [hg]; exact (below_size bO) : w.heap.size ≤ gb965)); clear HB; have HB := n0_; have BK965 := n1_; have GW965 := n2_; have GE965 := n3_; clear n0_ n1_ n2_ n3_ hb hbox hg; obtain ⟨hcz30_0, hcz30_1, hcz30_2, hcz30_3, hcz30_4, hcz30_5, hcz30_6⟩ := z7 BK965.out (.int .i64 0) (.int .i64 0) (.string (⟨#[]⟩ : ByteArray)) (.int .i64 0) (.int .i64 0) (.string (⟨#[]⟩ : ByteArray)) (.bool false); obtain ⟨hfz30_0, hfz30_1, hfz30_2, hfz30_3, hfz30_4, hfz30_5, hfz30_6⟩ := f7 BK965.out) | ((with_reducible refine gate_callee (f := 23) rfl ?_); refine gL (some 14) rfl Try.func23 #[.agg #[.int .i64 ((rd_T65 l0 x7_1).f0.f0), .int .i64 ((rd_T65 l0 x7_1).f0.f1), .string ((rd_T65 l0 x7_1).f0.f2)]] rfl ?_; (with_reducible refine (r1_Valid.calls k1 ((rd_T65 l0 x7_1).f0.f0) ((rd_T65 l0 x7_1).f0.f1) ((rd_T65 l0 x7_1).f0.f2) true _ A5.out).mono ?_); rintro e w31 ⟨rfl, hb⟩; refine ⟨_, rfl, ?_⟩; have n0_ := aK (blk_below (g := gb965) (o := .cells #[.int .i64 ((rd_T65 l0 x7_1).f0.f0), .int .i64 ((rd_T65 l0 x7_1).f0.f1), .string ((rd_T65 l0 x7_1).f0.f2), .int .i64 ((rd_T65 l0 x7_1).f1.f0), .int .i64 ((rd_T65 l0 x7_1).f1.f1), .string ((rd_T65 l0 x7_1).f1.f2), .bool false] 65 (0, 0)) (put7 BK965.out) hb); have n1_ := aK (below_step (bS GE965.out) hb); clear BK965 HB; have BK965 := n0_; have HB := n1_; clear n0_ n1_; (try clear hb); obtain ⟨hcz32_0, hcz32_1, hcz32_2, hcz32_3, hcz32_4, hcz32_5, hcz32_6⟩ := z7 BK965.out (.int .i64 ((rd_T65 l0 x7_1).f0.f0)) (.int .i64 ((rd_T65 l0 x7_1).f0.f1)) (.string ((rd_T65 l0 x7_1).f0.f2)) (.int .i64 ((rd_T65 l0 x7_1).f1.f0)) (.int .i64 ((rd_T65 l0 x7_1).f1.f1)) (.string ((rd_T65 l0 x7_1).f1.f2)) (.bool false); obtain ⟨hfz32_0, hfz32_1, hfz32_2, hfz32_3, hfz32_4, hfz32_5, hfz32_6⟩ := f7 BK965.out))
    (try simp only [Act.put, List.setIfInBounds_toArray, List.set_cons_zero, List.set_cons_succ])
    go_cut [40] (fun v40 wc => ∃ (kq : Nat) (x40_27 : Bool), v40 = .bool x40_27 ∧ Aside0 (r3_Ordered.j2 kq l0 x7_1 l0 (l0.length : Int) x7_1 x40_27 ((rd_T65 l0 x7_1).f0.f0) ((rd_T65 l0 x7_1).f0.f1) ((rd_T65 l0 x7_1).f0.f2) ((rd_T65 l0 x7_1).f1.f0) ((rd_T65 l0 x7_1).f1.f1) ((rd_T65 l0 x7_1).f1.f2) false = some r) ∧ Aside0 (kq ≤ k1) ∧ Aside0 (wc.heap[gb965]? = some (.cells #[.int .i64 ((rd_T65 l0 x7_1).f0.f0), .int .i64 ((rd_T65 l0 x7_1).f0.f1), .string ((rd_T65 l0 x7_1).f0.f2), .int .i64 ((rd_T65 l0 x7_1).f1.f0), .int .i64 ((rd_T65 l0 x7_1).f1.f1), .string ((rd_T65 l0 x7_1).f1.f2), .bool false] 65 (0, 0))) ∧ Aside0 (Below w.heap.size w wc))
    case first =>
     have H := HC28.out
     clear HC28
     obtain ⟨t969, A33, H⟩ := oB H
     try dsimp only at H
     by_cases c34 : t969 = true
     rotate_left
     ·replace c34 := Bool.eq_false_iff.mpr c34
      subst c34
      rw [if_neg (show ¬ (false = true) by decide)] at H
      have H' := Aside0.mk H
      clear H
      obtain ⟨hcz40_0, hcz40_1, hcz40_2, hcz40_3, hcz40_4, hcz40_5, hcz40_6⟩ := z7 BK965.out (.int .i64 ((rd_T65 l0 x7_1).f0.f0)) (.int .i64 ((rd_T65 l0 x7_1).f0.f1)) (.string ((rd_T65 l0 x7_1).f0.f2)) (.int .i64 ((rd_T65 l0 x7_1).f1.f0)) (.int .i64 ((rd_T65 l0 x7_1).f1.f1)) (.string ((rd_T65 l0 x7_1).f1.f2)) (.bool false)
      obtain ⟨hfz40_0, hfz40_1, hfz40_2, hfz40_3, hfz40_4, hfz40_5, hfz40_6⟩ := f7 BK965.out
      go_wp2_with (first | ((with_reducible refine gate_callee (f := 23) rfl ?_); refine gL (some 31) rfl Try.func23 #[.agg #[.int .i64 ((rd_T65 l0 x7_1).f1.f0), .int .i64 ((rd_T65 l0 x7_1).f1.f1), .string ((rd_T65 l0 x7_1).f1.f2)]] rfl ?_; (with_reducible refine (r1_Valid.calls k1 ((rd_T65 l0 x7_1).f1.f0) ((rd_T65 l0 x7_1).f1.f1) ((rd_T65 l0 x7_1).f1.f2) false _ A33.out).mono ?_); rintro e w41 ⟨rfl, hb⟩; refine ⟨_, rfl, ?_⟩; have n0_ := aK (blk_below (bX BK965.out) hb); have n1_ := aK (below_step (bS GE965.out) hb); clear BK965 HB; have BK965 := n0_; have HB := n1_; clear n0_ n1_; (try clear hb)))
      go_meet
      case rel => exact ⟨_, (true), (by first | rfl | (simp; done) | (simp [*]; done)), H', ⟨by have := HK1.out; first | omega | exact Nat.le_refl _⟩, ⟨bX BK965.out⟩, ⟨bS GE965.out⟩⟩
     subst c34
     rw [if_pos rfl] at H
     obtain ⟨t970, A35, H⟩ := oB H
     try dsimp only at H
     have H' := Aside0.mk H
     clear H
     obtain ⟨hcz36_0, hcz36_1, hcz36_2, hcz36_3, hcz36_4, hcz36_5, hcz36_6⟩ := z7 BK965.out (.int .i64 ((rd_T65 l0 x7_1).f0.f0)) (.int .i64 ((rd_T65 l0 x7_1).f0.f1)) (.string ((rd_T65 l0 x7_1).f0.f2)) (.int .i64 ((rd_T65 l0 x7_1).f1.f0)) (.int .i64 ((rd_T65 l0 x7_1).f1.f1)) (.string ((rd_T65 l0 x7_1).f1.f2)) (.bool false)
     obtain ⟨hfz36_0, hfz36_1, hfz36_2, hfz36_3, hfz36_4, hfz36_5, hfz36_6⟩ := f7 BK965.out
     go_wp2_with (first | ((with_reducible refine gate_callee (f := 23) rfl ?_); refine gL (some 31) rfl Try.func23 #[.agg #[.int .i64 ((rd_T65 l0 x7_1).f1.f0), .int .i64 ((rd_T65 l0 x7_1).f1.f1), .string ((rd_T65 l0 x7_1).f1.f2)]] rfl ?_; (with_reducible refine (r1_Valid.calls k1 ((rd_T65 l0 x7_1).f1.f0) ((rd_T65 l0 x7_1).f1.f1) ((rd_T65 l0 x7_1).f1.f2) true _ A33.out).mono ?_); rintro e w37 ⟨rfl, hb⟩; refine ⟨_, rfl, ?_⟩; have n0_ := aK (blk_below (bX BK965.out) hb); have n1_ := aK (below_step (bS GE965.out) hb); clear BK965 HB; have BK965 := n0_; have HB := n1_; clear n0_ n1_; (try clear hb); obtain ⟨hcz38_0, hcz38_1, hcz38_2, hcz38_3, hcz38_4, hcz38_5, hcz38_6⟩ := z7 BK965.out (.int .i64 ((rd_T65 l0 x7_1).f0.f0)) (.int .i64 ((rd_T65 l0 x7_1).f0.f1)) (.string ((rd_T65 l0 x7_1).f0.f2)) (.int .i64 ((rd_T65 l0 x7_1).f1.f0)) (.int .i64 ((rd_T65 l0 x7_1).f1.f1)) (.string ((rd_T65 l0 x7_1).f1.f2)) (.bool false); obtain ⟨hfz38_0, hfz38_1, hfz38_2, hfz38_3, hfz38_4, hfz38_5, hfz38_6⟩ := f7 BK965.out) | (go_at_call 26; (with_reducible refine (r1_Compare.calls ((rd_T65 l0 x7_1).f0.f0) ((rd_T65 l0 x7_1).f0.f1) ((rd_T65 l0 x7_1).f0.f2) ((rd_T65 l0 x7_1).f1.f0) ((rd_T65 l0 x7_1).f1.f1) ((rd_T65 l0 x7_1).f1.f2) t970 _ A35.out).mono ?_); rintro e w39 ⟨rfl, hb⟩; have n0_ := aK (blk_below (bX BK965.out) hb); have n1_ := aK (below_step (bS GE965.out) hb); clear BK965 HB; have BK965 := n0_; have HB := n1_; clear n0_ n1_; (try clear hb)))
     go_meet
     case rel => exact ⟨_, (decide (t970 ≥ 0)), (by first | rfl | (simp; done) | (simp [*]; done)), H', ⟨by have := HK1.out; first | omega | exact Nat.le_refl _⟩, ⟨bX BK965.out⟩, ⟨bS GE965.out⟩⟩
    case rest =>
     clear HC28
     try clear c1
     try clear c2
     try clear p2
     try clear c3
     try clear p6
     try clear q7
     try clear c8
     try clear p9
     try clear q9
     try clear hx9
     try clear c16
     try clear c17
     try clear c17b0
     try clear c19
     try clear c19b0
     try clear c20
     try clear c20b0
     try clear c22
     try clear c22b0
     try clear c23
     try clear c26
     try clear c34
     try clear hcz15_1 hcz15_2 hcz15_3 hcz15_4 hcz15_5 hcz15_6
     try clear hcz30_0 hcz30_1 hcz30_2 hcz30_3 hcz30_4 hcz30_5 hcz30_6
     try clear hcz32_0 hcz32_1 hcz32_2 hcz32_3 hcz32_4 hcz32_5 hcz32_6
     try clear hcz36_0 hcz36_1 hcz36_2 hcz36_3 hcz36_4 hcz36_5 hcz36_6
     try clear hcz38_0 hcz38_1 hcz38_2 hcz38_3 hcz38_4 hcz38_5 hcz38_6
     try clear hcz40_0 hcz40_1 hcz40_2 hcz40_3 hcz40_4 hcz40_5 hcz40_6
     try clear hfz11_0 hfz11_1 hfz11_2 hfz11_3 hfz11_4 hfz11_5 hfz11_6
     try clear hfz13_0 hfz13_1 hfz13_2 hfz13_3 hfz13_4 hfz13_5 hfz13_6
     try clear hfz15_0 hfz15_1 hfz15_2 hfz15_3 hfz15_4 hfz15_5 hfz15_6
     try clear hfz30_0 hfz30_1 hfz30_2 hfz30_3 hfz30_4 hfz30_5 hfz30_6
     try clear hfz32_0 hfz32_1 hfz32_2 hfz32_3 hfz32_4 hfz32_5 hfz32_6
     try clear hfz36_0 hfz36_1 hfz36_2 hfz36_3 hfz36_4 hfz36_5 hfz36_6
     try clear hfz38_0 hfz38_1 hfz38_2 hfz38_3 hfz38_4 hfz38_5 hfz38_6
     try clear hfz40_0 hfz40_1 hfz40_2 hfz40_3 hfz40_4 hfz40_5 hfz40_6
     try clear hx964_0
     try clear hx964_1
     try clear hx964_2
     try clear hx964_3
     try clear hx964_4
     try clear hx964_5
     try clear hx964_6
     try clear hx967_0
     try clear hx967_1
     try clear hx967_2
     try clear hx967_3
     try clear hx967_4
     try clear hx967_5
     try clear hx967_6
     try clear p964
     try clear p967
     try clear q964
     try clear q967
     obtain ⟨kq, x40_27, rfl, HA, HJ27, BK965, HB⟩ := hcut
     cases kq with
     | zero => exact absurd HA.out (by simp [r3_Ordered.j2])
     | succ kj27 =>
      have H := HA.out
      clear HA
      simp only [r3_Ordered.j2] at H
      by_cases c42 : x40_27 = true
      rotate_left
      ·replace c42 := Bool.eq_false_iff.mpr c42
       subst c42
       rw [if_neg (show ¬ (false = true) by decide)] at H
       by_cases c43 : x7_1 > 0
       rotate_left
       ·rw [if_neg c43] at H
        have c43b0 : decide (0 < x7_1) = false := decide_eq_false c43
        clear c43
        have H' := Aside0.mk H
        clear H
        try go_wp2
        have n0_ := aK (blk_drew BK965.out)
        have n1_ := aK (below_drew1 HB.out)
        clear BK965
        clear HB
        have BK965 := n0_
        have HB := n1_
        clear n0_ n1_
        refine start_ (n := 14) (S := fun w' => True) (ds := []) #[false, false, false, false, false, false, false, false, false, false, false, false, false, false] (by kernel_rfl) rfl rfl trivial (fun hHeld => ?_); refine with_tabW r3_Ordered.tab11 r3_Ordered.bits11 (fun HT_ HW_ => ?_)
        generalize wc.drew = w53 at BK965 HB hHeld ⊢
        refine pY (i := 0) (N := some 41) (tf 1 13) rfl rfl HT_.out ?_
        refine pY (i := 1) (N := some 42) (tf 2 12) rfl rfl HT_.out ?_
        refine pY (i := 2) (N := some 43) (tf 3 11) rfl rfl HT_.out ?_
        refine pure_ (i := 3) (N := some 44) (v := undef) (a' := ?_) (tf 4 10) rfl rfl (any_of HT_.out (by kernel_rfl)) (fun _ _ _ h => h) (Or.inr ⟨by rfl, rfl⟩) ?_ ?_
        rotate_left
        ·exact aP
        refine pure_ (i := 4) (N := some 45) (v := undef) (a' := ?_) (tf 5 9) rfl rfl (any_of HT_.out (by kernel_rfl)) (fun _ _ _ h => h) (Or.inr ⟨by rfl, rfl⟩) ?_ ?_
        rotate_left
        ·exact aP
        refine pure_ (i := 5) (N := some 46) (v := undef) (a' := ?_) (tf 6 8) rfl rfl (any_of HT_.out (by kernel_rfl)) (fun _ _ _ h => h) (Or.inr ⟨by rfl, rfl⟩) ?_ ?_
        rotate_left
        ·exact aP
        refine pure_ (i := 6) (N := some 47) (v := undef) (a' := ?_) (tf 7 7) rfl rfl (any_of HT_.out (by kernel_rfl)) (fun _ _ _ h => h) (Or.inr ⟨by rfl, rfl⟩) ?_ ?_
        rotate_left
        ·exact aP
        refine pure_ (i := 7) (N := some 48) (v := undef) (a' := ?_) (tf 8 6) rfl rfl (any_of HT_.out (by kernel_rfl)) (fun _ _ _ h => h) (Or.inr ⟨by rfl, rfl⟩) ?_ ?_
        rotate_left
        ·exact aP
        refine pure_ (i := 8) (N := some 49) (v := undef) (a' := ?_) (tf 9 5) rfl rfl (any_of HT_.out (by kernel_rfl)) (fun _ _ _ h => h) (Or.inr ⟨by rfl, rfl⟩) ?_ ?_
        rotate_left
        ·exact aP
        refine pure_ (i := 9) (N := some 50) (v := undef) (a' := ?_) (tf 10 4) rfl rfl (any_of HT_.out (by kernel_rfl)) (fun _ _ _ h => h) (Or.inr ⟨by rfl, rfl⟩) ?_ ?_
        rotate_left
        ·exact aP
        refine pure_ (i := 10) (N := some 51) (v := undef) (a' := ?_) (tf 11 3) rfl rfl (any_of HT_.out (by kernel_rfl)) (fun _ _ _ h => h) (Or.inr ⟨by rfl, rfl⟩) ?_ ?_
        rotate_left
        ·exact aP
        refine pure_ (i := 11) (N := some 52) (v := undef) (a' := ?_) (tf 12 2) rfl rfl (any_of HT_.out (by kernel_rfl)) (fun _ _ _ h => h) (Or.inr ⟨by rfl, rfl⟩) ?_ ?_
        rotate_left
        ·exact aP
        refine pure_ (i := 12) (N := some 53) (v := undef) (a' := ?_) (tf 13 1) rfl rfl (any_of HT_.out (by kernel_rfl)) (fun _ _ _ h => h) (Or.inr ⟨by rfl, rfl⟩) ?_ ?_
        rotate_left
        ·exact aP
        refine pY (i := 13) (N := some 54) (tf 14 0) rfl rfl HT_.out ?_
        refine done_ (done_of HT_.out (by kernel_rfl)) ?_
        try go_wp2
        go_roundg kj27
        case measure => have := HK1.out; have := HJ27.out; omega
        case rel => exact ⟨(wrap64 (x7_1 + 1)), (by first | rfl | (simp; done) | (simp [*]; done)), H', ⟨by have := HK1.out; have := HJ27.out; omega⟩, ⟨bS GE965.out⟩⟩
       rw [if_pos c43] at H
       have c43b0 : decide (0 < x7_1) = true := decide_eq_true c43
       clear c43
       obtain ⟨ji44, hji44⟩ : ∃ j_ : Int, (wrap64 (x7_1 - 1)) = j_ := ⟨_, rfl⟩
       replace H : (if 0 ≤ (ji44) then (if (ji44) < (l0.length : Int) then ((r1_Compare.f ((rd_T65 l0 (ji44)).f1.f0) ((rd_T65 l0 (ji44)).f1.f1) ((rd_T65 l0 (ji44)).f1.f2) ((rd_T65 l0 x7_1).f0.f0) ((rd_T65 l0 x7_1).f0.f1) ((rd_T65 l0 x7_1).f0.f2)).bind fun t972 => (if t972 ≥ 0 then (some false) else (r3_Ordered.l0 kj27 l0 l0 (l0.length : Int) (wrap64 (x7_1 + 1))))) else (none)) else (none)) = some r := by first | (rw [hji44] at H; exact H) | (simp only [hji44] at H ⊢; exact H)
       have hji44w : (IntKind.i64.wrap (x7_1 - 1)) = ji44 := (i64_w _).trans hji44
       by_cases c45 : 0 ≤ (ji44)
       rotate_left
       ·rw [if_neg c45] at H
        exact absurd H (by simp)
       rw [if_pos c45] at H
       have c45b0 : decide (0 ≤ (ji44)) = true := decide_eq_true c45
       clear c45
       by_cases c46 : (ji44) < (l0.length : Int)
       rotate_left
       ·rw [if_neg c46] at H
        exact absurd H (by simp)
       rw [if_pos c46] at H
       have c46b0 : decide ((ji44) < (l0.length : Int)) = true := decide_eq_true c46
       clear c46
       obtain ⟨t972, A47, H⟩ := oB H
       try dsimp only at H
       by_cases c48 : t972 ≥ 0
       rotate_left
       ·rw [if_neg c48] at H
        have c48b0 : decide (0 ≤ t972) = false := decide_eq_false c48
        clear c48
        have H' := Aside0.mk H
        clear H
        try go_wp2
        have n0_ := aK (blk_drew BK965.out)
        have n1_ := aK (below_drew1 HB.out)
        clear BK965
        clear HB
        have BK965 := n0_
        have HB := n1_
        clear n0_ n1_
        have p971 : 0 ≤ ((ji44) : Int) := of_decide_eq_true (aA)
        have q971 : (ji44) < (l0.length : Int) := of_decide_eq_true (aA)
        obtain ⟨ad971, e971, hx971_0, hx971_1, hx971_2, hx971_3, hx971_4, hx971_5, hx971_6⟩ := at_T65 HR0.out (ji44) p971 q971
        have hw971_6 := hx971_6
        have hw971_5 := hx971_5
        have hw971_4 := hx971_4
        have hw971_3 := hx971_3
        have hw971_2 := hx971_2
        have hw971_1 := hx971_1
        have hw971_0 := hx971_0
        (try rw [← Nbq7.out] at hx971_6)
        obtain rfl : ad964 = ad971 := (by injection e971)
        replace hx971_0 := hW HB.out hx971_0
        replace hx971_1 := hW HB.out hx971_1
        replace hx971_2 := hW HB.out hx971_2
        replace hx971_3 := hW HB.out hx971_3
        replace hx971_4 := hW HB.out hx971_4
        replace hx971_5 := hW HB.out hx971_5
        replace hx971_6 := hW HB.out hx971_6
        replace p971 := eq_true p971
        replace q971 := eq_true q971
        refine start_ (n := 14) (S := fun w' => w'.cell? ⟨gb965, 0, none⟩ = some (.int .i64 ((rd_T65 l0 x7_1).f0.f0)) ∧ w'.cell? ⟨gb965, 1, none⟩ = some (.int .i64 ((rd_T65 l0 x7_1).f0.f1)) ∧ w'.cell? ⟨gb965, 2, none⟩ = some (.string ((rd_T65 l0 x7_1).f0.f2)) ∧ w'.cell? ⟨gb965, 3, none⟩ = some (.int .i64 ((rd_T65 l0 x7_1).f1.f0)) ∧ w'.cell? ⟨gb965, 4, none⟩ = some (.int .i64 ((rd_T65 l0 x7_1).f1.f1)) ∧ w'.cell? ⟨gb965, 5, none⟩ = some (.string ((rd_T65 l0 x7_1).f1.f2)) ∧ w'.cell? ⟨gb965, 6, none⟩ = some (.bool false) ∧ w'.cell? (ad964.add (((ji44)).toNat * 7)) = some (.int .i64 ((rd_T65 l0 (ji44)).f0.f0)) ∧ w'.cell? ⟨(ad964.add (((ji44)).toNat * 7)).block, (ad964.add (((ji44)).toNat * 7)).off + 1, none⟩ = some (.int .i64 ((rd_T65 l0 (ji44)).f0.f1)) ∧ w'.cell? ⟨(ad964.add (((ji44)).toNat * 7)).block, (ad964.add (((ji44)).toNat * 7)).off + 2, none⟩ = some (.string ((rd_T65 l0 (ji44)).f0.f2)) ∧ w'.cell? ⟨(ad964.add (((ji44)).toNat * 7)).block, (ad964.add (((ji44)).toNat * 7)).off + 3, none⟩ = some (.int .i64 ((rd_T65 l0 (ji44)).f1.f0)) ∧ w'.cell? ⟨(ad964.add (((ji44)).toNat * 7)).block, (ad964.add (((ji44)).toNat * 7)).off + 4, none⟩ = some (.int .i64 ((rd_T65 l0 (ji44)).f1.f1)) ∧ w'.cell? ⟨(ad964.add (((ji44)).toNat * 7)).block, (ad964.add (((ji44)).toNat * 7)).off + 5, none⟩ = some (.string ((rd_T65 l0 (ji44)).f1.f2)) ∧ w'.cell? ⟨(ad964.add (((ji44)).toNat * 7)).block, (ad964.add (((ji44)).toNat * 7)).off + 6, none⟩ = some (.bool ((rd_T65 l0 (ji44)).f2))) (ds := []) #[false, false, false, false, false, false, false, false, false, false, false, false, false, false] (by kernel_rfl) rfl rfl ⟨(blk_cell BK965.out 0).trans rfl, (blk_cell BK965.out 1).trans rfl, (blk_cell BK965.out 2).trans rfl, (blk_cell BK965.out 3).trans rfl, (blk_cell BK965.out 4).trans rfl, (blk_cell BK965.out 5).trans rfl, (blk_cell BK965.out 6).trans rfl, ((HB.out.cell (World.block_lt_of_cell? w _ hw971_0)).trans hw971_0), ((HB.out.cell (World.block_lt_of_cell? w _ hw971_1)).trans hw971_1), ((HB.out.cell (World.block_lt_of_cell? w _ hw971_2)).trans hw971_2), ((HB.out.cell (World.block_lt_of_cell? w _ hw971_3)).trans hw971_3), ((HB.out.cell (World.block_lt_of_cell? w _ hw971_4)).trans hw971_4), ((HB.out.cell (World.block_lt_of_cell? w _ hw971_5)).trans hw971_5), ((HB.out.cell (World.block_lt_of_cell? w _ hw971_6)).trans hw971_6)⟩ (fun hHeld => ?_); refine with_tabW r3_Ordered.tab11 r3_Ordered.bits11 (fun HT_ HW_ => ?_)
        generalize wc.drew = w51 at BK965 HB hx971_0 hx971_1 hx971_2 hx971_3 hx971_4 hx971_5 hx971_6 hHeld ⊢
        refine pY (i := 0) (N := some 41) (tf 1 13) rfl rfl HT_.out ?_
        refine pY (i := 1) (N := some 42) (tf 2 12) rfl rfl HT_.out ?_
        refine pY (i := 2) (N := some 43) (tf 3 11) rfl rfl HT_.out ?_
        refine pY (i := 3) (N := some 44) (tf 4 10) rfl rfl HT_.out ?_
        refine pY (i := 4) (N := some 45) (tf 5 9) rfl rfl HT_.out ?_
        refine pY (i := 5) (N := some 46) (tf 6 8) rfl rfl HT_.out ?_
        refine pY (i := 6) (N := some 47) (tf 7 7) rfl rfl HT_.out ?_
        refine pY (i := 7) (N := some 48) (tf 8 6) rfl rfl HT_.out ?_
        refine pY (i := 9) (N := some 50) #[true, true, true, true, true, true, true, true, false, true, false, false, false, false] rfl rfl HT_.out ?_
        refine take_ (i := 8) (N := some 49) (v := ?_) (a' := ?_) (tf 10 4) rfl rfl (take_ofW HT_.out HW_.out (by kernel_rfl)) (fun _ _ _ h => h) (Or.inl ⟨by rfl, ?_⟩) hHeld ?_ ?_
        rotate_left
        ·rintro w' ⟨s0, s1, s2, s3, s4, s5, s6, s7, s8, s9, s10, s11, s12, s13⟩
         go_simp
         with_reducible rfl
        rotate_left
        ·exact aP
        refine take_ (i := 10) (N := some 51) (v := ?_) (a' := ?_) (tf 11 3) rfl rfl (take_ofW HT_.out HW_.out (by kernel_rfl)) (fun _ _ _ h => h) (Or.inl ⟨by rfl, ?_⟩) hHeld ?_ ?_
        rotate_left
        ·rintro w' ⟨s0, s1, s2, s3, s4, s5, s6, s7, s8, s9, s10, s11, s12, s13⟩
         go_simp
         with_reducible rfl
        rotate_left
        ·exact aP
        refine one_ (i := 11) (N := some 52) (tf 12 2) rfl rfl (one_of HT_.out (by kernel_rfl)) (by decide) (fun K hK => ?_)
        refine goes_ Try.func26 (by kernel_rfl) rfl #[.agg #[.int .i64 ((rd_T65 l0 (ji44)).f1.f0), .int .i64 ((rd_T65 l0 (ji44)).f1.f1), .string ((rd_T65 l0 (ji44)).f1.f2)], .agg #[.int .i64 ((rd_T65 l0 x7_1).f0.f0), .int .i64 ((rd_T65 l0 x7_1).f0.f1), .string ((rd_T65 l0 x7_1).f0.f2)]] (by rfl) rfl rfl (by (try simp only [List.map_toArray, List.map_cons, List.map_nil]); first | done | (simp only [hji44]; rfl) | rfl | (simp only [List.length_drop, List.length_take]; rfl)) ?_
        with_reducible refine (r1_Compare.calls ((rd_T65 l0 (ji44)).f1.f0) ((rd_T65 l0 (ji44)).f1.f1) ((rd_T65 l0 (ji44)).f1.f2) ((rd_T65 l0 x7_1).f0.f0) ((rd_T65 l0 x7_1).f0.f1) ((rd_T65 l0 x7_1).f0.f2) t972 _ A47.out).mono ?_
        rintro e w52 ⟨rfl, hb⟩
        refine ⟨_, rfl, ?_⟩
        have n0_ := aK (blk_below (bX BK965.out) hb)
        have n1_ := aK (below_step (bS GE965.out) hb)
        clear BK965
        clear HB
        have BK965 := n0_
        have HB := n1_
        clear n0_ n1_
        (try clear hb)
        (try clear hb2)
        (try clear hk)
        (try clear hi)
        refine hK.out _ _ ⟨(blk_cell BK965.out 0).trans rfl, (blk_cell BK965.out 1).trans rfl, (blk_cell BK965.out 2).trans rfl, (blk_cell BK965.out 3).trans rfl, (blk_cell BK965.out 4).trans rfl, (blk_cell BK965.out 5).trans rfl, (blk_cell BK965.out 6).trans rfl, ((HB.out.cell (World.block_lt_of_cell? w _ hw971_0)).trans hw971_0), ((HB.out.cell (World.block_lt_of_cell? w _ hw971_1)).trans hw971_1), ((HB.out.cell (World.block_lt_of_cell? w _ hw971_2)).trans hw971_2), ((HB.out.cell (World.block_lt_of_cell? w _ hw971_3)).trans hw971_3), ((HB.out.cell (World.block_lt_of_cell? w _ hw971_4)).trans hw971_4), ((HB.out.cell (World.block_lt_of_cell? w _ hw971_5)).trans hw971_5), ((HB.out.cell (World.block_lt_of_cell? w _ hw971_6)).trans hw971_6)⟩ (fun hHeld => ?_)
        clear hK K
        refine norm_ (a' := ?_) ?_ ?_
        rotate_left
        ·show Act.put _ (some 52) _ = _
         simp only [Act.put, List.setIfInBounds_toArray, List.set_cons_zero, List.set_cons_succ, i64_w, i32_w]
         rfl
        refine pY (i := 12) (N := some 53) (tf 13 1) rfl rfl HT_.out ?_
        refine pY (i := 13) (N := some 54) (tf 14 0) rfl rfl HT_.out ?_
        refine done_ (done_of HT_.out (by kernel_rfl)) ?_
        try go_wp2
        go_roundg kj27
        case measure => have := HK1.out; have := HJ27.out; omega
        case rel => exact ⟨(wrap64 (x7_1 + 1)), (by first | rfl | (simp; done) | (simp [*]; done)), H', ⟨by have := HK1.out; have := HJ27.out; omega⟩, ⟨bS GE965.out⟩⟩
       rw [if_pos c48] at H
       have c48b0 : decide (0 ≤ t972) = true := decide_eq_true c48
       clear c48
       obtain rfl := Option.some.inj H
       try go_wp2
       have n0_ := aK (blk_drew BK965.out)
       have n1_ := aK (below_drew1 HB.out)
       clear BK965
       clear HB
       have BK965 := n0_
       have HB := n1_
       clear n0_ n1_
       have p971 : 0 ≤ ((ji44) : Int) := of_decide_eq_true (aA)
       have q971 : (ji44) < (l0.length : Int) := of_decide_eq_true (aA)
       obtain ⟨ad971, e971, hx971_0, hx971_1, hx971_2, hx971_3, hx971_4, hx971_5, hx971_6⟩ := at_T65 HR0.out (ji44) p971 q971
       have hw971_6 := hx971_6
       have hw971_5 := hx971_5
       have hw971_4 := hx971_4
       have hw971_3 := hx971_3
       have hw971_2 := hx971_2
       have hw971_1 := hx971_1
       have hw971_0 := hx971_0
       (try rw [← Nbq7.out] at hx971_6)
       obtain rfl : ad964 = ad971 := (by injection e971)
       replace hx971_0 := hW HB.out hx971_0
       replace hx971_1 := hW HB.out hx971_1
       replace hx971_2 := hW HB.out hx971_2
       replace hx971_3 := hW HB.out hx971_3
       replace hx971_4 := hW HB.out hx971_4
       replace hx971_5 := hW HB.out hx971_5
       replace hx971_6 := hW HB.out hx971_6
       replace p971 := eq_true p971
       replace q971 := eq_true q971
       refine start_ (n := 14) (S := fun w' => w'.cell? ⟨gb965, 0, none⟩ = some (.int .i64 ((rd_T65 l0 x7_1).f0.f0)) ∧ w'.cell? ⟨gb965, 1, none⟩ = some (.int .i64 ((rd_T65 l0 x7_1).f0.f1)) ∧ w'.cell? ⟨gb965, 2, none⟩ = some (.string ((rd_T65 l0 x7_1).f0.f2)) ∧ w'.cell? ⟨gb965, 3, none⟩ = some (.int .i64 ((rd_T65 l0 x7_1).f1.f0)) ∧ w'.cell? ⟨gb965, 4, none⟩ = some (.int .i64 ((rd_T65 l0 x7_1).f1.f1)) ∧ w'.cell? ⟨gb965, 5, none⟩ = some (.string ((rd_T65 l0 x7_1).f1.f2)) ∧ w'.cell? ⟨gb965, 6, none⟩ = some (.bool false) ∧ w'.cell? (ad964.add (((ji44)).toNat * 7)) = some (.int .i64 ((rd_T65 l0 (ji44)).f0.f0)) ∧ w'.cell? ⟨(ad964.add (((ji44)).toNat * 7)).block, (ad964.add (((ji44)).toNat * 7)).off + 1, none⟩ = some (.int .i64 ((rd_T65 l0 (ji44)).f0.f1)) ∧ w'.cell? ⟨(ad964.add (((ji44)).toNat * 7)).block, (ad964.add (((ji44)).toNat * 7)).off + 2, none⟩ = some (.string ((rd_T65 l0 (ji44)).f0.f2)) ∧ w'.cell? ⟨(ad964.add (((ji44)).toNat * 7)).block, (ad964.add (((ji44)).toNat * 7)).off + 3, none⟩ = some (.int .i64 ((rd_T65 l0 (ji44)).f1.f0)) ∧ w'.cell? ⟨(ad964.add (((ji44)).toNat * 7)).block, (ad964.add (((ji44)).toNat * 7)).off + 4, none⟩ = some (.int .i64 ((rd_T65 l0 (ji44)).f1.f1)) ∧ w'.cell? ⟨(ad964.add (((ji44)).toNat * 7)).block, (ad964.add (((ji44)).toNat * 7)).off + 5, none⟩ = some (.string ((rd_T65 l0 (ji44)).f1.f2)) ∧ w'.cell? ⟨(ad964.add (((ji44)).toNat * 7)).block, (ad964.add (((ji44)).toNat * 7)).off + 6, none⟩ = some (.bool ((rd_T65 l0 (ji44)).f2))) (ds := []) #[false, false, false, false, false, false, false, false, false, false, false, false, false, false] (by kernel_rfl) rfl rfl ⟨(blk_cell BK965.out 0).trans rfl, (blk_cell BK965.out 1).trans rfl, (blk_cell BK965.out 2).trans rfl, (blk_cell BK965.out 3).trans rfl, (blk_cell BK965.out 4).trans rfl, (blk_cell BK965.out 5).trans rfl, (blk_cell BK965.out 6).trans rfl, ((HB.out.cell (World.block_lt_of_cell? w _ hw971_0)).trans hw971_0), ((HB.out.cell (World.block_lt_of_cell? w _ hw971_1)).trans hw971_1), ((HB.out.cell (World.block_lt_of_cell? w _ hw971_2)).trans hw971_2), ((HB.out.cell (World.block_lt_of_cell? w _ hw971_3)).trans hw971_3), ((HB.out.cell (World.block_lt_of_cell? w _ hw971_4)).trans hw971_4), ((HB.out.cell (World.block_lt_of_cell? w _ hw971_5)).trans hw971_5), ((HB.out.cell (World.block_lt_of_cell? w _ hw971_6)).trans hw971_6)⟩ (fun hHeld => ?_); refine with_tabW r3_Ordered.tab11 r3_Ordered.bits11 (fun HT_ HW_ => ?_)
       generalize wc.drew = w49 at BK965 HB hx971_0 hx971_1 hx971_2 hx971_3 hx971_4 hx971_5 hx971_6 hHeld ⊢
       refine pY (i := 0) (N := some 41) (tf 1 13) rfl rfl HT_.out ?_
       refine pY (i := 1) (N := some 42) (tf 2 12) rfl rfl HT_.out ?_
       refine pY (i := 2) (N := some 43) (tf 3 11) rfl rfl HT_.out ?_
       refine pY (i := 3) (N := some 44) (tf 4 10) rfl rfl HT_.out ?_
       refine pY (i := 4) (N := some 45) (tf 5 9) rfl rfl HT_.out ?_
       refine pY (i := 5) (N := some 46) (tf 6 8) rfl rfl HT_.out ?_
       refine pY (i := 6) (N := some 47) (tf 7 7) rfl rfl HT_.out ?_
       refine pY (i := 7) (N := some 48) (tf 8 6) rfl rfl HT_.out ?_
       refine pY (i := 9) (N := some 50) #[true, true, true, true, true, true, true, true, false, true, false, false, false, false] rfl rfl HT_.out ?_
       refine take_ (i := 8) (N := some 49) (v := ?_) (a' := ?_) (tf 10 4) rfl rfl (take_ofW HT_.out HW_.out (by kernel_rfl)) (fun _ _ _ h => h) (Or.inl ⟨by rfl, ?_⟩) hHeld ?_ ?_
       rotate_left
       ·rintro w' ⟨s0, s1, s2, s3, s4, s5, s6, s7, s8, s9, s10, s11, s12, s13⟩
        go_simp
        with_reducible rfl
       rotate_left
       ·exact aP
       refine take_ (i := 10) (N := some 51) (v := ?_) (a' := ?_) (tf 11 3) rfl rfl (take_ofW HT_.out HW_.out (by kernel_rfl)) (fun _ _ _ h => h) (Or.inl ⟨by rfl, ?_⟩) hHeld ?_ ?_
       rotate_left
       ·rintro w' ⟨s0, s1, s2, s3, s4, s5, s6, s7, s8, s9, s10, s11, s12, s13⟩
        go_simp
        with_reducible rfl
       rotate_left
       ·exact aP
       refine one_ (i := 11) (N := some 52) (tf 12 2) rfl rfl (one_of HT_.out (by kernel_rfl)) (by decide) (fun K hK => ?_)
       refine goes_ Try.func26 (by kernel_rfl) rfl #[.agg #[.int .i64 ((rd_T65 l0 (ji44)).f1.f0), .int .i64 ((rd_T65 l0 (ji44)).f1.f1), .string ((rd_T65 l0 (ji44)).f1.f2)], .agg #[.int .i64 ((rd_T65 l0 x7_1).f0.f0), .int .i64 ((rd_T65 l0 x7_1).f0.f1), .string ((rd_T65 l0 x7_1).f0.f2)]] (by rfl) rfl rfl (by (try simp only [List.map_toArray, List.map_cons, List.map_nil]); first | done | (simp only [hji44]; rfl) | rfl | (simp only [List.length_drop, List.length_take]; rfl)) ?_
       with_reducible refine (r1_Compare.calls ((rd_T65 l0 (ji44)).f1.f0) ((rd_T65 l0 (ji44)).f1.f1) ((rd_T65 l0 (ji44)).f1.f2) ((rd_T65 l0 x7_1).f0.f0) ((rd_T65 l0 x7_1).f0.f1) ((rd_T65 l0 x7_1).f0.f2) t972 _ A47.out).mono ?_
       rintro e w50 ⟨rfl, hb⟩
       refine ⟨_, rfl, ?_⟩
       have n0_ := aK (blk_below (bX BK965.out) hb)
       have n1_ := aK (below_step (bS GE965.out) hb)
       clear BK965
       clear HB
       have BK965 := n0_
       have HB := n1_
       clear n0_ n1_
       (try clear hb)
       (try clear hb2)
       (try clear hk)
       (try clear hi)
       refine hK.out _ _ ⟨(blk_cell BK965.out 0).trans rfl, (blk_cell BK965.out 1).trans rfl, (blk_cell BK965.out 2).trans rfl, (blk_cell BK965.out 3).trans rfl, (blk_cell BK965.out 4).trans rfl, (blk_cell BK965.out 5).trans rfl, (blk_cell BK965.out 6).trans rfl, ((HB.out.cell (World.block_lt_of_cell? w _ hw971_0)).trans hw971_0), ((HB.out.cell (World.block_lt_of_cell? w _ hw971_1)).trans hw971_1), ((HB.out.cell (World.block_lt_of_cell? w _ hw971_2)).trans hw971_2), ((HB.out.cell (World.block_lt_of_cell? w _ hw971_3)).trans hw971_3), ((HB.out.cell (World.block_lt_of_cell? w _ hw971_4)).trans hw971_4), ((HB.out.cell (World.block_lt_of_cell? w _ hw971_5)).trans hw971_5), ((HB.out.cell (World.block_lt_of_cell? w _ hw971_6)).trans hw971_6)⟩ (fun hHeld => ?_)
       clear hK K
       refine norm_ (a' := ?_) ?_ ?_
       rotate_left
       ·show Act.put _ (some 52) _ = _
        simp only [Act.put, List.setIfInBounds_toArray, List.set_cons_zero, List.set_cons_succ, i64_w, i32_w]
        rfl
       refine pY (i := 12) (N := some 53) (tf 13 1) rfl rfl HT_.out ?_
       refine pY (i := 13) (N := some 54) (tf 14 0) rfl rfl HT_.out ?_
       refine done_ (done_of HT_.out (by kernel_rfl)) ?_
       try go_wp2
       go_ret
       exact ⟨by first | rfl | (simp [errW_none, errW_some] <;> rfl) | (simp only [← hji44]; first | rfl | (simp [errW_none, errW_some] <;> rfl)) | (simp [*, errW_none, errW_some] <;> rfl), bS GE965.out⟩
      subst c42
      rw [if_pos rfl] at H
      obtain rfl := Option.some.inj H
      go_wp2
      go_ret
      exact ⟨eW, bS GE965.out⟩
   subst c8
   rw [if_pos rfl] at H
   have HC9 := Aside0.mk H
   clear H
   have p964 : 0 ≤ (x7_1 : Int) := of_decide_eq_true (aA)
   have q964 : x7_1 < (l0.length : Int) := of_decide_eq_true (aA)
   obtain ⟨ad964, e964, hx964_0, hx964_1, hx964_2, hx964_3, hx964_4, hx964_5, hx964_6⟩ := at_T65 HR0.out x7_1 p964 q964
   (try rw [← Nbq7.out] at hx964_6)
   cases e964
   replace hx964_0 := hW HB.out hx964_0
   replace hx964_1 := hW HB.out hx964_1
   replace hx964_2 := hW HB.out hx964_2
   replace hx964_3 := hW HB.out hx964_3
   replace hx964_4 := hW HB.out hx964_4
   replace hx964_5 := hW HB.out hx964_5
   replace hx964_6 := hW HB.out hx964_6
   replace p964 := eq_true p964
   replace q964 := eq_true q964
   go_upto_region 7 with (first | ((with_reducible refine gate_dst (N := 4) rfl ?_); refine box_event ?hg (N := 4) ?hd (cs := #[.int .i64 0, .int .i64 0, .string (⟨#[]⟩ : ByteArray), .int .i64 0, .int .i64 0, .string (⟨#[]⟩ : ByteArray), .bool false]) (t := 65) ?hr ?_; (case hd => rfl); (case hg => rfl); (case hr => exact hR); intro gb965 hg w10 hbox hb; have n0_ := aK (below_step bO hb); have n1_ := aK (hbox); have n2_ := aK ((by rw [hg]; exact (below_size bO) : w.heap.size ≤ gb965)); have n3_ := aK ((by rw [hg]; exact (below_size bO) : w.heap.size ≤ gb965)); clear HB; have HB := n0_; have BK965 := n1_; have GW965 := n2_; have GE965 := n3_; clear n0_ n1_ n2_ n3_ hb hbox hg; obtain ⟨hcz11_0, hcz11_1, hcz11_2, hcz11_3, hcz11_4, hcz11_5, hcz11_6⟩ := z7 BK965.out (.int .i64 0) (.int .i64 0) (.string (⟨#[]⟩ : ByteArray)) (.int .i64 0) (.int .i64 0) (.string (⟨#[]⟩ : ByteArray)) (.bool false); obtain ⟨hfz11_0, hfz11_1, hfz11_2, hfz11_3, hfz11_4, hfz11_5, hfz11_6⟩ := f7 BK965.out) | ((with_reducible refine gate_callee (f := 23) rfl ?_); refine gL (some 14) rfl Try.func23 #[.agg #[.int .i64 ((rd_T65 l0 x7_1).f0.f0), .int .i64 ((rd_T65 l0 x7_1).f0.f1), .string ((rd_T65 l0 x7_1).f0.f2)]] rfl ?_; (with_reducible refine (r1_Valid.calls k1 ((rd_T65 l0 x7_1).f0.f0) ((rd_T65 l0 x7_1).f0.f1) ((rd_T65 l0 x7_1).f0.f2) true _ A5.out).mono ?_); rintro e w12 ⟨rfl, hb⟩; refine ⟨_, rfl, ?_⟩; have n0_ := aK (blk_below (g := gb965) (o := .cells #[.int .i64 ((rd_T65 l0 x7_1).f0.f0), .int .i64 ((rd_T65 l0 x7_1).f0.f1), .string ((rd_T65 l0 x7_1).f0.f2), .int .i64 ((rd_T65 l0 x7_1).f1.f0), .int .i64 ((rd_T65 l0 x7_1).f1.f1), .string ((rd_T65 l0 x7_1).f1.f2), .bool true] 65 (0, 0)) (put7 BK965.out) hb); have n1_ := aK (below_step (bS GE965.out) hb); clear BK965 HB; have BK965 := n0_; have HB := n1_; clear n0_ n1_; (try clear hb); obtain ⟨hcz13_0, hcz13_1, hcz13_2, hcz13_3, hcz13_4, hcz13_5, hcz13_6⟩ := z7 BK965.out (.int .i64 ((rd_T65 l0 x7_1).f0.f0)) (.int .i64 ((rd_T65 l0 x7_1).f0.f1)) (.string ((rd_T65 l0 x7_1).f0.f2)) (.int .i64 ((rd_T65 l0 x7_1).f1.f0)) (.int .i64 ((rd_T65 l0 x7_1).f1.f1)) (.string ((rd_T65 l0 x7_1).f1.f2)) (.bool true); obtain ⟨hfz13_0, hfz13_1, hfz13_2, hfz13_3, hfz13_4, hfz13_5, hfz13_6⟩ := f7 BK965.out))
   (try simp only [Act.put, List.setIfInBounds_toArray, List.set_cons_zero, List.set_cons_succ])
   go_cut [28] (fun v28 wc => ∃ (kq : Nat) (x28_8 : Bool), v28 = .bool x28_8 ∧ Aside0 (r3_Ordered.j1 kq l0 x7_1 l0 (l0.length : Int) x7_1 x28_8 ((rd_T65 l0 x7_1).f0.f0) ((rd_T65 l0 x7_1).f0.f1) ((rd_T65 l0 x7_1).f0.f2) ((rd_T65 l0 x7_1).f1.f0) ((rd_T65 l0 x7_1).f1.f1) ((rd_T65 l0 x7_1).f1.f2) true = some r) ∧ Aside0 (kq ≤ k1) ∧ Aside0 (wc.heap[gb965]? = some (.cells #[.int .i64 ((rd_T65 l0 x7_1).f0.f0), .int .i64 ((rd_T65 l0 x7_1).f0.f1), .string ((rd_T65 l0 x7_1).f0.f2), .int .i64 ((rd_T65 l0 x7_1).f1.f0), .int .i64 ((rd_T65 l0 x7_1).f1.f1), .string ((rd_T65 l0 x7_1).f1.f2), .bool true] 65 (0, 0))) ∧ Aside0 (Below w.heap.size w wc))
   case first =>
    have H := HC9.out
    clear HC9
    by_cases c14 : x7_1 < (wrap64 ((l0.length : Int) - 1))
    rotate_left
    ·rw [if_neg c14] at H
     have c14b0 : decide (x7_1 < (wrap64 ((l0.length : Int) - 1))) = false := decide_eq_false c14
     clear c14
     (first | rw [c14b0] | (simp only [i64_w, i32_w]; rw [c14b0]) | skip)
     have H' := Aside0.mk H
     clear H
     obtain ⟨hcz15_0, hcz15_1, hcz15_2, hcz15_3, hcz15_4, hcz15_5, hcz15_6⟩ := z7 BK965.out (.int .i64 ((rd_T65 l0 x7_1).f0.f0)) (.int .i64 ((rd_T65 l0 x7_1).f0.f1)) (.string ((rd_T65 l0 x7_1).f0.f2)) (.int .i64 ((rd_T65 l0 x7_1).f1.f0)) (.int .i64 ((rd_T65 l0 x7_1).f1.f1)) (.string ((rd_T65 l0 x7_1).f1.f2)) (.bool true)
     obtain ⟨hfz15_0, hfz15_1, hfz15_2, hfz15_3, hfz15_4, hfz15_5, hfz15_6⟩ := f7 BK965.out
     go_wp2
     go_meet
     case rel => exact ⟨_, ((!(((rd_T65 l0 x7_1).f1.f0) == 0) || (!(((rd_T65 l0 x7_1).f1.f1) == 0) || (!((((rd_T65 l0 x7_1).f1.f2).toList) == ([] : List UInt8)))))), (by first | rfl | (simp; done) | (simp [*]; done)), H', ⟨by have := HK1.out; first | omega | exact Nat.le_refl _⟩, ⟨bX BK965.out⟩, ⟨bS GE965.out⟩⟩
    rw [if_pos c14] at H
    have c14b0 : decide (x7_1 < (wrap64 ((l0.length : Int) - 1))) = true := decide_eq_true c14
    clear c14
    (first | rw [c14b0] | (simp only [i64_w, i32_w]; rw [c14b0]) | skip)
    have H' := Aside0.mk H
    clear H
    go_wp2
    go_meet
    case rel => exact ⟨_, (true), (by first | rfl | (simp; done) | (simp [*]; done)), H', ⟨by have := HK1.out; first | omega | exact Nat.le_refl _⟩, ⟨bX BK965.out⟩, ⟨bS GE965.out⟩⟩
   case rest =>
    clear HC9
    try clear c1
    try clear c2
    try clear c2b0
    try clear p2
    try clear c3
    try clear c3b0
    try clear c4
    try clear c4b0
    try clear c6
    try clear p6
    try clear q7
    try clear c8
    try clear c9
    try clear p9
    try clear q9
    try clear hx9
    try clear c14
    try clear c14b0
    try clear hcz11_0 hcz11_1 hcz11_2 hcz11_3 hcz11_4 hcz11_5 hcz11_6
    try clear hcz13_0 hcz13_1 hcz13_2 hcz13_3 hcz13_4 hcz13_5 hcz13_6
    try clear hcz15_0 hcz15_1 hcz15_2 hcz15_3 hcz15_4 hcz15_5 hcz15_6
    try clear hfz11_0 hfz11_1 hfz11_2 hfz11_3 hfz11_4 hfz11_5 hfz11_6
    try clear hfz13_0 hfz13_1 hfz13_2 hfz13_3 hfz13_4 hfz13_5 hfz13_6
    try clear hfz15_0 hfz15_1 hfz15_2 hfz15_3 hfz15_4 hfz15_5 hfz15_6
    try clear hx964_0
    try clear hx964_1
    try clear hx964_2
    try clear hx964_3
    try clear hx964_4
    try clear hx964_5
    try clear hx964_6
    try clear p964
    try clear q964
    obtain ⟨kq, x28_8, rfl, HA, HJ8, BK965, HB⟩ := hcut
    cases kq with
    | zero => exact absurd HA.out (by simp [r3_Ordered.j1])
    | succ kj8 =>
     have H := HA.out
     clear HA
     simp only [r3_Ordered.j1] at H
     by_cases c16 : x28_8 = true
     rotate_left
     ·replace c16 := Bool.eq_false_iff.mpr c16
      subst c16
      rw [if_neg (show ¬ (false = true) by decide)] at H
      by_cases c17 : x7_1 > 0
      rotate_left
      ·rw [if_neg c17] at H
       have c17b0 : decide (0 < x7_1) = false := decide_eq_false c17
       clear c17
       have H' := Aside0.mk H
       clear H
       try go_wp2
       have n0_ := aK (blk_drew BK965.out)
       have n1_ := aK (below_drew1 HB.out)
       clear BK965
       clear HB
       have BK965 := n0_
       have HB := n1_
       clear n0_ n1_
       refine start_ (n := 14) (S := fun w' => True) (ds := []) #[false, false, false, false, false, false, false, false, false, false, false, false, false, false] (by kernel_rfl) rfl rfl trivial (fun hHeld => ?_); refine with_tabW r3_Ordered.tab11 r3_Ordered.bits11 (fun HT_ HW_ => ?_)
       generalize wc.drew = w27 at BK965 HB hHeld ⊢
       refine pY (i := 0) (N := some 41) (tf 1 13) rfl rfl HT_.out ?_
       refine pY (i := 1) (N := some 42) (tf 2 12) rfl rfl HT_.out ?_
       refine pY (i := 2) (N := some 43) (tf 3 11) rfl rfl HT_.out ?_
       refine pure_ (i := 3) (N := some 44) (v := undef) (a' := ?_) (tf 4 10) rfl rfl (any_of HT_.out (by kernel_rfl)) (fun _ _ _ h => h) (Or.inr ⟨by rfl, rfl⟩) ?_ ?_
       rotate_left
       ·exact aP
       refine pure_ (i := 4) (N := some 45) (v := undef) (a' := ?_) (tf 5 9) rfl rfl (any_of HT_.out (by kernel_rfl)) (fun _ _ _ h => h) (Or.inr ⟨by rfl, rfl⟩) ?_ ?_
       rotate_left
       ·exact aP
       refine pure_ (i := 5) (N := some 46) (v := undef) (a' := ?_) (tf 6 8) rfl rfl (any_of HT_.out (by kernel_rfl)) (fun _ _ _ h => h) (Or.inr ⟨by rfl, rfl⟩) ?_ ?_
       rotate_left
       ·exact aP
       refine pure_ (i := 6) (N := some 47) (v := undef) (a' := ?_) (tf 7 7) rfl rfl (any_of HT_.out (by kernel_rfl)) (fun _ _ _ h => h) (Or.inr ⟨by rfl, rfl⟩) ?_ ?_
       rotate_left
       ·exact aP
       refine pure_ (i := 7) (N := some 48) (v := undef) (a' := ?_) (tf 8 6) rfl rfl (any_of HT_.out (by kernel_rfl)) (fun _ _ _ h => h) (Or.inr ⟨by rfl, rfl⟩) ?_ ?_
       rotate_left
       ·exact aP
       refine pure_ (i := 8) (N := some 49) (v := undef) (a' := ?_) (tf 9 5) rfl rfl (any_of HT_.out (by kernel_rfl)) (fun _ _ _ h => h) (Or.inr ⟨by rfl, rfl⟩) ?_ ?_
       rotate_left
       ·exact aP
       refine pure_ (i := 9) (N := some 50) (v := undef) (a' := ?_) (tf 10 4) rfl rfl (any_of HT_.out (by kernel_rfl)) (fun _ _ _ h => h) (Or.inr ⟨by rfl, rfl⟩) ?_ ?_
       rotate_left
       ·exact aP
       refine pure_ (i := 10) (N := some 51) (v := undef) (a' := ?_) (tf 11 3) rfl rfl (any_of HT_.out (by kernel_rfl)) (fun _ _ _ h => h) (Or.inr ⟨by rfl, rfl⟩) ?_ ?_
       rotate_left
       ·exact aP
       refine pure_ (i := 11) (N := some 52) (v := undef) (a' := ?_) (tf 12 2) rfl rfl (any_of HT_.out (by kernel_rfl)) (fun _ _ _ h => h) (Or.inr ⟨by rfl, rfl⟩) ?_ ?_
       rotate_left
       ·exact aP
       refine pure_ (i := 12) (N := some 53) (v := undef) (a' := ?_) (tf 13 1) rfl rfl (any_of HT_.out (by kernel_rfl)) (fun _ _ _ h => h) (Or.inr ⟨by rfl, rfl⟩) ?_ ?_
       rotate_left
       ·exact aP
       refine pY (i := 13) (N := some 54) (tf 14 0) rfl rfl HT_.out ?_
       refine done_ (done_of HT_.out (by kernel_rfl)) ?_
       try go_wp2
       go_roundg kj8
       case measure => have := HK1.out; have := HJ8.out; omega
       case rel => exact ⟨(wrap64 (x7_1 + 1)), (by first | rfl | (simp; done) | (simp [*]; done)), H', ⟨by have := HK1.out; have := HJ8.out; omega⟩, ⟨bS GE965.out⟩⟩
      rw [if_pos c17] at H
      have c17b0 : decide (0 < x7_1) = true := decide_eq_true c17
      clear c17
      obtain ⟨ji18, hji18⟩ : ∃ j_ : Int, (wrap64 (x7_1 - 1)) = j_ := ⟨_, rfl⟩
      replace H : (if 0 ≤ (ji18) then (if (ji18) < (l0.length : Int) then ((r1_Compare.f ((rd_T65 l0 (ji18)).f1.f0) ((rd_T65 l0 (ji18)).f1.f1) ((rd_T65 l0 (ji18)).f1.f2) ((rd_T65 l0 x7_1).f0.f0) ((rd_T65 l0 x7_1).f0.f1) ((rd_T65 l0 x7_1).f0.f2)).bind fun t968 => (if t968 ≥ 0 then (some false) else (r3_Ordered.l0 kj8 l0 l0 (l0.length : Int) (wrap64 (x7_1 + 1))))) else (none)) else (none)) = some r := by first | (rw [hji18] at H; exact H) | (simp only [hji18] at H ⊢; exact H)
      have hji18w : (IntKind.i64.wrap (x7_1 - 1)) = ji18 := (i64_w _).trans hji18
      by_cases c19 : 0 ≤ (ji18)
      rotate_left
      ·rw [if_neg c19] at H
       exact absurd H (by simp)
      rw [if_pos c19] at H
      have c19b0 : decide (0 ≤ (ji18)) = true := decide_eq_true c19
      clear c19
      by_cases c20 : (ji18) < (l0.length : Int)
      rotate_left
      ·rw [if_neg c20] at H
       exact absurd H (by simp)
      rw [if_pos c20] at H
      have c20b0 : decide ((ji18) < (l0.length : Int)) = true := decide_eq_true c20
      clear c20
      obtain ⟨t968, A21, H⟩ := oB H
      try dsimp only at H
      by_cases c22 : t968 ≥ 0
      rotate_left
      ·rw [if_neg c22] at H
       have c22b0 : decide (0 ≤ t968) = false := decide_eq_false c22
       clear c22
       have H' := Aside0.mk H
       clear H
       try go_wp2
       have n0_ := aK (blk_drew BK965.out)
       have n1_ := aK (below_drew1 HB.out)
       clear BK965
       clear HB
       have BK965 := n0_
       have HB := n1_
       clear n0_ n1_
       have p967 : 0 ≤ ((ji18) : Int) := of_decide_eq_true (aA)
       have q967 : (ji18) < (l0.length : Int) := of_decide_eq_true (aA)
       obtain ⟨ad967, e967, hx967_0, hx967_1, hx967_2, hx967_3, hx967_4, hx967_5, hx967_6⟩ := at_T65 HR0.out (ji18) p967 q967
       have hw967_6 := hx967_6
       have hw967_5 := hx967_5
       have hw967_4 := hx967_4
       have hw967_3 := hx967_3
       have hw967_2 := hx967_2
       have hw967_1 := hx967_1
       have hw967_0 := hx967_0
       (try rw [← Nbq7.out] at hx967_6)
       obtain rfl : ad964 = ad967 := (by injection e967)
       replace hx967_0 := hW HB.out hx967_0
       replace hx967_1 := hW HB.out hx967_1
       replace hx967_2 := hW HB.out hx967_2
       replace hx967_3 := hW HB.out hx967_3
       replace hx967_4 := hW HB.out hx967_4
       replace hx967_5 := hW HB.out hx967_5
       replace hx967_6 := hW HB.out hx967_6
       replace p967 := eq_true p967
       replace q967 := eq_true q967
       refine start_ (n := 14) (S := fun w' => w'.cell? ⟨gb965, 0, none⟩ = some (.int .i64 ((rd_T65 l0 x7_1).f0.f0)) ∧ w'.cell? ⟨gb965, 1, none⟩ = some (.int .i64 ((rd_T65 l0 x7_1).f0.f1)) ∧ w'.cell? ⟨gb965, 2, none⟩ = some (.string ((rd_T65 l0 x7_1).f0.f2)) ∧ w'.cell? ⟨gb965, 3, none⟩ = some (.int .i64 ((rd_T65 l0 x7_1).f1.f0)) ∧ w'.cell? ⟨gb965, 4, none⟩ = some (.int .i64 ((rd_T65 l0 x7_1).f1.f1)) ∧ w'.cell? ⟨gb965, 5, none⟩ = some (.string ((rd_T65 l0 x7_1).f1.f2)) ∧ w'.cell? ⟨gb965, 6, none⟩ = some (.bool true) ∧ w'.cell? (ad964.add (((ji18)).toNat * 7)) = some (.int .i64 ((rd_T65 l0 (ji18)).f0.f0)) ∧ w'.cell? ⟨(ad964.add (((ji18)).toNat * 7)).block, (ad964.add (((ji18)).toNat * 7)).off + 1, none⟩ = some (.int .i64 ((rd_T65 l0 (ji18)).f0.f1)) ∧ w'.cell? ⟨(ad964.add (((ji18)).toNat * 7)).block, (ad964.add (((ji18)).toNat * 7)).off + 2, none⟩ = some (.string ((rd_T65 l0 (ji18)).f0.f2)) ∧ w'.cell? ⟨(ad964.add (((ji18)).toNat * 7)).block, (ad964.add (((ji18)).toNat * 7)).off + 3, none⟩ = some (.int .i64 ((rd_T65 l0 (ji18)).f1.f0)) ∧ w'.cell? ⟨(ad964.add (((ji18)).toNat * 7)).block, (ad964.add (((ji18)).toNat * 7)).off + 4, none⟩ = some (.int .i64 ((rd_T65 l0 (ji18)).f1.f1)) ∧ w'.cell? ⟨(ad964.add (((ji18)).toNat * 7)).block, (ad964.add (((ji18)).toNat * 7)).off + 5, none⟩ = some (.string ((rd_T65 l0 (ji18)).f1.f2)) ∧ w'.cell? ⟨(ad964.add (((ji18)).toNat * 7)).block, (ad964.add (((ji18)).toNat * 7)).off + 6, none⟩ = some (.bool ((rd_T65 l0 (ji18)).f2))) (ds := []) #[false, false, false, false, false, false, false, false, false, false, false, false, false, false] (by kernel_rfl) rfl rfl ⟨(blk_cell BK965.out 0).trans rfl, (blk_cell BK965.out 1).trans rfl, (blk_cell BK965.out 2).trans rfl, (blk_cell BK965.out 3).trans rfl, (blk_cell BK965.out 4).trans rfl, (blk_cell BK965.out 5).trans rfl, (blk_cell BK965.out 6).trans rfl, ((HB.out.cell (World.block_lt_of_cell? w _ hw967_0)).trans hw967_0), ((HB.out.cell (World.block_lt_of_cell? w _ hw967_1)).trans hw967_1), ((HB.out.cell (World.block_lt_of_cell? w _ hw967_2)).trans hw967_2), ((HB.out.cell (World.block_lt_of_cell? w _ hw967_3)).trans hw967_3), ((HB.out.cell (World.block_lt_of_cell? w _ hw967_4)).trans hw967_4), ((HB.out.cell (World.block_lt_of_cell? w _ hw967_5)).trans hw967_5), ((HB.out.cell (World.block_lt_of_cell? w _ hw967_6)).trans hw967_6)⟩ (fun hHeld => ?_); refine with_tabW r3_Ordered.tab11 r3_Ordered.bits11 (fun HT_ HW_ => ?_)
       generalize wc.drew = w25 at BK965 HB hx967_0 hx967_1 hx967_2 hx967_3 hx967_4 hx967_5 hx967_6 hHeld ⊢
       refine pY (i := 0) (N := some 41) (tf 1 13) rfl rfl HT_.out ?_
       refine pY (i := 1) (N := some 42) (tf 2 12) rfl rfl HT_.out ?_
       refine pY (i := 2) (N := some 43) (tf 3 11) rfl rfl HT_.out ?_
       refine pY (i := 3) (N := some 44) (tf 4 10) rfl rfl HT_.out ?_
       refine pY (i := 4) (N := some 45) (tf 5 9) rfl rfl HT_.out ?_
       refine pY (i := 5) (N := some 46) (tf 6 8) rfl rfl HT_.out ?_
       refine pY (i := 6) (N := some 47) (tf 7 7) rfl rfl HT_.out ?_
       refine pY (i := 7) (N := some 48) (tf 8 6) rfl rfl HT_.out ?_
       refine pY (i := 9) (N := some 50) #[true, true, true, true, true, true, true, true, false, true, false, false, false, false] rfl rfl HT_.out ?_
       refine take_ (i := 8) (N := some 49) (v := ?_) (a' := ?_) (tf 10 4) rfl rfl (take_ofW HT_.out HW_.out (by kernel_rfl)) (fun _ _ _ h => h) (Or.inl ⟨by rfl, ?_⟩) hHeld ?_ ?_
       rotate_left
       ·rintro w' ⟨s0, s1, s2, s3, s4, s5, s6, s7, s8, s9, s10, s11, s12, s13⟩
        go_simp
        with_reducible rfl
       rotate_left
       ·exact aP
       refine take_ (i := 10) (N := some 51) (v := ?_) (a' := ?_) (tf 11 3) rfl rfl (take_ofW HT_.out HW_.out (by kernel_rfl)) (fun _ _ _ h => h) (Or.inl ⟨by rfl, ?_⟩) hHeld ?_ ?_
       rotate_left
       ·rintro w' ⟨s0, s1, s2, s3, s4, s5, s6, s7, s8, s9, s10, s11, s12, s13⟩
        go_simp
        with_reducible rfl
       rotate_left
       ·exact aP
       refine one_ (i := 11) (N := some 52) (tf 12 2) rfl rfl (one_of HT_.out (by kernel_rfl)) (by decide) (fun K hK => ?_)
       refine goes_ Try.func26 (by kernel_rfl) rfl #[.agg #[.int .i64 ((rd_T65 l0 (ji18)).f1.f0), .int .i64 ((rd_T65 l0 (ji18)).f1.f1), .string ((rd_T65 l0 (ji18)).f1.f2)], .agg #[.int .i64 ((rd_T65 l0 x7_1).f0.f0), .int .i64 ((rd_T65 l0 x7_1).f0.f1), .string ((rd_T65 l0 x7_1).f0.f2)]] (by rfl) rfl rfl (by (try simp only [List.map_toArray, List.map_cons, List.map_nil]); first | done | (simp only [hji18]; rfl) | rfl | (simp only [List.length_drop, List.length_take]; rfl)) ?_
       with_reducible refine (r1_Compare.calls ((rd_T65 l0 (ji18)).f1.f0) ((rd_T65 l0 (ji18)).f1.f1) ((rd_T65 l0 (ji18)).f1.f2) ((rd_T65 l0 x7_1).f0.f0) ((rd_T65 l0 x7_1).f0.f1) ((rd_T65 l0 x7_1).f0.f2) t968 _ A21.out).mono ?_
       rintro e w26 ⟨rfl, hb⟩
       refine ⟨_, rfl, ?_⟩
       have n0_ := aK (blk_below (bX BK965.out) hb)
       have n1_ := aK (below_step (bS GE965.out) hb)
       clear BK965
       clear HB
       have BK965 := n0_
       have HB := n1_
       clear n0_ n1_
       (try clear hb)
       (try clear hb2)
       (try clear hk)
       (try clear hi)
       refine hK.out _ _ ⟨(blk_cell BK965.out 0).trans rfl, (blk_cell BK965.out 1).trans rfl, (blk_cell BK965.out 2).trans rfl, (blk_cell BK965.out 3).trans rfl, (blk_cell BK965.out 4).trans rfl, (blk_cell BK965.out 5).trans rfl, (blk_cell BK965.out 6).trans rfl, ((HB.out.cell (World.block_lt_of_cell? w _ hw967_0)).trans hw967_0), ((HB.out.cell (World.block_lt_of_cell? w _ hw967_1)).trans hw967_1), ((HB.out.cell (World.block_lt_of_cell? w _ hw967_2)).trans hw967_2), ((HB.out.cell (World.block_lt_of_cell? w _ hw967_3)).trans hw967_3), ((HB.out.cell (World.block_lt_of_cell? w _ hw967_4)).trans hw967_4), ((HB.out.cell (World.block_lt_of_cell? w _ hw967_5)).trans hw967_5), ((HB.out.cell (World.block_lt_of_cell? w _ hw967_6)).trans hw967_6)⟩ (fun hHeld => ?_)
       clear hK K
       refine norm_ (a' := ?_) ?_ ?_
       rotate_left
       ·show Act.put _ (some 52) _ = _
        simp only [Act.put, List.setIfInBounds_toArray, List.set_cons_zero, List.set_cons_succ, i64_w, i32_w]
        rfl
       refine pY (i := 12) (N := some 53) (tf 13 1) rfl rfl HT_.out ?_
       refine pY (i := 13) (N := some 54) (tf 14 0) rfl rfl HT_.out ?_
       refine done_ (done_of HT_.out (by kernel_rfl)) ?_
       try go_wp2
       go_roundg kj8
       case measure => have := HK1.out; have := HJ8.out; omega
       case rel => exact ⟨(wrap64 (x7_1 + 1)), (by first | rfl | (simp; done) | (simp [*]; done)), H', ⟨by have := HK1.out; have := HJ8.out; omega⟩, ⟨bS GE965.out⟩⟩
      rw [if_pos c22] at H
      have c22b0 : decide (0 ≤ t968) = true := decide_eq_true c22
      clear c22
      obtain rfl := Option.some.inj H
      try go_wp2
      have n0_ := aK (blk_drew BK965.out)
      have n1_ := aK (below_drew1 HB.out)
      clear BK965
      clear HB
      have BK965 := n0_
      have HB := n1_
      clear n0_ n1_
      have p967 : 0 ≤ ((ji18) : Int) := of_decide_eq_true (aA)
      have q967 : (ji18) < (l0.length : Int) := of_decide_eq_true (aA)
      obtain ⟨ad967, e967, hx967_0, hx967_1, hx967_2, hx967_3, hx967_4, hx967_5, hx967_6⟩ := at_T65 HR0.out (ji18) p967 q967
      have hw967_6 := hx967_6
      have hw967_5 := hx967_5
      have hw967_4 := hx967_4
      have hw967_3 := hx967_3
      have hw967_2 := hx967_2
      have hw967_1 := hx967_1
      have hw967_0 := hx967_0
      (try rw [← Nbq7.out] at hx967_6)
      obtain rfl : ad964 = ad967 := (by injection e967)
      replace hx967_0 := hW HB.out hx967_0
      replace hx967_1 := hW HB.out hx967_1
      replace hx967_2 := hW HB.out hx967_2
      replace hx967_3 := hW HB.out hx967_3
      replace hx967_4 := hW HB.out hx967_4
      replace hx967_5 := hW HB.out hx967_5
      replace hx967_6 := hW HB.out hx967_6
      replace p967 := eq_true p967
      replace q967 := eq_true q967
      refine start_ (n := 14) (S := fun w' => w'.cell? ⟨gb965, 0, none⟩ = some (.int .i64 ((rd_T65 l0 x7_1).f0.f0)) ∧ w'.cell? ⟨gb965, 1, none⟩ = some (.int .i64 ((rd_T65 l0 x7_1).f0.f1)) ∧ w'.cell? ⟨gb965, 2, none⟩ = some (.string ((rd_T65 l0 x7_1).f0.f2)) ∧ w'.cell? ⟨gb965, 3, none⟩ = some (.int .i64 ((rd_T65 l0 x7_1).f1.f0)) ∧ w'.cell? ⟨gb965, 4, none⟩ = some (.int .i64 ((rd_T65 l0 x7_1).f1.f1)) ∧ w'.cell? ⟨gb965, 5, none⟩ = some (.string ((rd_T65 l0 x7_1).f1.f2)) ∧ w'.cell? ⟨gb965, 6, none⟩ = some (.bool true) ∧ w'.cell? (ad964.add (((ji18)).toNat * 7)) = some (.int .i64 ((rd_T65 l0 (ji18)).f0.f0)) ∧ w'.cell? ⟨(ad964.add (((ji18)).toNat * 7)).block, (ad964.add (((ji18)).toNat * 7)).off + 1, none⟩ = some (.int .i64 ((rd_T65 l0 (ji18)).f0.f1)) ∧ w'.cell? ⟨(ad964.add (((ji18)).toNat * 7)).block, (ad964.add (((ji18)).toNat * 7)).off + 2, none⟩ = some (.string ((rd_T65 l0 (ji18)).f0.f2)) ∧ w'.cell? ⟨(ad964.add (((ji18)).toNat * 7)).block, (ad964.add (((ji18)).toNat * 7)).off + 3, none⟩ = some (.int .i64 ((rd_T65 l0 (ji18)).f1.f0)) ∧ w'.cell? ⟨(ad964.add (((ji18)).toNat * 7)).block, (ad964.add (((ji18)).toNat * 7)).off + 4, none⟩ = some (.int .i64 ((rd_T65 l0 (ji18)).f1.f1)) ∧ w'.cell? ⟨(ad964.add (((ji18)).toNat * 7)).block, (ad964.add (((ji18)).toNat * 7)).off + 5, none⟩ = some (.string ((rd_T65 l0 (ji18)).f1.f2)) ∧ w'.cell? ⟨(ad964.add (((ji18)).toNat * 7)).block, (ad964.add (((ji18)).toNat * 7)).off + 6, none⟩ = some (.bool ((rd_T65 l0 (ji18)).f2))) (ds := []) #[false, false, false, false, false, false, false, false, false, false, false, false, false, false] (by kernel_rfl) rfl rfl ⟨(blk_cell BK965.out 0).trans rfl, (blk_cell BK965.out 1).trans rfl, (blk_cell BK965.out 2).trans rfl, (blk_cell BK965.out 3).trans rfl, (blk_cell BK965.out 4).trans rfl, (blk_cell BK965.out 5).trans rfl, (blk_cell BK965.out 6).trans rfl, ((HB.out.cell (World.block_lt_of_cell? w _ hw967_0)).trans hw967_0), ((HB.out.cell (World.block_lt_of_cell? w _ hw967_1)).trans hw967_1), ((HB.out.cell (World.block_lt_of_cell? w _ hw967_2)).trans hw967_2), ((HB.out.cell (World.block_lt_of_cell? w _ hw967_3)).trans hw967_3), ((HB.out.cell (World.block_lt_of_cell? w _ hw967_4)).trans hw967_4), ((HB.out.cell (World.block_lt_of_cell? w _ hw967_5)).trans hw967_5), ((HB.out.cell (World.block_lt_of_cell? w _ hw967_6)).trans hw967_6)⟩ (fun hHeld => ?_); refine with_tabW r3_Ordered.tab11 r3_Ordered.bits11 (fun HT_ HW_ => ?_)
      generalize wc.drew = w23 at BK965 HB hx967_0 hx967_1 hx967_2 hx967_3 hx967_4 hx967_5 hx967_6 hHeld ⊢
      refine pY (i := 0) (N := some 41) (tf 1 13) rfl rfl HT_.out ?_
      refine pY (i := 1) (N := some 42) (tf 2 12) rfl rfl HT_.out ?_
      refine pY (i := 2) (N := some 43) (tf 3 11) rfl rfl HT_.out ?_
      refine pY (i := 3) (N := some 44) (tf 4 10) rfl rfl HT_.out ?_
      refine pY (i := 4) (N := some 45) (tf 5 9) rfl rfl HT_.out ?_
      refine pY (i := 5) (N := some 46) (tf 6 8) rfl rfl HT_.out ?_
      refine pY (i := 6) (N := some 47) (tf 7 7) rfl rfl HT_.out ?_
      refine pY (i := 7) (N := some 48) (tf 8 6) rfl rfl HT_.out ?_
      refine pY (i := 9) (N := some 50) #[true, true, true, true, true, true, true, true, false, true, false, false, false, false] rfl rfl HT_.out ?_
      refine take_ (i := 8) (N := some 49) (v := ?_) (a' := ?_) (tf 10 4) rfl rfl (take_ofW HT_.out HW_.out (by kernel_rfl)) (fun _ _ _ h => h) (Or.inl ⟨by rfl, ?_⟩) hHeld ?_ ?_
      rotate_left
      ·rintro w' ⟨s0, s1, s2, s3, s4, s5, s6, s7, s8, s9, s10, s11, s12, s13⟩
       go_simp
       with_reducible rfl
      rotate_left
      ·exact aP
      refine take_ (i := 10) (N := some 51) (v := ?_) (a' := ?_) (tf 11 3) rfl rfl (take_ofW HT_.out HW_.out (by kernel_rfl)) (fun _ _ _ h => h) (Or.inl ⟨by rfl, ?_⟩) hHeld ?_ ?_
      rotate_left
      ·rintro w' ⟨s0, s1, s2, s3, s4, s5, s6, s7, s8, s9, s10, s11, s12, s13⟩
       go_simp
       with_reducible rfl
      rotate_left
      ·exact aP
      refine one_ (i := 11) (N := some 52) (tf 12 2) rfl rfl (one_of HT_.out (by kernel_rfl)) (by decide) (fun K hK => ?_)
      refine goes_ Try.func26 (by kernel_rfl) rfl #[.agg #[.int .i64 ((rd_T65 l0 (ji18)).f1.f0), .int .i64 ((rd_T65 l0 (ji18)).f1.f1), .string ((rd_T65 l0 (ji18)).f1.f2)], .agg #[.int .i64 ((rd_T65 l0 x7_1).f0.f0), .int .i64 ((rd_T65 l0 x7_1).f0.f1), .string ((rd_T65 l0 x7_1).f0.f2)]] (by rfl) rfl rfl (by (try simp only [List.map_toArray, List.map_cons, List.map_nil]); first | done | (simp only [hji18]; rfl) | rfl | (simp only [List.length_drop, List.length_take]; rfl)) ?_
      with_reducible refine (r1_Compare.calls ((rd_T65 l0 (ji18)).f1.f0) ((rd_T65 l0 (ji18)).f1.f1) ((rd_T65 l0 (ji18)).f1.f2) ((rd_T65 l0 x7_1).f0.f0) ((rd_T65 l0 x7_1).f0.f1) ((rd_T65 l0 x7_1).f0.f2) t968 _ A21.out).mono ?_
      rintro e w24 ⟨rfl, hb⟩
      refine ⟨_, rfl, ?_⟩
      have n0_ := aK (blk_below (bX BK965.out) hb)
      have n1_ := aK (below_step (bS GE965.out) hb)
      clear BK965
      clear HB
      have BK965 := n0_
      have HB := n1_
      clear n0_ n1_
      (try clear hb)
      (try clear hb2)
      (try clear hk)
      (try clear hi)
      refine hK.out _ _ ⟨(blk_cell BK965.out 0).trans rfl, (blk_cell BK965.out 1).trans rfl, (blk_cell BK965.out 2).trans rfl, (blk_cell BK965.out 3).trans rfl, (blk_cell BK965.out 4).trans rfl, (blk_cell BK965.out 5).trans rfl, (blk_cell BK965.out 6).trans rfl, ((HB.out.cell (World.block_lt_of_cell? w _ hw967_0)).trans hw967_0), ((HB.out.cell (World.block_lt_of_cell? w _ hw967_1)).trans hw967_1), ((HB.out.cell (World.block_lt_of_cell? w _ hw967_2)).trans hw967_2), ((HB.out.cell (World.block_lt_of_cell? w _ hw967_3)).trans hw967_3), ((HB.out.cell (World.block_lt_of_cell? w _ hw967_4)).trans hw967_4), ((HB.out.cell (World.block_lt_of_cell? w _ hw967_5)).trans hw967_5), ((HB.out.cell (World.block_lt_of_cell? w _ hw967_6)).trans hw967_6)⟩ (fun hHeld => ?_)
      clear hK K
      refine norm_ (a' := ?_) ?_ ?_
      rotate_left
      ·show Act.put _ (some 52) _ = _
       simp only [Act.put, List.setIfInBounds_toArray, List.set_cons_zero, List.set_cons_succ, i64_w, i32_w]
       rfl
      refine pY (i := 12) (N := some 53) (tf 13 1) rfl rfl HT_.out ?_
      refine pY (i := 13) (N := some 54) (tf 14 0) rfl rfl HT_.out ?_
      refine done_ (done_of HT_.out (by kernel_rfl)) ?_
      try go_wp2
      go_ret
      exact ⟨by first | rfl | (simp [errW_none, errW_some] <;> rfl) | (simp only [← hji18]; first | rfl | (simp [errW_none, errW_some] <;> rfl)) | (simp [*, errW_none, errW_some] <;> rfl), bS GE965.out⟩
     subst c16
     rw [if_pos rfl] at H
     obtain rfl := Option.some.inj H
     go_wp2
     go_ret
     exact ⟨eW, bS GE965.out⟩
end Go.Proofs.Ytpjcdacnhalclaa.Q
