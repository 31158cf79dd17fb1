/- A part of a proof: facts of functions that the law calls; conditions stand in each. -/
import Derived.Test.YtpjcdacnhalclaaM14x3
import Derived.Test.YtpjcdacnhalclaaM14x12
set_option linter.unusedVariables false
set_option linter.unusedSimpArgs false
namespace Go.Proofs.Ytpjcdacnhalclaa.Q
open Go.RowKit Go.Proofs.YtpjcdacnhalclaaW.PrintWords Go.Proofs.YtpjcdacnhalclaaW.PrintLast Go.Proofs.YtpjcdacnhalclaaW.PrintMore
attribute [local go_sem] max2_int min2_int max_two min_two max_three min_three max_four min_four
def r1_Valid.j0 : Nat → Int → Bool → Int → Int → ByteArray → Option (Bool)
 | 0, _, _, _, _, _ => none
 | k + 1, x4, x5, x254000, x254001, x254002 => if x5 = true then (if x254001 = 0 then (some (x254002.toList == ([] : List UInt8))) else (some false)) else (if x4 = 3 then (if x254001 = 0 then (some (x254002.toList == ([] : List UInt8))) else (if x254001 = 1 then (some (x254002.toList == ([] : List UInt8))) else (some false))) else (if x4 = 4 then (some (x254002.toList == ([] : List UInt8))) else (if x4 = 5 then (if x254001 = 0 then (some (decide ((x254002.size : Int) ≤ 64))) else (some false)) else (some false))))
def r1_Valid.f (k : Nat) (a0_0 : Int) (a0_1 : Int) (a0_2 : ByteArray) : Option (Bool) := if a0_0 = 1 then (r1_Valid.j0 k a0_0 (a0_0 == 1) a0_0 a0_1 a0_2) else (r1_Valid.j0 k a0_0 (a0_0 == 2) a0_0 a0_1 a0_2)
set_option maxHeartbeats 8000000 in
set_option maxRecDepth 100000 in
theorem r1_Valid.calls (k : Nat) (a0_0 : Int) (a0_1 : Int) (a0_2 : ByteArray) (r : Bool) (w : World) (h : r1_Valid.f k a0_0 a0_1 a0_2 = some r) :
  Calls Try.prog 23 #[.agg #[.int .i64 a0_0, .int .i64 a0_1, .string a0_2]] w fun e w' => e = .returned (.bool r) ∧ Below w.heap.size w w' := by
 have hu24 := Try.underlying24
 have HB := aK (Below.refl w.heap.size w)
 have H : (if a0_0 = 1 then (r1_Valid.j0 k a0_0 (a0_0 == 1) a0_0 a0_1 a0_2) else (r1_Valid.j0 k a0_0 (a0_0 == 2) a0_0 a0_1 a0_2)) = some r := h
 clear h
 have HC2 := Aside0.mk H
 clear H
 go_enter Try.func23, Try.ntmps23
 go_upto_if 5 with (first | ((with_reducible refine gate_dst (N := 1) rfl ?_); (try (refine gate_guard (by rfl) ?_; dsimp only)); refine box_event ?hg (N := 1) ?hd (cs := #[.int .i64 a0_0, .int .i64 a0_1, .string a0_2]) (t := 24) ?hr ?_; (case hd => rfl); (case hg => rfl); (case hr => exact hR); intro gb253 hg w3 hbox hb; have n0_ := aK (below_step bO hb); have n1_ := aK (hbox); have n2_ := aK ((by rw [hg]; exact (below_size bO) : w.heap.size ≤ gb253)); have n3_ := aK ((by rw [hg]; exact (below_size bO) : w.heap.size ≤ gb253)); clear HB; have HB := n0_; have BK253 := n1_; have GW253 := n2_; have GE253 := n3_; clear n0_ n1_ n2_ n3_ hb hbox hg; obtain ⟨hcz4_0, hcz4_1, hcz4_2⟩ := z3 BK253.out (.int .i64 a0_0) (.int .i64 a0_1) (.string a0_2); obtain ⟨hfz4_0, hfz4_1, hfz4_2⟩ := f3 BK253.out))
 (try simp only [Act.put, List.setIfInBounds_toArray, List.set_cons_zero, List.set_cons_succ])
 go_cut [5] (fun v5 wc => ∃ (kq : Nat) (x5_1 : Bool), v5 = .bool x5_1 ∧ Aside0 (r1_Valid.j0 kq a0_0 x5_1 a0_0 a0_1 a0_2 = some r) ∧ Aside0 (kq ≤ k) ∧ Aside0 (wc.heap[gb253]? = some (.cells #[.int .i64 a0_0, .int .i64 a0_1, .string a0_2] 24 (0, 0))) ∧ Aside0 (Below w.heap.size w wc))
 case first =>
  have H := HC2.out
  clear HC2
  by_cases c5 : a0_0 = 1
  rotate_left
  ·rw [if_neg c5] at H
   have c5b0 : (a0_0 == 1) = false := beq_eq_false_iff_ne.mpr c5
   have c5b1 : (a0_0 != 1) = true := bne_iff_ne.mpr c5
   (first | rw [c5b0] | (simp only [i64_w, i32_w]; rw [c5b0]) | skip)
   have H' := Aside0.mk H
   clear H
   go_wp2
   go_meet
   case rel => exact ⟨_, ((a0_0 == 2)), (by first | rfl | (simp; done) | (simp [*]; done)), H', ⟨by first | omega | exact Nat.le_refl _⟩, ⟨bX BK253.out⟩, ⟨bS GE253.out⟩⟩
  rw [if_pos c5] at H
  have c5b0 : (a0_0 == 1) = true := beq_iff_eq.mpr c5
  have c5b1 : (a0_0 != 1) = false := bne_eq_false_iff_eq.mpr c5
  clear c5
  (first | rw [c5b0] | (simp only [i64_w, i32_w]; rw [c5b0]) | skip)
  have H' := Aside0.mk H
  clear H
  go_wp2
  go_meet
  case rel => exact ⟨_, ((a0_0 == 1)), (by first | rfl | (simp; done) | (simp [*]; done)), H', ⟨by first | omega | exact Nat.le_refl _⟩, ⟨bX BK253.out⟩, ⟨bS GE253.out⟩⟩
 case rest =>
  clear HC2
  try clear c2
  try clear p2
  try clear c5
  try clear c5b0
  try clear c5b1
  try clear hcz4_0 hcz4_1 hcz4_2
  try clear hfz4_0 hfz4_1 hfz4_2
  obtain ⟨kq, x5_1, rfl, HA, HJ1, BK253, HB⟩ := hcut
  cases kq with
  | zero => exact absurd HA.out (by simp [r1_Valid.j0])
  | succ kj1 =>
   have H := HA.out
   clear HA
   simp only [r1_Valid.j0] at H
   by_cases c6 : x5_1 = true
   rotate_left
   ·replace c6 := Bool.eq_false_iff.mpr c6
    subst c6
    rw [if_neg (show ¬ (false = true) by decide)] at H
    by_cases c10 : a0_0 = 3
    rotate_left
    ·rw [if_neg c10] at H
     have c10b0 : (a0_0 == 3) = false := beq_eq_false_iff_ne.mpr c10
     have c10b1 : (a0_0 != 3) = true := bne_iff_ne.mpr c10
     by_cases c16 : a0_0 = 4
     rotate_left
     ·rw [if_neg c16] at H
      have c16b0 : (a0_0 == 4) = false := beq_eq_false_iff_ne.mpr c16
      have c16b1 : (a0_0 != 4) = true := bne_iff_ne.mpr c16
      by_cases c18 : a0_0 = 5
      rotate_left
      ·rw [if_neg c18] at H
       have c18b0 : (a0_0 == 5) = false := beq_eq_false_iff_ne.mpr c18
       have c18b1 : (a0_0 != 5) = true := bne_iff_ne.mpr c18
       obtain rfl := Option.some.inj H
       go_wp2
       go_ret
       exact ⟨eW, bS GE253.out⟩
      rw [if_pos c18] at H
      have c18b0 : (a0_0 == 5) = true := beq_iff_eq.mpr c18
      have c18b1 : (a0_0 != 5) = false := bne_eq_false_iff_eq.mpr c18
      clear c18
      by_cases c19 : a0_1 = 0
      rotate_left
      ·rw [if_neg c19] at H
       have c19b0 : (a0_1 == 0) = false := beq_eq_false_iff_ne.mpr c19
       have c19b1 : (a0_1 != 0) = true := bne_iff_ne.mpr c19
       obtain rfl := Option.some.inj H
       obtain ⟨hcz21_0, hcz21_1, hcz21_2⟩ := z3 BK253.out (.int .i64 a0_0) (.int .i64 a0_1) (.string a0_2)
       obtain ⟨hfz21_0, hfz21_1, hfz21_2⟩ := f3 BK253.out
       go_wp2
       go_ret
       exact ⟨eW, bS GE253.out⟩
      rw [if_pos c19] at H
      have c19b0 : (a0_1 == 0) = true := beq_iff_eq.mpr c19
      have c19b1 : (a0_1 != 0) = false := bne_eq_false_iff_eq.mpr c19
      clear c19
      obtain rfl := Option.some.inj H
      obtain ⟨hcz20_0, hcz20_1, hcz20_2⟩ := z3 BK253.out (.int .i64 a0_0) (.int .i64 a0_1) (.string a0_2)
      obtain ⟨hfz20_0, hfz20_1, hfz20_2⟩ := f3 BK253.out
      go_wp2
      go_ret
      exact ⟨eW, bS GE253.out⟩
     rw [if_pos c16] at H
     have c16b0 : (a0_0 == 4) = true := beq_iff_eq.mpr c16
     have c16b1 : (a0_0 != 4) = false := bne_eq_false_iff_eq.mpr c16
     clear c16
     obtain rfl := Option.some.inj H
     obtain ⟨hcz17_0, hcz17_1, hcz17_2⟩ := z3 BK253.out (.int .i64 a0_0) (.int .i64 a0_1) (.string a0_2)
     obtain ⟨hfz17_0, hfz17_1, hfz17_2⟩ := f3 BK253.out
     go_wp2
     go_ret
     exact ⟨eW, bS GE253.out⟩
    rw [if_pos c10] at H
    have c10b0 : (a0_0 == 3) = true := beq_iff_eq.mpr c10
    have c10b1 : (a0_0 != 3) = false := bne_eq_false_iff_eq.mpr c10
    clear c10
    by_cases c11 : a0_1 = 0
    rotate_left
    ·rw [if_neg c11] at H
     have c11b0 : (a0_1 == 0) = false := beq_eq_false_iff_ne.mpr c11
     have c11b1 : (a0_1 != 0) = true := bne_iff_ne.mpr c11
     by_cases c13 : a0_1 = 1
     rotate_left
     ·rw [if_neg c13] at H
      have c13b0 : (a0_1 == 1) = false := beq_eq_false_iff_ne.mpr c13
      have c13b1 : (a0_1 != 1) = true := bne_iff_ne.mpr c13
      obtain rfl := Option.some.inj H
      obtain ⟨hcz15_0, hcz15_1, hcz15_2⟩ := z3 BK253.out (.int .i64 a0_0) (.int .i64 a0_1) (.string a0_2)
      obtain ⟨hfz15_0, hfz15_1, hfz15_2⟩ := f3 BK253.out
      go_wp2
      go_ret
      exact ⟨eW, bS GE253.out⟩
     rw [if_pos c13] at H
     have c13b0 : (a0_1 == 1) = true := beq_iff_eq.mpr c13
     have c13b1 : (a0_1 != 1) = false := bne_eq_false_iff_eq.mpr c13
     clear c13
     obtain rfl := Option.some.inj H
     obtain ⟨hcz14_0, hcz14_1, hcz14_2⟩ := z3 BK253.out (.int .i64 a0_0) (.int .i64 a0_1) (.string a0_2)
     obtain ⟨hfz14_0, hfz14_1, hfz14_2⟩ := f3 BK253.out
     go_wp2
     go_ret
     exact ⟨eW, bS GE253.out⟩
    rw [if_pos c11] at H
    have c11b0 : (a0_1 == 0) = true := beq_iff_eq.mpr c11
    have c11b1 : (a0_1 != 0) = false := bne_eq_false_iff_eq.mpr c11
    clear c11
    obtain rfl := Option.some.inj H
    obtain ⟨hcz12_0, hcz12_1, hcz12_2⟩ := z3 BK253.out (.int .i64 a0_0) (.int .i64 a0_1) (.string a0_2)
    obtain ⟨hfz12_0, hfz12_1, hfz12_2⟩ := f3 BK253.out
    go_wp2
    go_ret
    exact ⟨eW, bS GE253.out⟩
   subst c6
   rw [if_pos rfl] at H
   by_cases c7 : a0_1 = 0
   rotate_left
   ·rw [if_neg c7] at H
    have c7b0 : (a0_1 == 0) = false := beq_eq_false_iff_ne.mpr c7
    have c7b1 : (a0_1 != 0) = true := bne_iff_ne.mpr c7
    obtain rfl := Option.some.inj H
    obtain ⟨hcz9_0, hcz9_1, hcz9_2⟩ := z3 BK253.out (.int .i64 a0_0) (.int .i64 a0_1) (.string a0_2)
    obtain ⟨hfz9_0, hfz9_1, hfz9_2⟩ := f3 BK253.out
    go_wp2
    go_ret
    exact ⟨eW, bS GE253.out⟩
   rw [if_pos c7] at H
   have c7b0 : (a0_1 == 0) = true := beq_iff_eq.mpr c7
   have c7b1 : (a0_1 != 0) = false := bne_eq_false_iff_eq.mpr c7
   clear c7
   obtain rfl := Option.some.inj H
   obtain ⟨hcz8_0, hcz8_1, hcz8_2⟩ := z3 BK253.out (.int .i64 a0_0) (.int .i64 a0_1) (.string a0_2)
   obtain ⟨hfz8_0, hfz8_1, hfz8_2⟩ := f3 BK253.out
   go_wp2
   go_ret
   exact ⟨eW, bS GE253.out⟩
def r3_Between.j0 : Nat → Bool → Int → Int → ByteArray → Int → Int → ByteArray → Option ((List (S65)) × Int)
 | 0, _, _, _, _, _, _, _ => none
 | k + 1, x13, x348000, x348001, x348002, x349000, x349001, x349002 => if x13 = true then (some (([] : List (S65)), 10)) else ((r1_Compare.f x348000 x348001 x348002 x349000 x349001 x349002).bind fun t351 => (if t351 ≥ 0 then (some (([] : List (S65)), 0)) else (some ((([(⟨(⟨x348000, x348001, x348002⟩ : S24), (⟨x349000, x349001, x349002⟩ : S24), false⟩ : S65)] : List (S65))), 0))))
def r3_Between.f (k : Nat) (a0_0 : Int) (a0_1 : Int) (a0_2 : ByteArray) (a1_0 : Int) (a1_1 : Int) (a1_2 : ByteArray) : Option ((List (S65)) × Int) := (r1_Valid.f k a0_0 a0_1 a0_2).bind fun t349 => (if t349 = true then ((r1_Valid.f k a1_0 a1_1 a1_2).bind fun t350 => (r3_Between.j0 k (!t350) a0_0 a0_1 a0_2 a1_0 a1_1 a1_2)) else (r3_Between.j0 k true a0_0 a0_1 a0_2 a1_0 a1_1 a1_2))
set_option maxHeartbeats 8000000 in
set_option maxRecDepth 100000 in
theorem r3_Between.calls (k : Nat) (a0_0 : Int) (a0_1 : Int) (a0_2 : ByteArray) (a1_0 : Int) (a1_1 : Int) (a1_2 : ByteArray) (r1 : List (S65)) (r2 : Int) (w : World) (h : r3_Between.f k a0_0 a0_1 a0_2 a1_0 a1_1 a1_2 = some (r1, r2)) :
  Calls Try.prog 39 #[.agg #[.int .i64 a0_0, .int .i64 a0_1, .string a0_2], .agg #[.int .i64 a1_0, .int .i64 a1_1, .string a1_2]] w fun e w' => ∃ v0_ : Value, e = .returned (.tuple #[v0_, .int .i64 r2]) ∧ Kd.R k65 65 w' w.heap.size (fun _ => True) v0_ r1 ∧ Below w.heap.size w w' := by
 have hu24 := Try.underlying24
 have hu65 := Try.underlying65
 have HB := aK (Below.refl w.heap.size w)
 have H : ((r1_Valid.f k a0_0 a0_1 a0_2).bind fun t349 => (if t349 = true then ((r1_Valid.f k a1_0 a1_1 a1_2).bind fun t350 => (r3_Between.j0 k (!t350) a0_0 a0_1 a0_2 a1_0 a1_1 a1_2)) else (r3_Between.j0 k true a0_0 a0_1 a0_2 a1_0 a1_1 a1_2))) = some (r1, r2) := h
 clear h
 have HC3 := Aside0.mk H
 clear H
 go_enter Try.func39, Try.ntmps39
 go_upto_region 1 with (first | ((with_reducible refine gate_dst (N := 2) rfl ?_); refine box_event ?hg (N := 2) ?hd (cs := #[.int .i64 a0_0, .int .i64 a0_1, .string a0_2]) (t := 24) ?hr ?_; (case hd => rfl); (case hg => rfl); (case hr => exact hR); intro gb347 hg w4 hbox hb; have n0_ := aK (below_step bO hb); have n1_ := aK (hbox); have n2_ := aK ((by rw [hg]; exact (below_size bO) : w.heap.size ≤ gb347)); have n3_ := aK ((by rw [hg]; exact (below_size bO) : w.heap.size ≤ gb347)); clear HB; have HB := n0_; have BK347 := n1_; have GW347 := n2_; have GE347 := n3_; clear n0_ n1_ n2_ n3_ hb hbox hg) | ((with_reducible refine gate_dst (N := 3) rfl ?_); refine box_event ?hg (N := 3) ?hd (cs := #[.int .i64 a1_0, .int .i64 a1_1, .string a1_2]) (t := 24) ?hr ?_; (case hd => rfl); (case hg => rfl); (case hr => exact hR); intro gb348 hg w5 hbox hb; have n0_ := aK (blk_below (bX BK347.out) hb); have n1_ := aK (below_step (bS GE347.out) hb); have n2_ := aK (hbox); have n3_ := aK ((by rw [hg]; exact (below_size (bS GE347.out)) : w.heap.size ≤ gb348)); have n4_ := aK ((by rw [hg]; exact (below_size (bS GE347.out)) : w.heap.size ≤ gb348)); have n5_ := aK ((by rw [hg]; exact Nat.ne_of_lt (blk_lt (bX BK347.out)) : gb347 ≠ gb348)); have n6_ := aK ((by rw [hg]; exact Nat.ne_of_gt (blk_lt (bX BK347.out)) : gb348 ≠ gb347)); clear BK347 HB; have BK347 := n0_; have HB := n1_; have BK348 := n2_; have GW348 := n3_; have GE348 := n4_; have NB347_348 := n5_; have NB348_347 := n6_; clear n0_ n1_ n2_ n3_ n4_ n5_ n6_ hb hbox hg))
 (try simp only [Act.put, List.setIfInBounds_toArray, List.set_cons_zero, List.set_cons_succ])
 go_cut [13] (fun v13 wc => ∃ (kq : Nat) (x13_2 : Bool), v13 = .bool x13_2 ∧ Aside0 (r3_Between.j0 kq x13_2 a0_0 a0_1 a0_2 a1_0 a1_1 a1_2 = some (r1, r2)) ∧ Aside0 (kq ≤ k) ∧ Aside0 (wc.heap[gb347]? = some (.cells #[.int .i64 a0_0, .int .i64 a0_1, .string a0_2] 24 (0, 0))) ∧ Aside0 (wc.heap[gb348]? = some (.cells #[.int .i64 a1_0, .int .i64 a1_1, .string a1_2] 24 (0, 0))) ∧ Aside0 (Below w.heap.size w wc))
 case first =>
  have H := HC3.out
  clear HC3
  obtain ⟨t349, A6, H⟩ := oB H
  try dsimp only at H
  by_cases c7 : t349 = true
  rotate_left
  ·replace c7 := Bool.eq_false_iff.mpr c7
   subst c7
   rw [if_neg (show ¬ (false = true) by decide)] at H
   have H' := Aside0.mk H
   clear H
   have hnb14 := NB347_348.out
   have hnc14 := NB348_347.out
   obtain ⟨hcz15_0, hcz15_1, hcz15_2⟩ := z3 BK347.out (.int .i64 a0_0) (.int .i64 a0_1) (.string a0_2)
   obtain ⟨hfz15_0, hfz15_1, hfz15_2⟩ := f3 BK347.out
   go_wp2_with (first | ((with_reducible refine gate_callee (f := 23) rfl ?_); refine gL (some 7) rfl Try.func23 #[.agg #[.int .i64 a0_0, .int .i64 a0_1, .string a0_2]] rfl ?_; (with_reducible refine (r1_Valid.calls k a0_0 a0_1 a0_2 false _ A6.out).mono ?_); rintro e w16 ⟨rfl, hb⟩; refine ⟨_, rfl, ?_⟩; have n0_ := aK (blk_below (bX BK347.out) hb); have n1_ := aK (blk_below (bX BK348.out) hb); have n2_ := aK (below_step (bT GE347.out GE348.out) hb); clear BK347 BK348 HB; have BK347 := n0_; have BK348 := n1_; have HB := n2_; clear n0_ n1_ n2_; (try clear hb)))
   go_meet
   case rel => exact ⟨_, (true), (by first | rfl | (simp; done) | (simp [*]; done)), H', ⟨by first | omega | exact Nat.le_refl _⟩, ⟨bX BK347.out⟩, ⟨bX BK348.out⟩, ⟨bT GE347.out GE348.out⟩⟩
  subst c7
  rw [if_pos rfl] at H
  obtain ⟨t350, A8, H⟩ := oB H
  try dsimp only at H
  have H' := Aside0.mk H
  clear H
  have hnb9 := NB347_348.out
  have hnc9 := NB348_347.out
  obtain ⟨hcz10_0, hcz10_1, hcz10_2⟩ := z3 BK347.out (.int .i64 a0_0) (.int .i64 a0_1) (.string a0_2)
  obtain ⟨hfz10_0, hfz10_1, hfz10_2⟩ := f3 BK347.out
  go_wp2_with (first | ((with_reducible refine gate_callee (f := 23) rfl ?_); refine gL (some 7) rfl Try.func23 #[.agg #[.int .i64 a0_0, .int .i64 a0_1, .string a0_2]] rfl ?_; (with_reducible refine (r1_Valid.calls k a0_0 a0_1 a0_2 true _ A6.out).mono ?_); rintro e w11 ⟨rfl, hb⟩; refine ⟨_, rfl, ?_⟩; have n0_ := aK (blk_below (bX BK347.out) hb); have n1_ := aK (blk_below (bX BK348.out) hb); have n2_ := aK (below_step (bT GE347.out GE348.out) hb); clear BK347 BK348 HB; have BK347 := n0_; have BK348 := n1_; have HB := n2_; clear n0_ n1_ n2_; (try clear hb); obtain ⟨hcz12_0, hcz12_1, hcz12_2⟩ := z3 BK348.out (.int .i64 a1_0) (.int .i64 a1_1) (.string a1_2); obtain ⟨hfz12_0, hfz12_1, hfz12_2⟩ := f3 BK348.out) | (go_at_call 23; (with_reducible refine (r1_Valid.calls k a1_0 a1_1 a1_2 t350 _ A8.out).mono ?_); rintro e w13 ⟨rfl, hb⟩; have n0_ := aK (blk_below (bX BK347.out) hb); have n1_ := aK (blk_below (bX BK348.out) hb); have n2_ := aK (below_step (bT GE347.out GE348.out) hb); clear BK347 BK348 HB; have BK347 := n0_; have BK348 := n1_; have HB := n2_; clear n0_ n1_ n2_; (try clear hb)))
  go_meet
  case rel => exact ⟨_, (!t350), (by first | rfl | (simp; done) | (simp [*]; done)), H', ⟨by first | omega | exact Nat.le_refl _⟩, ⟨bX BK347.out⟩, ⟨bX BK348.out⟩, ⟨bT GE347.out GE348.out⟩⟩
 case rest =>
  clear HC3
  try clear c1
  try clear c2
  try clear p2
  try clear c3
  try clear c7
  try clear c9
  try clear c14
  try clear hcz10_0 hcz10_1 hcz10_2
  try clear hcz12_0 hcz12_1 hcz12_2
  try clear hcz15_0 hcz15_1 hcz15_2
  try clear hfz10_0 hfz10_1 hfz10_2
  try clear hfz12_0 hfz12_1 hfz12_2
  try clear hfz15_0 hfz15_1 hfz15_2
  obtain ⟨kq, x13_2, rfl, HA, HJ2, BK347, BK348, HB⟩ := hcut
  cases kq with
  | zero => exact absurd HA.out (by simp [r3_Between.j0])
  | succ kj2 =>
   have H := HA.out
   clear HA
   simp only [r3_Between.j0] at H
   by_cases c17 : x13_2 = true
   rotate_left
   ·replace c17 := Bool.eq_false_iff.mpr c17
    subst c17
    rw [if_neg (show ¬ (false = true) by decide)] at H
    obtain ⟨t351, A18, H⟩ := oB H
    try dsimp only at H
    by_cases c19 : t351 ≥ 0
    rotate_left
    ·rw [if_neg c19] at H
     have c19b0 : decide (0 ≤ t351) = false := decide_eq_false c19
     clear c19
     obtain ⟨y352, hy352⟩ : ∃ y_ : List (S65), y_ = (([(⟨(⟨a0_0, a0_1, a0_2⟩ : S24), (⟨a1_0, a1_1, a1_2⟩ : S24), false⟩ : S65)] : List (S65))) := ⟨_, rfl⟩
     replace H : (some (y352, 0)) = some (r1, r2) := by first | (rw [hy352]; with_reducible exact H) | (have H2_ := (Option.bind_some _ _).symm.trans H; rw [hy352]; with_reducible exact H2_) | (have H2_ := (Option.bind_some _ _).symm.trans H; with_reducible exact H2_) | with_reducible exact H | (rw [hy352]; exact H) | exact H
     have Ny352 := Aside0.mk hy352
     clear hy352
     simp only [Option.some.injEq, Prod.mk.injEq] at H
     obtain ⟨rfl, rfl⟩ := H
     have hnb24 := NB347_348.out
     have hnc24 := NB348_347.out
     obtain ⟨hcz25_0, hcz25_1, hcz25_2⟩ := z3 BK347.out (.int .i64 a0_0) (.int .i64 a0_1) (.string a0_2)
     obtain ⟨hfz25_0, hfz25_1, hfz25_2⟩ := f3 BK347.out
     obtain ⟨hcz26_0, hcz26_1, hcz26_2⟩ := z3 BK348.out (.int .i64 a1_0) (.int .i64 a1_1) (.string a1_2)
     obtain ⟨hfz26_0, hfz26_1, hfz26_2⟩ := f3 BK348.out
     go_wp2_with (first | ((with_reducible refine gate_callee (f := 26) rfl ?_); refine gL (some 16) rfl Try.func26 #[.agg #[.int .i64 a0_0, .int .i64 a0_1, .string a0_2], .agg #[.int .i64 a1_0, .int .i64 a1_1, .string a1_2]] rfl ?_; (with_reducible refine (r1_Compare.calls a0_0 a0_1 a0_2 a1_0 a1_1 a1_2 t351 _ A18.out).mono ?_); rintro e w27 ⟨rfl, hb⟩; refine ⟨_, rfl, ?_⟩; have n0_ := aK (blk_below (bX BK347.out) hb); have n1_ := aK (blk_below (bX BK348.out) hb); have n2_ := aK (below_step (bT GE347.out GE348.out) hb); clear BK347 BK348 HB; have BK347 := n0_; have BK348 := n1_; have HB := n2_; clear n0_ n1_ n2_; (try clear hb); obtain ⟨hcz28_0, hcz28_1, hcz28_2⟩ := z3 BK347.out (.int .i64 a0_0) (.int .i64 a0_1) (.string a0_2); obtain ⟨hfz28_0, hfz28_1, hfz28_2⟩ := f3 BK347.out; obtain ⟨hcz29_0, hcz29_1, hcz29_2⟩ := z3 BK348.out (.int .i64 a1_0) (.int .i64 a1_1) (.string a1_2); obtain ⟨hfz29_0, hfz29_1, hfz29_2⟩ := f3 BK348.out) | ((with_reducible refine gate_dst (N := 21) rfl ?_); refine Kd.R_lit k65 _ 65 ?hg (N := 21) ?hd (xs := ([(⟨(⟨a0_0, a0_1, a0_2⟩ : S24), (⟨a1_0, a1_1, a1_2⟩ : S24), false⟩ : S65)] : List (S65))) (inner := [.int .i64 a0_0, .int .i64 a0_1, .string a0_2, .int .i64 a1_0, .int .i64 a1_1, .string a1_2, .bool false]) (ok := fun _ => True) (okp := fun _ => True) ?hr ?hp (fun _ hk => hk) trivial (Below.refl _ _) (Nat.le_refl _) (by simp) ?_; (case hd => rfl); (case hg => rfl); (case hr => exact hR); (case hp => exact (Reps.c7 (show Kd.M k65 _ _ _ (⟨(⟨a0_0, a0_1, a0_2⟩ : S24), (⟨a1_0, a1_1, a1_2⟩ : S24), false⟩ : S65) [.int .i64 a0_0, .int .i64 a0_1, .string a0_2, .int .i64 a1_0, .int .i64 a1_1, .string a1_2, .bool false] from (k65_mkM _ _ _ (⟨(⟨a0_0, a0_1, a0_2⟩ : S24), (⟨a1_0, a1_1, a1_2⟩ : S24), false⟩ : S65) )) (Reps.none _ _))); intro v353 w30 ho31 hb hg_ hnew_; clear hg_ hnew_; (first | rw [← Ny352.out] at ho31 | (simp only [Int.reduceToNat] at ho31; rw [← Ny352.out] at ho31)); have n0_ := aK (Kd.R_lower ho31 (below_size (bT GE347.out GE348.out))); have n1_ := aK (blk_below (bX BK347.out) hb); have n2_ := aK (blk_below (bX BK348.out) hb); have n3_ := aK (below_step (bT GE347.out GE348.out) hb); clear BK347 BK348 HB; have HO354 := n0_; have BK347 := n1_; have BK348 := n2_; have HB := n3_; clear n0_ n1_ n2_ n3_ hb ho31))
     go_ret2
     exact ⟨_, eW, rX HO354.out, bT GE347.out GE348.out⟩
    rw [if_pos c19] at H
    have c19b0 : decide (0 ≤ t351) = true := decide_eq_true c19
    clear c19
    simp only [Option.some.injEq, Prod.mk.injEq] at H
    obtain ⟨rfl, rfl⟩ := H
    have hnb20 := NB347_348.out
    have hnc20 := NB348_347.out
    obtain ⟨hcz21_0, hcz21_1, hcz21_2⟩ := z3 BK347.out (.int .i64 a0_0) (.int .i64 a0_1) (.string a0_2)
    obtain ⟨hfz21_0, hfz21_1, hfz21_2⟩ := f3 BK347.out
    obtain ⟨hcz22_0, hcz22_1, hcz22_2⟩ := z3 BK348.out (.int .i64 a1_0) (.int .i64 a1_1) (.string a1_2)
    obtain ⟨hfz22_0, hfz22_1, hfz22_2⟩ := f3 BK348.out
    go_wp2_with (first | ((with_reducible refine gate_callee (f := 26) rfl ?_); refine gL (some 16) rfl Try.func26 #[.agg #[.int .i64 a0_0, .int .i64 a0_1, .string a0_2], .agg #[.int .i64 a1_0, .int .i64 a1_1, .string a1_2]] rfl ?_; (with_reducible refine (r1_Compare.calls a0_0 a0_1 a0_2 a1_0 a1_1 a1_2 t351 _ A18.out).mono ?_); rintro e w23 ⟨rfl, hb⟩; refine ⟨_, rfl, ?_⟩; have n0_ := aK (blk_below (bX BK347.out) hb); have n1_ := aK (blk_below (bX BK348.out) hb); have n2_ := aK (below_step (bT GE347.out GE348.out) hb); clear BK347 BK348 HB; have BK347 := n0_; have BK348 := n1_; have HB := n2_; clear n0_ n1_ n2_; (try clear hb)))
    go_ret2
    exact ⟨_, eW, by first | exact Kd.R_nil _ _ _ _ _ | exact Kd.N_nil _ _ _ _ _ | exact Kd.V_nil _ _ _ _ _ | exact Kd.Q_nil _ _ _ _ _ | exact Kd.S_nil _ _ _ _ _, bT GE347.out GE348.out⟩
   subst c17
   rw [if_pos rfl] at H
   simp only [Option.some.injEq, Prod.mk.injEq] at H
   obtain ⟨rfl, rfl⟩ := H
   go_wp2
   go_ret2
   exact ⟨_, eW, by first | exact Kd.R_nil _ _ _ _ _ | exact Kd.N_nil _ _ _ _ _ | exact Kd.V_nil _ _ _ _ _ | exact Kd.Q_nil _ _ _ _ _ | exact Kd.S_nil _ _ _ _ _, bT GE347.out GE348.out⟩
end Go.Proofs.Ytpjcdacnhalclaa.Q
