/- A part of a proof: facts of functions that the law calls; conditions stand in each. -/
import Derived.Test.YtpjcdacnhalclaaM14x3
import Derived.Test.YtpjcdacnhalclaaM14x13
set_option linter.unusedVariables false
set_option linter.unusedSimpArgs false
namespace Go.Proofs.Ytpjcdacnhalclaa.Q
open Go.RowKit Go.Proofs.YtpjcdacnhalclaaW.PrintWords Go.Proofs.YtpjcdacnhalclaaW.PrintLast Go.Proofs.YtpjcdacnhalclaaW.PrintMore
attribute [local go_sem] max2_int min2_int max_two min_two max_three min_three max_four min_four
def r1_Next.l0 : Nat → Int → Int → Int → ByteArray → Option (Int × Int × ByteArray × Bool)
 | 0, _, _, _, _ => none
 | k + 1, x4, x302000, x302001, x302002 => if x4 > 0 then (if 0 ≤ (wrap64 (x4 - 1)) then (if (wrap64 (x4 - 1)) < (x302002.size : Int) then (if (bt x302002 (wrap64 (x4 - 1))) = 255 then (r1_Next.l0 k (wrap64 (x4 - 1)) x302000 x302001 x302002) else (if x4 = 0 then (some (0, 0, (⟨#[]⟩ : ByteArray), false)) else (if (wrap64 (x4 - 1)) ≤ (x302002.size : Int) then ((some (([((bt x302002 (wrap64 (x4 - 1))) + 1) % 256] : List Int) : List Int)).bind fun y304 => (if (x302002.extract 0 ((wrap64 (x4 - 1)) : Int).toNat).size + (strOfNums y304).size ≤ 9223372036854775807 then (some (5, 0, (x302002.extract 0 ((wrap64 (x4 - 1)) : Int).toNat) ++ (strOfNums y304), true)) else (none))) else (none)))) else (none)) else (none)) else (if x4 = 0 then (some (0, 0, (⟨#[]⟩ : ByteArray), false)) else (if 0 ≤ (wrap64 (x4 - 1)) then (if (wrap64 (x4 - 1)) ≤ (x302002.size : Int) then (if (wrap64 (x4 - 1)) < (x302002.size : Int) then ((some (([((bt x302002 (wrap64 (x4 - 1))) + 1) % 256] : List Int) : List Int)).bind fun y307 => (if (x302002.extract 0 ((wrap64 (x4 - 1)) : Int).toNat).size + (strOfNums y307).size ≤ 9223372036854775807 then (some (5, 0, (x302002.extract 0 ((wrap64 (x4 - 1)) : Int).toNat) ++ (strOfNums y307), true)) else (none))) else (none)) else (none)) else (none)))
def r1_Next.f (k : Nat) (a0_0 : Int) (a0_1 : Int) (a0_2 : ByteArray) : Option (Int × Int × ByteArray × Bool) := (r1_Valid.f k a0_0 a0_1 a0_2).bind fun t303 => (if t303 = true then (if a0_0 = 1 then (some (2, 0, (⟨#[]⟩ : ByteArray), true)) else (if a0_0 = 2 then (some (3, 0, (⟨#[]⟩ : ByteArray), true)) else (if a0_0 = 3 then (if a0_1 = 0 then (some (3, 1, (⟨#[]⟩ : ByteArray), true)) else (some (4, (-9223372036854775808), (⟨#[]⟩ : ByteArray), true))) else (if a0_0 = 4 then (if a0_1 < 9223372036854775807 then (some (4, wrap64 (a0_1 + 1), (⟨#[]⟩ : ByteArray), true)) else (some (5, 0, (⟨#[]⟩ : ByteArray), true))) else (if (a0_2.size : Int) < 64 then (if a0_2.size + 1 ≤ 9223372036854775807 then (some (5, 0, a0_2 ++ (⟨#[0]⟩ : ByteArray), true)) else (none)) else (r1_Next.l0 k (a0_2.size : Int) a0_0 a0_1 a0_2)))))) else (some (0, 0, (⟨#[]⟩ : ByteArray), false)))
def r1_Next.T23 : Bool × List (List Nat × List Nat) := (true, [([], []), ([0], [0]), ([], []), ([2], [2]), ([1, 3], [1, 3]), ([], []), ([5], [5]), ([], []), ([7], [7]), ([6, 8], [6, 8]), ([9], [9]), ([10], [10]), ([11], [11]), ([4, 12], [4, 12]), ([13], [13]), ([14, 0, 1, 2, 3, 4, 5, 6, 7, 8, 9, 10, 11, 12, 13, 14], [14]), ([15, 0, 1, 2, 3, 4, 5, 6, 7, 8, 9, 10, 11, 12, 13, 14, 15], [])])
def r1_Next.B23 : List Nat := [0, 1, 0, 4, 15, 0, 32, 0, 128, 480, 992, 2016, 4064, 8191, 16383, 32767, 65535]
theorem r1_Next.tab23 : rtab .any (opsOf Try.f28 23) = r1_Next.T23 := by kernel_rfl
theorem r1_Next.bits23 : waitsOk r1_Next.T23.2 r1_Next.B23 = true := by kernel_rfl
set_option maxHeartbeats 8000000 in
set_option maxRecDepth 100000 in
theorem r1_Next.calls (k : Nat) (a0_0 : Int) (a0_1 : Int) (a0_2 : ByteArray) (r1 : Int) (r2 : Int) (r3 : ByteArray) (r4 : Bool) (w : World) (h : r1_Next.f k a0_0 a0_1 a0_2 = some (r1, r2, r3, r4)) :
  Calls Try.prog 28 #[.agg #[.int .i64 a0_0, .int .i64 a0_1, .string a0_2]] w fun e w' => e = .returned (.tuple #[.agg #[.int .i64 r1, .int .i64 r2, .string r3], .bool r4]) ∧ Below w.heap.size w w' := by
 have hu24 := Try.underlying24
 have HB := aK (Below.refl w.heap.size w)
 have H : ((r1_Valid.f k a0_0 a0_1 a0_2).bind fun t303 => (if t303 = true then (if a0_0 = 1 then (some (2, 0, (⟨#[]⟩ : ByteArray), true)) else (if a0_0 = 2 then (some (3, 0, (⟨#[]⟩ : ByteArray), true)) else (if a0_0 = 3 then (if a0_1 = 0 then (some (3, 1, (⟨#[]⟩ : ByteArray), true)) else (some (4, (-9223372036854775808), (⟨#[]⟩ : ByteArray), true))) else (if a0_0 = 4 then (if a0_1 < 9223372036854775807 then (some (4, wrap64 (a0_1 + 1), (⟨#[]⟩ : ByteArray), true)) else (some (5, 0, (⟨#[]⟩ : ByteArray), true))) else (if (a0_2.size : Int) < 64 then (if a0_2.size + 1 ≤ 9223372036854775807 then (some (5, 0, a0_2 ++ (⟨#[0]⟩ : ByteArray), true)) else (none)) else (r1_Next.l0 k (a0_2.size : Int) a0_0 a0_1 a0_2)))))) else (some (0, 0, (⟨#[]⟩ : ByteArray), false)))) = some (r1, r2, r3, r4) := h
 clear h
 obtain ⟨t303, A2, H⟩ := oB H
 try dsimp only at H
 by_cases c3 : t303 = true
 rotate_left
 ·replace c3 := Bool.eq_false_iff.mpr c3
  subst c3
  rw [if_neg (show ¬ (false = true) by decide)] at H
  simp only [Option.some.injEq, Prod.mk.injEq] at H
  obtain ⟨rfl, rfl, rfl, rfl⟩ := H
  go_enter Try.func28, Try.ntmps28
  go_wp2_with (first | ((with_reducible refine gate_dst (N := 1) rfl ?_); refine box_event ?hg (N := 1) ?hd (cs := #[.int .i64 a0_0, .int .i64 a0_1, .string a0_2]) (t := 24) ?hr ?_; (case hd => rfl); (case hg => rfl); (case hr => exact hR); intro gb301 hg w108 hbox hb; have n0_ := aK (below_step bO hb); have n1_ := aK (hbox); have n2_ := aK ((by rw [hg]; exact (below_size bO) : w.heap.size ≤ gb301)); have n3_ := aK ((by rw [hg]; exact (below_size bO) : w.heap.size ≤ gb301)); clear HB; have HB := n0_; have BK301 := n1_; have GW301 := n2_; have GE301 := n3_; clear n0_ n1_ n2_ n3_ hb hbox hg) | ((with_reducible refine gate_dst (N := 2) rfl ?_); refine box_event ?hg (N := 2) ?hd (cs := #[.int .i64 0, .int .i64 0, .string (⟨#[]⟩ : ByteArray)]) (t := 24) ?hr ?_; (case hd => rfl); (case hg => rfl); (case hr => exact hR); intro gb302 hg w109 hbox hb; have n0_ := aK (blk_below (bX BK301.out) hb); have n1_ := aK (below_step (bS GE301.out) hb); have n2_ := aK (hbox); have n3_ := aK ((by rw [hg]; exact (below_size (bS GE301.out)) : w.heap.size ≤ gb302)); have n4_ := aK ((by rw [hg]; exact (below_size (bS GE301.out)) : w.heap.size ≤ gb302)); have n5_ := aK ((by rw [hg]; exact Nat.ne_of_lt (blk_lt (bX BK301.out)) : gb301 ≠ gb302)); have n6_ := aK ((by rw [hg]; exact Nat.ne_of_gt (blk_lt (bX BK301.out)) : gb302 ≠ gb301)); clear BK301 HB; have BK301 := n0_; have HB := n1_; have BK302 := n2_; have GW302 := n3_; have GE302 := n4_; have NB301_302 := n5_; have NB302_301 := n6_; clear n0_ n1_ n2_ n3_ n4_ n5_ n6_ hb hbox hg; have hnb110 := NB301_302.out; have hnc110 := NB302_301.out; obtain ⟨hcz111_0, hcz111_1, hcz111_2⟩ := z3 BK301.out (.int .i64 a0_0) (.int .i64 a0_1) (.string a0_2); obtain ⟨hfz111_0, hfz111_1, hfz111_2⟩ := f3 BK301.out) | ((with_reducible refine gate_callee (f := 23) rfl ?_); refine gL (some 6) rfl Try.func23 #[.agg #[.int .i64 a0_0, .int .i64 a0_1, .string a0_2]] rfl ?_; (with_reducible refine (r1_Valid.calls k a0_0 a0_1 a0_2 false _ A2.out).mono ?_); rintro e w112 ⟨rfl, hb⟩; refine ⟨_, rfl, ?_⟩; have n0_ := aK (blk_below (bX BK301.out) hb); have n1_ := aK (blk_below (bX BK302.out) hb); have n2_ := aK (below_step (bT GE301.out GE302.out) hb); clear BK301 BK302 HB; have BK301 := n0_; have BK302 := n1_; have HB := n2_; clear n0_ n1_ n2_; (try clear hb); obtain ⟨hcz113_0, hcz113_1, hcz113_2⟩ := z3 BK302.out (.int .i64 0) (.int .i64 0) (.string (⟨#[]⟩ : ByteArray)); obtain ⟨hfz113_0, hfz113_1, hfz113_2⟩ := f3 BK302.out))
  refine bodyPost_ret (results_ct rfl _ _ gb302 24 #[.int .i64 0, .int .i64 0, .string (⟨#[]⟩ : ByteArray)] (0, 0) _ rfl (put3 BK302.out) Try.underlying24 rfl (by kernel_rfl)) rfl ?_
  exact ⟨eW, bT GE301.out GE302.out⟩
 subst c3
 rw [if_pos rfl] at H
 by_cases c4 : a0_0 = 1
 rotate_left
 ·rw [if_neg c4] at H
  have c4b0 : (a0_0 == 1) = false := beq_eq_false_iff_ne.mpr c4
  have c4b1 : (a0_0 != 1) = true := bne_iff_ne.mpr c4
  by_cases c12 : a0_0 = 2
  rotate_left
  ·rw [if_neg c12] at H
   have c12b0 : (a0_0 == 2) = false := beq_eq_false_iff_ne.mpr c12
   have c12b1 : (a0_0 != 2) = true := bne_iff_ne.mpr c12
   by_cases c20 : a0_0 = 3
   rotate_left
   ·rw [if_neg c20] at H
    have c20b0 : (a0_0 == 3) = false := beq_eq_false_iff_ne.mpr c20
    have c20b1 : (a0_0 != 3) = true := bne_iff_ne.mpr c20
    by_cases c36 : a0_0 = 4
    rotate_left
    ·rw [if_neg c36] at H
     have c36b0 : (a0_0 == 4) = false := beq_eq_false_iff_ne.mpr c36
     have c36b1 : (a0_0 != 4) = true := bne_iff_ne.mpr c36
     by_cases c52 : (a0_2.size : Int) < 64
     rotate_left
     ·rw [if_neg c52] at H
      have c52b0 : decide ((a0_2.size : Int) < 64) = false := decide_eq_false c52
      have c52b1 : decide (a0_2.size < 64) = false := decide_eq_false (by omega)
      clear c52
      have H' := Aside0.mk H
      clear H
      go_enter Try.func28, Try.ntmps28
      go_wp2_with (first | ((with_reducible refine gate_dst (N := 1) rfl ?_); refine box_event ?hg (N := 1) ?hd (cs := #[.int .i64 a0_0, .int .i64 a0_1, .string a0_2]) (t := 24) ?hr ?_; (case hd => rfl); (case hg => rfl); (case hr => exact hR); intro gb301 hg w61 hbox hb; have n0_ := aK (below_step bO hb); have n1_ := aK (hbox); have n2_ := aK ((by rw [hg]; exact (below_size bO) : w.heap.size ≤ gb301)); have n3_ := aK ((by rw [hg]; exact (below_size bO) : w.heap.size ≤ gb301)); clear HB; have HB := n0_; have BK301 := n1_; have GW301 := n2_; have GE301 := n3_; clear n0_ n1_ n2_ n3_ hb hbox hg) | ((with_reducible refine gate_dst (N := 2) rfl ?_); refine box_event ?hg (N := 2) ?hd (cs := #[.int .i64 0, .int .i64 0, .string (⟨#[]⟩ : ByteArray)]) (t := 24) ?hr ?_; (case hd => rfl); (case hg => rfl); (case hr => exact hR); intro gb302 hg w62 hbox hb; have n0_ := aK (blk_below (bX BK301.out) hb); have n1_ := aK (below_step (bS GE301.out) hb); have n2_ := aK (hbox); have n3_ := aK ((by rw [hg]; exact (below_size (bS GE301.out)) : w.heap.size ≤ gb302)); have n4_ := aK ((by rw [hg]; exact (below_size (bS GE301.out)) : w.heap.size ≤ gb302)); have n5_ := aK ((by rw [hg]; exact Nat.ne_of_lt (blk_lt (bX BK301.out)) : gb301 ≠ gb302)); have n6_ := aK ((by rw [hg]; exact Nat.ne_of_gt (blk_lt (bX BK301.out)) : gb302 ≠ gb301)); clear BK301 HB; have BK301 := n0_; have HB := n1_; have BK302 := n2_; have GW302 := n3_; have GE302 := n4_; have NB301_302 := n5_; have NB302_301 := n6_; clear n0_ n1_ n2_ n3_ n4_ n5_ n6_ hb hbox hg; have hnb63 := NB301_302.out; have hnc63 := NB302_301.out; obtain ⟨hcz64_0, hcz64_1, hcz64_2⟩ := z3 BK301.out (.int .i64 a0_0) (.int .i64 a0_1) (.string a0_2); obtain ⟨hfz64_0, hfz64_1, hfz64_2⟩ := f3 BK301.out) | ((with_reducible refine gate_callee (f := 23) rfl ?_); refine gL (some 6) rfl Try.func23 #[.agg #[.int .i64 a0_0, .int .i64 a0_1, .string a0_2]] rfl ?_; (with_reducible refine (r1_Valid.calls k a0_0 a0_1 a0_2 true _ A2.out).mono ?_); rintro e w65 ⟨rfl, hb⟩; refine ⟨_, rfl, ?_⟩; have n0_ := aK (blk_below (bX BK301.out) hb); have n1_ := aK (blk_below (bX BK302.out) hb); have n2_ := aK (below_step (bT GE301.out GE302.out) hb); clear BK301 BK302 HB; have BK301 := n0_; have BK302 := n1_; have HB := n2_; clear n0_ n1_ n2_; (try clear hb); obtain ⟨hcz66_0, hcz66_1, hcz66_2⟩ := z3 BK301.out (.int .i64 a0_0) (.int .i64 a0_1) (.string a0_2); obtain ⟨hfz66_0, hfz66_1, hfz66_2⟩ := f3 BK301.out))
      go_loopg [4] k (fun kq v4 w' => ∃ (x4_1 : Int), v4 = .int .i64 x4_1 ∧ Aside0 (r1_Next.l0 kq x4_1 a0_0 a0_1 a0_2 = some (r1, r2, r3, r4)) ∧ Aside0 (kq ≤ k) ∧ Aside0 (w'.heap[gb301]? = some (.cells #[.int .i64 a0_0, .int .i64 a0_1, .string a0_2] 24 (0, 0))) ∧ Aside0 (w'.heap[gb302]? = some (.cells #[.int .i64 0, .int .i64 0, .string (⟨#[]⟩ : ByteArray)] 24 (0, 0))) ∧ Aside0 (Below w.heap.size w w'))
      case atStart => exact ⟨((a0_2.size : Int)), (by first | rfl | (simp; done) | (simp [*]; done)), H', ⟨Nat.le_refl _⟩, ⟨bX BK301.out⟩, ⟨bX BK302.out⟩, ⟨bT GE301.out GE302.out⟩⟩
      case round =>
       clear H'
       try clear c1
       try clear c2
       try clear p2
       try clear c3
       try clear c4
       try clear c4b0
       try clear c4b1
       try clear c5
       try clear c6
       try clear p6
       try clear c7
       try clear c12
       try clear c12b0
       try clear c12b1
       try clear c15
       try clear c20
       try clear c20b0
       try clear c20b1
       try clear c21
       try clear c21b0
       try clear c21b1
       try clear c23
       try clear c24
       try clear c28
       try clear c31
       try clear c36
       try clear c36b0
       try clear c36b1
       try clear c37
       try clear c37b0
       try clear c40
       try clear c47
       try clear c52
       try clear c52b0
       try clear c52b1
       try clear c53
       try clear c53b0
       try clear c53b1
       try clear c53b2
       try clear c56
       try clear c63
       try clear p64
       try clear hcz10_0 hcz10_1 hcz10_2
       try clear hcz11_0 hcz11_1 hcz11_2
       try clear hcz16_0 hcz16_1 hcz16_2
       try clear hcz18_0 hcz18_1 hcz18_2
       try clear hcz19_0 hcz19_1 hcz19_2
       try clear hcz25_0 hcz25_1 hcz25_2
       try clear hcz27_0 hcz27_1 hcz27_2
       try clear hcz28_0 hcz28_1 hcz28_2
       try clear hcz32_0 hcz32_1 hcz32_2
       try clear hcz34_0 hcz34_1 hcz34_2
       try clear hcz35_0 hcz35_1 hcz35_2
       try clear hcz41_0 hcz41_1 hcz41_2
       try clear hcz43_0 hcz43_1 hcz43_2
       try clear hcz44_0 hcz44_1 hcz44_2
       try clear hcz48_0 hcz48_1 hcz48_2
       try clear hcz50_0 hcz50_1 hcz50_2
       try clear hcz51_0 hcz51_1 hcz51_2
       try clear hcz57_0 hcz57_1 hcz57_2
       try clear hcz59_0 hcz59_1 hcz59_2
       try clear hcz60_0 hcz60_1 hcz60_2
       try clear hcz64_0 hcz64_1 hcz64_2
       try clear hcz66_0 hcz66_1 hcz66_2
       try clear hcz8_0 hcz8_1 hcz8_2
       try clear hfz10_0 hfz10_1 hfz10_2
       try clear hfz11_0 hfz11_1 hfz11_2
       try clear hfz16_0 hfz16_1 hfz16_2
       try clear hfz18_0 hfz18_1 hfz18_2
       try clear hfz19_0 hfz19_1 hfz19_2
       try clear hfz25_0 hfz25_1 hfz25_2
       try clear hfz27_0 hfz27_1 hfz27_2
       try clear hfz28_0 hfz28_1 hfz28_2
       try clear hfz32_0 hfz32_1 hfz32_2
       try clear hfz34_0 hfz34_1 hfz34_2
       try clear hfz35_0 hfz35_1 hfz35_2
       try clear hfz41_0 hfz41_1 hfz41_2
       try clear hfz43_0 hfz43_1 hfz43_2
       try clear hfz44_0 hfz44_1 hfz44_2
       try clear hfz48_0 hfz48_1 hfz48_2
       try clear hfz50_0 hfz50_1 hfz50_2
       try clear hfz51_0 hfz51_1 hfz51_2
       try clear hfz57_0 hfz57_1 hfz57_2
       try clear hfz59_0 hfz59_1 hfz59_2
       try clear hfz60_0 hfz60_1 hfz60_2
       try clear hfz64_0 hfz64_1 hfz64_2
       try clear hfz66_0 hfz66_1 hfz66_2
       try clear hfz8_0 hfz8_1 hfz8_2
       obtain ⟨x4_1, rfl, HA, HK1, BK301, BK302, HB⟩ := hrel
       cases gk with
       | zero => exact absurd HA.out (by simp [r1_Next.l0])
       | succ k1 =>
        have H := HA.out
        clear HA
        simp only [r1_Next.l0] at H
        by_cases c67 : x4_1 > 0
        rotate_left
        ·rw [if_neg c67] at H
         have c67b0 : decide (0 < x4_1) = false := decide_eq_false c67
         clear c67
         by_cases c92 : x4_1 = 0
         rotate_left
         ·rw [if_neg c92] at H
          have c92b0 : (x4_1 == 0) = false := beq_eq_false_iff_ne.mpr c92
          have c92b1 : (x4_1 != 0) = true := bne_iff_ne.mpr c92
          obtain ⟨ji95, hji95⟩ : ∃ j_ : Int, (wrap64 (x4_1 - 1)) = j_ := ⟨_, rfl⟩
          replace H : (if 0 ≤ (ji95) then (if (ji95) ≤ (a0_2.size : Int) then (if (ji95) < (a0_2.size : Int) then ((some (([((bt a0_2 (ji95)) + 1) % 256] : List Int) : List Int)).bind fun y307 => (if (a0_2.extract 0 ((ji95) : Int).toNat).size + (strOfNums y307).size ≤ 9223372036854775807 then (some (5, 0, (a0_2.extract 0 ((ji95) : Int).toNat) ++ (strOfNums y307), true)) else (none))) else (none)) else (none)) else (none)) = some (r1, r2, r3, r4) := by first | (rw [hji95] at H; exact H) | (simp only [hji95] at H ⊢; exact H)
          have hji95w : (IntKind.i64.wrap (x4_1 - 1)) = ji95 := (i64_w _).trans hji95
          by_cases c96 : 0 ≤ (ji95)
          rotate_left
          ·rw [if_neg c96] at H
           exact absurd H (by simp)
          rw [if_pos c96] at H
          have c96b0 := eq_true c96
          have c96b1 : decide (0 ≤ (ji95)) = true := decide_eq_true c96
          clear c96
          by_cases c97 : (ji95) ≤ (a0_2.size : Int)
          rotate_left
          ·rw [if_neg c97] at H
           exact absurd H (by simp)
          rw [if_pos c97] at H
          have c97b0 := eq_true c97
          have c97b1 : decide ((ji95) ≤ (a0_2.size : Int)) = true := decide_eq_true c97
          clear c97
          by_cases c98 : (ji95) < (a0_2.size : Int)
          rotate_left
          ·rw [if_neg c98] at H
           exact absurd H (by simp)
          rw [if_pos c98] at H
          have c98b0 : decide ((ji95) < (a0_2.size : Int)) = true := decide_eq_true c98
          clear c98
          obtain ⟨y307, hy307⟩ : ∃ y_ : List Int, y_ = (([((bt a0_2 (ji95)) + 1) % 256] : List Int)) := ⟨_, rfl⟩
          replace H : (if (a0_2.extract 0 ((ji95) : Int).toNat).size + (strOfNums y307).size ≤ 9223372036854775807 then (some (5, 0, (a0_2.extract 0 ((ji95) : Int).toNat) ++ (strOfNums y307), true)) else (none)) = some (r1, r2, r3, r4) := by first | (rw [hy307]; with_reducible exact H) | (have H2_ := (Option.bind_some _ _).symm.trans H; rw [hy307]; with_reducible exact H2_) | (have H2_ := (Option.bind_some _ _).symm.trans H; with_reducible exact H2_) | with_reducible exact H | (rw [hy307]; exact H) | exact H
          have Ny307 := Aside0.mk hy307
          clear hy307
          by_cases c100 : (a0_2.extract 0 ((ji95) : Int).toNat).size + (strOfNums y307).size ≤ 9223372036854775807
          rotate_left
          ·rw [if_neg c100] at H
           exact absurd H (by simp)
          rw [if_pos c100] at H
          have c100b0 := eq_true c100
          have c100b1 : decide ((a0_2.extract 0 ((ji95) : Int).toNat).size + (strOfNums y307).size ≤ 9223372036854775807) = true := decide_eq_true c100
          try have c100b2 : (9223372036854775807 < (a0_2.extract 0 ((ji95) : Int).toNat).size + (strOfNums y307).size) = False := eq_false (Nat.not_lt.2 c100)
          have c100b3 : (9223372036854775807 < ji95.toNat + (strOfNums y307).size) = False := eq_false (Nat.not_lt.2 (by have h_ := c100; rw [ByteArray.size_extract] at h_; have h1_ : ji95 ≤ (a0_2.size : Int) := of_decide_eq_true (by assumption); omega))
          simp only [Option.some.injEq, Prod.mk.injEq] at H
          obtain ⟨rfl, rfl, rfl, rfl⟩ := H
          try go_wp2
          have n0_ := aK (blk_drew BK301.out)
          have n1_ := aK (blk_drew BK302.out)
          have n2_ := aK (below_drew1 HB.out)
          clear BK301
          clear BK302
          clear HB
          have BK301 := n0_
          have BK302 := n1_
          have HB := n2_
          clear n0_ n1_ n2_
          have p99 : 0 ≤ ((ji95) : Int) := of_decide_eq_true (aA)
          have q99 : (ji95) < (a0_2.size : Int) := of_decide_eq_true (aA)
          have hx99 := bt_at a0_2 (ji95)
          replace p99 := eq_true p99
          replace q99 := eq_true q99
          refine start_ (n := 17) (S := fun w' => w'.cell? ⟨gb301, 0, none⟩ = some (.int .i64 a0_0) ∧ w'.cell? ⟨gb301, 1, none⟩ = some (.int .i64 a0_1) ∧ w'.cell? ⟨gb301, 2, none⟩ = some (.string a0_2)) (ds := []) #[false, false, false, false, false, false, false, false, false, false, false, false, false, false, false, false, false] (by kernel_rfl) rfl rfl ⟨(blk_cell BK301.out 0).trans rfl, (blk_cell BK301.out 1).trans rfl, (blk_cell BK301.out 2).trans rfl⟩ (fun hHeld => ?_); refine with_tabW r1_Next.tab23 r1_Next.bits23 (fun HT_ HW_ => ?_)
          generalize wr.drew = w101 at BK301 BK302 HB hHeld ⊢
          refine pY (i := 0) (N := some 60) (tf 1 16) rfl rfl HT_.out ?_
          refine pY (i := 2) (N := some 62) #[true, false, true, false, false, false, false, false, false, false, false, false, false, false, false, false, false] rfl rfl HT_.out ?_
          refine pY (i := 3) (N := some 63) #[true, false, true, true, false, false, false, false, false, false, false, false, false, false, false, false, false] rfl rfl HT_.out ?_
          refine pY (i := 5) (N := some 65) #[true, false, true, true, false, true, false, false, false, false, false, false, false, false, false, false, false] rfl rfl HT_.out ?_
          refine pY (i := 7) (N := some 67) #[true, false, true, true, false, true, false, true, false, false, false, false, false, false, false, false, false] rfl rfl HT_.out ?_
          refine pY (i := 8) (N := some 68) #[true, false, true, true, false, true, false, true, true, false, false, false, false, false, false, false, false] rfl rfl HT_.out ?_
          refine take_ (i := 1) (N := some 61) (v := ?_) (a' := ?_) #[true, true, true, true, false, true, false, true, true, false, false, false, false, false, false, false, false] rfl rfl (take_ofW HT_.out HW_.out (by kernel_rfl)) (fun _ _ _ h => h) (Or.inl ⟨by rfl, ?_⟩) hHeld ?_ ?_
          rotate_left
          ·rintro w' ⟨s0, s1, s2⟩
           go_simp
           with_reducible rfl
          rotate_left
          ·exact aP
          refine pY (i := 4) (N := some 64) #[true, true, true, true, true, true, false, true, true, false, false, false, false, false, false, false, false] rfl rfl HT_.out ?_
          refine take_ (i := 6) (N := some 66) (v := ?_) (a' := ?_) (tf 9 8) rfl rfl (take_ofW HT_.out HW_.out (by kernel_rfl)) (fun _ _ _ h => h) (Or.inl ⟨by rfl, ?_⟩) hHeld ?_ ?_
          rotate_left
          ·rintro w' ⟨s0, s1, s2⟩
           go_simp
           with_reducible rfl
          rotate_left
          ·exact aP
          refine take_ (i := 9) (N := some 69) (v := ?_) (a' := ?_) (tf 10 7) rfl rfl (take_ofW HT_.out HW_.out (by kernel_rfl)) (fun _ _ _ h => h) (Or.inl ⟨by rfl, ?_⟩) hHeld ?_ ?_
          rotate_left
          ·rintro w' ⟨s0, s1, s2⟩
           go_simp
           with_reducible rfl
          rotate_left
          ·exact aP
          refine pY (i := 10) (N := some 70) (tf 11 6) rfl rfl HT_.out ?_
          refine one_ (i := 11) (N := some 71) (tf 12 5) rfl rfl (one_of HT_.out (by kernel_rfl)) (by decide) (fun K hK => ?_)
          refine Kd.R_lit_step (Kd.int .u8) _ 5 ?hg (N := 71) ?hd (xs := ([((bt a0_2 (ji95)) + 1) % 256] : List Int)) (inner := [.int .u8 (((bt a0_2 (ji95)) + 1) % 256)]) (ok := fun _ => True) (okp := fun _ => True) ?hr ?hp (fun _ hk => hk) trivial (Below.refl _ _) (Nat.le_refl _) (by simp) ?_; (case hd => rfl); (case hg => rfl); (case hr => exact hR); (case hp => exact (Reps.one (show Kd.M (Kd.int .u8) _ _ _ (((bt a0_2 (ji95)) + 1) % 256) [.int .u8 (((bt a0_2 (ji95)) + 1) % 256)] from rfl) (Reps.none _ _)))
          intro v308 w102 ho103 hb hg_ hnew_
          clear hg_ hnew_
          (first | rw [← Ny307.out] at ho103 | (simp only [Int.reduceToNat] at ho103; rw [← Ny307.out] at ho103))
          have n0_ := aK (Kd.R_lower ho103 (below_size (bT GE301.out GE302.out)))
          have n1_ := aK (blk_below (bX BK301.out) hb)
          have n2_ := aK (blk_below (bX BK302.out) hb)
          have n3_ := aK (below_step (bT GE301.out GE302.out) hb)
          clear BK301
          clear BK302
          clear HB
          have HO309 := n0_
          have BK301 := n1_
          have BK302 := n2_
          have HB := n3_
          clear n0_ n1_ n2_ n3_
          clear hb ho103
          refine hK.out _ _ ⟨(blk_cell BK301.out 0).trans rfl, (blk_cell BK301.out 1).trans rfl, (blk_cell BK301.out 2).trans rfl⟩ (fun hHeld => ?_)
          clear hK K
          refine norm_ (a' := ?_) ?_ ?_
          rotate_left
          ·show Act.put _ (some 71) _ = _
           simp only [Act.put, List.setIfInBounds_toArray, List.set_cons_zero, List.set_cons_succ, i64_w, i32_w]
           rfl
          refine one_ (i := 12) (N := some 72) (tf 13 4) rfl rfl (one_of HT_.out (by kernel_rfl)) (by decide) (fun K hK => ?_)
          have hcv104 := own_string (P := Try.prog) Try.underlying22 Try.underlying5 Try.underlying9 (Kd.own_of_R HO309.out)
          refine value_ (w1 := ?_) (v := ?_) (by rfl) rfl ?_ ?_
          rotate_left 2
          ·go_simp
           constructor
           ·rfl
           ·rfl
          clear hcv104
          refine hK.out _ _ ⟨(blk_cell BK301.out 0).trans rfl, (blk_cell BK301.out 1).trans rfl, (blk_cell BK301.out 2).trans rfl⟩ (fun hHeld => ?_)
          clear hK K
          refine norm_ (a' := ?_) ?_ ?_
          rotate_left
          ·show Act.put _ (some 72) _ = _
           simp only [Act.put, List.setIfInBounds_toArray, List.set_cons_zero, List.set_cons_succ, i64_w, i32_w]
           rfl
          refine pY (i := 13) (N := some 73) (tf 14 3) rfl rfl HT_.out ?_
          refine pY (i := 14) (N := some 74) (tf 15 2) rfl rfl HT_.out ?_
          refine one_ (i := 15) (N := none) (tf 16 1) rfl rfl (one_of HT_.out (by kernel_rfl)) (by decide) (fun K hK => ?_)
          have hs105 : w102.cell? ⟨gb302, 0, none⟩ = some (.int .i64 0) := (blk_cell BK302.out 0).trans rfl
          have hfs105 := blk_frozen BK302.out 0
          have hns105_0 := NB301_302.out
          have hms105_0 := NB302_301.out
          have hs106 : w102.cell? ⟨gb302, 1, none⟩ = some (.int .i64 0) := (blk_cell BK302.out 1).trans rfl
          have hfs106 := blk_frozen BK302.out 1
          have hns106_0 := NB301_302.out
          have hms106_0 := NB302_301.out
          have hs107 : w102.cell? ⟨gb302, 2, none⟩ = some (.string (⟨#[]⟩ : ByteArray)) := (blk_cell BK302.out 2).trans rfl
          have hfs107 := blk_frozen BK302.out 2
          have hns107_0 := NB301_302.out
          have hms107_0 := NB302_301.out
          refine skip_ (w1 := ?_) (by rfl) rfl ?_ ?_
          rotate_left
          ·go_simp
           rfl
          refine hK.out _ _ ⟨((cell_far (p := ⟨gb302, _, none⟩) NB301_302.out _).trans (((cell_far (p := ⟨gb302, _, none⟩) NB301_302.out _).trans (((cell_far (p := ⟨gb302, _, none⟩) NB301_302.out _).trans (hHeld.1)))))), ((cell_far (p := ⟨gb302, _, none⟩) NB301_302.out _).trans (((cell_far (p := ⟨gb302, _, none⟩) NB301_302.out _).trans (((cell_far (p := ⟨gb302, _, none⟩) NB301_302.out _).trans (hHeld.2.1)))))), ((cell_far (p := ⟨gb302, _, none⟩) NB301_302.out _).trans (((cell_far (p := ⟨gb302, _, none⟩) NB301_302.out _).trans (((cell_far (p := ⟨gb302, _, none⟩) NB301_302.out _).trans (hHeld.2.2))))))⟩ (fun hHeld => ?_)
          clear hK K
          refine pY (i := 16) (N := some 3) (tf 17 0) rfl rfl HT_.out ?_
          refine done_ (done_of HT_.out (by kernel_rfl)) ?_
          try go_wp2
          refine bodyPost_ret (results_ct rfl _ _ gb302 24 #[.int .i64 5, .int .i64 0, .string ((a0_2.extract 0 ((ji95) : Int).toNat) ++ (strOfNums y307))] (0, 0) _ rfl (put3 BK302.out) Try.underlying24 rfl (by kernel_rfl)) rfl ?_
          exact ⟨by first | rfl | (simp [errW_none, errW_some] <;> rfl) | (simp only [← hji95]; first | rfl | (simp [errW_none, errW_some] <;> rfl)) | (simp [*, errW_none, errW_some] <;> rfl), bT GE301.out GE302.out⟩
         rw [if_pos c92] at H
         have c92b0 : (x4_1 == 0) = true := beq_iff_eq.mpr c92
         have c92b1 : (x4_1 != 0) = false := bne_eq_false_iff_eq.mpr c92
         clear c92
         simp only [Option.some.injEq, Prod.mk.injEq] at H
         obtain ⟨rfl, rfl, rfl, rfl⟩ := H
         have hnb93 := NB302_301.out
         have hnc93 := NB301_302.out
         obtain ⟨hcz94_0, hcz94_1, hcz94_2⟩ := z3 BK302.out (.int .i64 0) (.int .i64 0) (.string (⟨#[]⟩ : ByteArray))
         obtain ⟨hfz94_0, hfz94_1, hfz94_2⟩ := f3 BK302.out
         go_wp2
         refine bodyPost_ret (results_ct rfl _ _ gb302 24 #[.int .i64 0, .int .i64 0, .string (⟨#[]⟩ : ByteArray)] (0, 0) _ rfl (put3 BK302.out) Try.underlying24 rfl (by kernel_rfl)) rfl ?_
         exact ⟨eW, bT GE301.out GE302.out⟩
        rw [if_pos c67] at H
        have c67b0 : decide (0 < x4_1) = true := decide_eq_true c67
        clear c67
        obtain ⟨ji68, hji68⟩ : ∃ j_ : Int, (wrap64 (x4_1 - 1)) = j_ := ⟨_, rfl⟩
        replace H : (if 0 ≤ (ji68) then (if (ji68) < (a0_2.size : Int) then (if (bt a0_2 (ji68)) = 255 then (r1_Next.l0 k1 ji68 a0_0 a0_1 a0_2) else (if x4_1 = 0 then (some (0, 0, (⟨#[]⟩ : ByteArray), false)) else (if (ji68) ≤ (a0_2.size : Int) then ((some (([((bt a0_2 (ji68)) + 1) % 256] : List Int) : List Int)).bind fun y304 => (if (a0_2.extract 0 ((ji68) : Int).toNat).size + (strOfNums y304).size ≤ 9223372036854775807 then (some (5, 0, (a0_2.extract 0 ((ji68) : Int).toNat) ++ (strOfNums y304), true)) else (none))) else (none)))) else (none)) else (none)) = some (r1, r2, r3, r4) := by first | (rw [hji68] at H; exact H) | (simp only [hji68] at H ⊢; exact H)
        have hji68w : (IntKind.i64.wrap (x4_1 - 1)) = ji68 := (i64_w _).trans hji68
        by_cases c69 : 0 ≤ (ji68)
        rotate_left
        ·rw [if_neg c69] at H
         exact absurd H (by simp)
        rw [if_pos c69] at H
        have c69b0 : decide (0 ≤ (ji68)) = true := decide_eq_true c69
        clear c69
        by_cases c70 : (ji68) < (a0_2.size : Int)
        rotate_left
        ·rw [if_neg c70] at H
         exact absurd H (by simp)
        rw [if_pos c70] at H
        have c70b0 : decide ((ji68) < (a0_2.size : Int)) = true := decide_eq_true c70
        clear c70
        by_cases c72 : (bt a0_2 (ji68)) = 255
        rotate_left
        ·rw [if_neg c72] at H
         have c72b0 : ((bt a0_2 (ji68)) == 255) = false := beq_eq_false_iff_ne.mpr c72
         have c72b1 : ((bt a0_2 (ji68)) != 255) = true := bne_iff_ne.mpr c72
         by_cases c75 : x4_1 = 0
         rotate_left
         ·rw [if_neg c75] at H
          have c75b0 : (x4_1 == 0) = false := beq_eq_false_iff_ne.mpr c75
          have c75b1 : (x4_1 != 0) = true := bne_iff_ne.mpr c75
          have c79b0 := eq_true (of_decide_eq_true (aA) : 0 ≤ (ji68))
          by_cases c80 : (ji68) ≤ (a0_2.size : Int)
          rotate_left
          ·rw [if_neg c80] at H
           exact absurd H (by simp)
          rw [if_pos c80] at H
          have c80b0 := eq_true c80
          have c80b1 : decide ((ji68) ≤ (a0_2.size : Int)) = true := decide_eq_true c80
          clear c80
          obtain ⟨y304, hy304⟩ : ∃ y_ : List Int, y_ = (([((bt a0_2 (ji68)) + 1) % 256] : List Int)) := ⟨_, rfl⟩
          replace H : (if (a0_2.extract 0 ((ji68) : Int).toNat).size + (strOfNums y304).size ≤ 9223372036854775807 then (some (5, 0, (a0_2.extract 0 ((ji68) : Int).toNat) ++ (strOfNums y304), true)) else (none)) = some (r1, r2, r3, r4) := by first | (rw [hy304]; with_reducible exact H) | (have H2_ := (Option.bind_some _ _).symm.trans H; rw [hy304]; with_reducible exact H2_) | (have H2_ := (Option.bind_some _ _).symm.trans H; with_reducible exact H2_) | with_reducible exact H | (rw [hy304]; exact H) | exact H
          have Ny304 := Aside0.mk hy304
          clear hy304
          by_cases c82 : (a0_2.extract 0 ((ji68) : Int).toNat).size + (strOfNums y304).size ≤ 9223372036854775807
          rotate_left
          ·rw [if_neg c82] at H
           exact absurd H (by simp)
          rw [if_pos c82] at H
          have c82b0 := eq_true c82
          have c82b1 : decide ((a0_2.extract 0 ((ji68) : Int).toNat).size + (strOfNums y304).size ≤ 9223372036854775807) = true := decide_eq_true c82
          try have c82b2 : (9223372036854775807 < (a0_2.extract 0 ((ji68) : Int).toNat).size + (strOfNums y304).size) = False := eq_false (Nat.not_lt.2 c82)
          have c82b3 : (9223372036854775807 < ji68.toNat + (strOfNums y304).size) = False := eq_false (Nat.not_lt.2 (by have h_ := c82; rw [ByteArray.size_extract] at h_; have h1_ : ji68 ≤ (a0_2.size : Int) := of_decide_eq_true (by assumption); omega))
          simp only [Option.some.injEq, Prod.mk.injEq] at H
          obtain ⟨rfl, rfl, rfl, rfl⟩ := H
          have hnb83 := NB301_302.out
          have hnc83 := NB302_301.out
          obtain ⟨hcz84_0, hcz84_1, hcz84_2⟩ := z3 BK301.out (.int .i64 a0_0) (.int .i64 a0_1) (.string a0_2)
          obtain ⟨hfz84_0, hfz84_1, hfz84_2⟩ := f3 BK301.out
          have p71 : 0 ≤ ((ji68) : Int) := of_decide_eq_true (aA)
          have q71 : (ji68) < (a0_2.size : Int) := of_decide_eq_true (aA)
          have hx71 := bt_at a0_2 (ji68)
          replace p71 := eq_true p71
          replace q71 := eq_true q71
          try go_wp2
          have n0_ := aK (blk_drew BK301.out)
          have n1_ := aK (blk_drew BK302.out)
          have n2_ := aK (below_drew1 HB.out)
          clear BK301
          clear BK302
          clear HB
          have BK301 := n0_
          have BK302 := n1_
          have HB := n2_
          clear n0_ n1_ n2_
          have p81 : 0 ≤ ((ji68) : Int) := of_decide_eq_true (aA)
          have q81 : (ji68) < (a0_2.size : Int) := of_decide_eq_true (aA)
          have hx81 := bt_at a0_2 (ji68)
          replace p81 := eq_true p81
          replace q81 := eq_true q81
          refine start_ (n := 17) (S := fun w' => w'.cell? ⟨gb301, 0, none⟩ = some (.int .i64 a0_0) ∧ w'.cell? ⟨gb301, 1, none⟩ = some (.int .i64 a0_1) ∧ w'.cell? ⟨gb301, 2, none⟩ = some (.string a0_2)) (ds := []) #[false, false, false, false, false, false, false, false, false, false, false, false, false, false, false, false, false] (by kernel_rfl) rfl rfl ⟨(blk_cell BK301.out 0).trans rfl, (blk_cell BK301.out 1).trans rfl, (blk_cell BK301.out 2).trans rfl⟩ (fun hHeld => ?_); refine with_tabW r1_Next.tab23 r1_Next.bits23 (fun HT_ HW_ => ?_)
          generalize wr.drew = w85 at BK301 BK302 HB hHeld ⊢
          refine pY (i := 0) (N := some 60) (tf 1 16) rfl rfl HT_.out ?_
          refine pY (i := 2) (N := some 62) #[true, false, true, false, false, false, false, false, false, false, false, false, false, false, false, false, false] rfl rfl HT_.out ?_
          refine pY (i := 3) (N := some 63) #[true, false, true, true, false, false, false, false, false, false, false, false, false, false, false, false, false] rfl rfl HT_.out ?_
          refine pY (i := 5) (N := some 65) #[true, false, true, true, false, true, false, false, false, false, false, false, false, false, false, false, false] rfl rfl HT_.out ?_
          refine pY (i := 7) (N := some 67) #[true, false, true, true, false, true, false, true, false, false, false, false, false, false, false, false, false] rfl rfl HT_.out ?_
          refine pY (i := 8) (N := some 68) #[true, false, true, true, false, true, false, true, true, false, false, false, false, false, false, false, false] rfl rfl HT_.out ?_
          refine take_ (i := 1) (N := some 61) (v := ?_) (a' := ?_) #[true, true, true, true, false, true, false, true, true, false, false, false, false, false, false, false, false] rfl rfl (take_ofW HT_.out HW_.out (by kernel_rfl)) (fun _ _ _ h => h) (Or.inl ⟨by rfl, ?_⟩) hHeld ?_ ?_
          rotate_left
          ·rintro w' ⟨s0, s1, s2⟩
           go_simp
           with_reducible rfl
          rotate_left
          ·exact aP
          refine pY (i := 4) (N := some 64) #[true, true, true, true, true, true, false, true, true, false, false, false, false, false, false, false, false] rfl rfl HT_.out ?_
          refine take_ (i := 6) (N := some 66) (v := ?_) (a' := ?_) (tf 9 8) rfl rfl (take_ofW HT_.out HW_.out (by kernel_rfl)) (fun _ _ _ h => h) (Or.inl ⟨by rfl, ?_⟩) hHeld ?_ ?_
          rotate_left
          ·rintro w' ⟨s0, s1, s2⟩
           go_simp
           with_reducible rfl
          rotate_left
          ·exact aP
          refine take_ (i := 9) (N := some 69) (v := ?_) (a' := ?_) (tf 10 7) rfl rfl (take_ofW HT_.out HW_.out (by kernel_rfl)) (fun _ _ _ h => h) (Or.inl ⟨by rfl, ?_⟩) hHeld ?_ ?_
          rotate_left
          ·rintro w' ⟨s0, s1, s2⟩
           go_simp
           with_reducible rfl
          rotate_left
          ·exact aP
          refine pY (i := 10) (N := some 70) (tf 11 6) rfl rfl HT_.out ?_
          refine one_ (i := 11) (N := some 71) (tf 12 5) rfl rfl (one_of HT_.out (by kernel_rfl)) (by decide) (fun K hK => ?_)
          refine Kd.R_lit_step (Kd.int .u8) _ 5 ?hg (N := 71) ?hd (xs := ([((bt a0_2 (ji68)) + 1) % 256] : List Int)) (inner := [.int .u8 (((bt a0_2 (ji68)) + 1) % 256)]) (ok := fun _ => True) (okp := fun _ => True) ?hr ?hp (fun _ hk => hk) trivial (Below.refl _ _) (Nat.le_refl _) (by simp) ?_; (case hd => rfl); (case hg => rfl); (case hr => exact hR); (case hp => exact (Reps.one (show Kd.M (Kd.int .u8) _ _ _ (((bt a0_2 (ji68)) + 1) % 256) [.int .u8 (((bt a0_2 (ji68)) + 1) % 256)] from rfl) (Reps.none _ _)))
          intro v305 w86 ho87 hb hg_ hnew_
          clear hg_ hnew_
          (first | rw [← Ny304.out] at ho87 | (simp only [Int.reduceToNat] at ho87; rw [← Ny304.out] at ho87))
          have n0_ := aK (Kd.R_lower ho87 (below_size (bT GE301.out GE302.out)))
          have n1_ := aK (blk_below (bX BK301.out) hb)
          have n2_ := aK (blk_below (bX BK302.out) hb)
          have n3_ := aK (below_step (bT GE301.out GE302.out) hb)
          clear BK301
          clear BK302
          clear HB
          have HO306 := n0_
          have BK301 := n1_
          have BK302 := n2_
          have HB := n3_
          clear n0_ n1_ n2_ n3_
          clear hb ho87
          refine hK.out _ _ ⟨(blk_cell BK301.out 0).trans rfl, (blk_cell BK301.out 1).trans rfl, (blk_cell BK301.out 2).trans rfl⟩ (fun hHeld => ?_)
          clear hK K
          refine norm_ (a' := ?_) ?_ ?_
          rotate_left
          ·show Act.put _ (some 71) _ = _
           simp only [Act.put, List.setIfInBounds_toArray, List.set_cons_zero, List.set_cons_succ, i64_w, i32_w]
           rfl
          refine one_ (i := 12) (N := some 72) (tf 13 4) rfl rfl (one_of HT_.out (by kernel_rfl)) (by decide) (fun K hK => ?_)
          have hcv88 := own_string (P := Try.prog) Try.underlying22 Try.underlying5 Try.underlying9 (Kd.own_of_R HO306.out)
          refine value_ (w1 := ?_) (v := ?_) (by rfl) rfl ?_ ?_
          rotate_left 2
          ·go_simp
           constructor
           ·rfl
           ·rfl
          clear hcv88
          refine hK.out _ _ ⟨(blk_cell BK301.out 0).trans rfl, (blk_cell BK301.out 1).trans rfl, (blk_cell BK301.out 2).trans rfl⟩ (fun hHeld => ?_)
          clear hK K
          refine norm_ (a' := ?_) ?_ ?_
          rotate_left
          ·show Act.put _ (some 72) _ = _
           simp only [Act.put, List.setIfInBounds_toArray, List.set_cons_zero, List.set_cons_succ, i64_w, i32_w]
           rfl
          refine pY (i := 13) (N := some 73) (tf 14 3) rfl rfl HT_.out ?_
          refine pY (i := 14) (N := some 74) (tf 15 2) rfl rfl HT_.out ?_
          refine one_ (i := 15) (N := none) (tf 16 1) rfl rfl (one_of HT_.out (by kernel_rfl)) (by decide) (fun K hK => ?_)
          have hs89 : w86.cell? ⟨gb302, 0, none⟩ = some (.int .i64 0) := (blk_cell BK302.out 0).trans rfl
          have hfs89 := blk_frozen BK302.out 0
          have hns89_0 := NB301_302.out
          have hms89_0 := NB302_301.out
          have hs90 : w86.cell? ⟨gb302, 1, none⟩ = some (.int .i64 0) := (blk_cell BK302.out 1).trans rfl
          have hfs90 := blk_frozen BK302.out 1
          have hns90_0 := NB301_302.out
          have hms90_0 := NB302_301.out
          have hs91 : w86.cell? ⟨gb302, 2, none⟩ = some (.string (⟨#[]⟩ : ByteArray)) := (blk_cell BK302.out 2).trans rfl
          have hfs91 := blk_frozen BK302.out 2
          have hns91_0 := NB301_302.out
          have hms91_0 := NB302_301.out
          refine skip_ (w1 := ?_) (by rfl) rfl ?_ ?_
          rotate_left
          ·go_simp
           rfl
          refine hK.out _ _ ⟨((cell_far (p := ⟨gb302, _, none⟩) NB301_302.out _).trans (((cell_far (p := ⟨gb302, _, none⟩) NB301_302.out _).trans (((cell_far (p := ⟨gb302, _, none⟩) NB301_302.out _).trans (hHeld.1)))))), ((cell_far (p := ⟨gb302, _, none⟩) NB301_302.out _).trans (((cell_far (p := ⟨gb302, _, none⟩) NB301_302.out _).trans (((cell_far (p := ⟨gb302, _, none⟩) NB301_302.out _).trans (hHeld.2.1)))))), ((cell_far (p := ⟨gb302, _, none⟩) NB301_302.out _).trans (((cell_far (p := ⟨gb302, _, none⟩) NB301_302.out _).trans (((cell_far (p := ⟨gb302, _, none⟩) NB301_302.out _).trans (hHeld.2.2))))))⟩ (fun hHeld => ?_)
          clear hK K
          refine pY (i := 16) (N := some 3) (tf 17 0) rfl rfl HT_.out ?_
          refine done_ (done_of HT_.out (by kernel_rfl)) ?_
          try go_wp2
          refine bodyPost_ret (results_ct rfl _ _ gb302 24 #[.int .i64 5, .int .i64 0, .string ((a0_2.extract 0 ((ji68) : Int).toNat) ++ (strOfNums y304))] (0, 0) _ rfl (put3 BK302.out) Try.underlying24 rfl (by kernel_rfl)) rfl ?_
          exact ⟨by first | rfl | (simp [errW_none, errW_some] <;> rfl) | (simp only [← hji68]; first | rfl | (simp [errW_none, errW_some] <;> rfl)) | (simp [*, errW_none, errW_some] <;> rfl), bT GE301.out GE302.out⟩
         rw [if_pos c75] at H
         have c75b0 : (x4_1 == 0) = true := beq_iff_eq.mpr c75
         have c75b1 : (x4_1 != 0) = false := bne_eq_false_iff_eq.mpr c75
         clear c75
         simp only [Option.some.injEq, Prod.mk.injEq] at H
         obtain ⟨rfl, rfl, rfl, rfl⟩ := H
         have hnb76 := NB301_302.out
         have hnc76 := NB302_301.out
         obtain ⟨hcz77_0, hcz77_1, hcz77_2⟩ := z3 BK301.out (.int .i64 a0_0) (.int .i64 a0_1) (.string a0_2)
         obtain ⟨hfz77_0, hfz77_1, hfz77_2⟩ := f3 BK301.out
         have p71 : 0 ≤ ((ji68) : Int) := of_decide_eq_true (aA)
         have q71 : (ji68) < (a0_2.size : Int) := of_decide_eq_true (aA)
         have hx71 := bt_at a0_2 (ji68)
         replace p71 := eq_true p71
         replace q71 := eq_true q71
         obtain ⟨hcz78_0, hcz78_1, hcz78_2⟩ := z3 BK302.out (.int .i64 0) (.int .i64 0) (.string (⟨#[]⟩ : ByteArray))
         obtain ⟨hfz78_0, hfz78_1, hfz78_2⟩ := f3 BK302.out
         go_wp2
         refine bodyPost_ret (results_ct rfl _ _ gb302 24 #[.int .i64 0, .int .i64 0, .string (⟨#[]⟩ : ByteArray)] (0, 0) _ rfl (put3 BK302.out) Try.underlying24 rfl (by kernel_rfl)) rfl ?_
         exact ⟨by first | rfl | (simp [errW_none, errW_some] <;> rfl) | (simp only [← hji68]; first | rfl | (simp [errW_none, errW_some] <;> rfl)) | (simp [*, errW_none, errW_some] <;> rfl), bT GE301.out GE302.out⟩
        rw [if_pos c72] at H
        have c72b0 : ((bt a0_2 (ji68)) == 255) = true := beq_iff_eq.mpr c72
        have c72b1 : ((bt a0_2 (ji68)) != 255) = false := bne_eq_false_iff_eq.mpr c72
        clear c72
        have H' := Aside0.mk H
        clear H
        have hnb73 := NB301_302.out
        have hnc73 := NB302_301.out
        obtain ⟨hcz74_0, hcz74_1, hcz74_2⟩ := z3 BK301.out (.int .i64 a0_0) (.int .i64 a0_1) (.string a0_2)
        obtain ⟨hfz74_0, hfz74_1, hfz74_2⟩ := f3 BK301.out
        have p71 : 0 ≤ ((ji68) : Int) := of_decide_eq_true (aA)
        have q71 : (ji68) < (a0_2.size : Int) := of_decide_eq_true (aA)
        have hx71 := bt_at a0_2 (ji68)
        replace p71 := eq_true p71
        replace q71 := eq_true q71
        go_wp2
        go_roundg k1
        case measure => have := HK1.out; omega
        case rel => exact ⟨(ji68), (by first | rfl | (simp; done) | (simp only [← hji68] <;> (first | rfl | simp)) | (simp [*]; done)), H', ⟨by have := HK1.out; omega⟩, ⟨bX BK301.out⟩, ⟨bX BK302.out⟩, ⟨bT GE301.out GE302.out⟩⟩
     rw [if_pos c52] at H
     have c52b0 : decide ((a0_2.size : Int) < 64) = true := decide_eq_true c52
     have c52b1 : decide (a0_2.size < 64) = true := decide_eq_true (by omega)
     clear c52
     by_cases c53 : a0_2.size + 1 ≤ 9223372036854775807
     rotate_left
     ·rw [if_neg c53] at H
      exact absurd H (by simp)
     rw [if_pos c53] at H
     have c53b0 := eq_true c53
     have c53b1 : decide (a0_2.size + 1 ≤ 9223372036854775807) = true := decide_eq_true c53
     try have c53b2 : (9223372036854775807 < a0_2.size + 1) = False := eq_false (Nat.not_lt.2 c53)
     simp only [Option.some.injEq, Prod.mk.injEq] at H
     obtain ⟨rfl, rfl, rfl, rfl⟩ := H
     go_enter Try.func28, Try.ntmps28
     go_wp2_with (first | ((with_reducible refine gate_dst (N := 1) rfl ?_); refine box_event ?hg (N := 1) ?hd (cs := #[.int .i64 a0_0, .int .i64 a0_1, .string a0_2]) (t := 24) ?hr ?_; (case hd => rfl); (case hg => rfl); (case hr => exact hR); intro gb301 hg w54 hbox hb; have n0_ := aK (below_step bO hb); have n1_ := aK (hbox); have n2_ := aK ((by rw [hg]; exact (below_size bO) : w.heap.size ≤ gb301)); have n3_ := aK ((by rw [hg]; exact (below_size bO) : w.heap.size ≤ gb301)); clear HB; have HB := n0_; have BK301 := n1_; have GW301 := n2_; have GE301 := n3_; clear n0_ n1_ n2_ n3_ hb hbox hg) | ((with_reducible refine gate_dst (N := 2) rfl ?_); refine box_event ?hg (N := 2) ?hd (cs := #[.int .i64 0, .int .i64 0, .string (⟨#[]⟩ : ByteArray)]) (t := 24) ?hr ?_; (case hd => rfl); (case hg => rfl); (case hr => exact hR); intro gb302 hg w55 hbox hb; have n0_ := aK (blk_below (bX BK301.out) hb); have n1_ := aK (below_step (bS GE301.out) hb); have n2_ := aK (hbox); have n3_ := aK ((by rw [hg]; exact (below_size (bS GE301.out)) : w.heap.size ≤ gb302)); have n4_ := aK ((by rw [hg]; exact (below_size (bS GE301.out)) : w.heap.size ≤ gb302)); have n5_ := aK ((by rw [hg]; exact Nat.ne_of_lt (blk_lt (bX BK301.out)) : gb301 ≠ gb302)); have n6_ := aK ((by rw [hg]; exact Nat.ne_of_gt (blk_lt (bX BK301.out)) : gb302 ≠ gb301)); clear BK301 HB; have BK301 := n0_; have HB := n1_; have BK302 := n2_; have GW302 := n3_; have GE302 := n4_; have NB301_302 := n5_; have NB302_301 := n6_; clear n0_ n1_ n2_ n3_ n4_ n5_ n6_ hb hbox hg; have hnb56 := NB301_302.out; have hnc56 := NB302_301.out; obtain ⟨hcz57_0, hcz57_1, hcz57_2⟩ := z3 BK301.out (.int .i64 a0_0) (.int .i64 a0_1) (.string a0_2); obtain ⟨hfz57_0, hfz57_1, hfz57_2⟩ := f3 BK301.out) | ((with_reducible refine gate_callee (f := 23) rfl ?_); refine gL (some 6) rfl Try.func23 #[.agg #[.int .i64 a0_0, .int .i64 a0_1, .string a0_2]] rfl ?_; (with_reducible refine (r1_Valid.calls k a0_0 a0_1 a0_2 true _ A2.out).mono ?_); rintro e w58 ⟨rfl, hb⟩; refine ⟨_, rfl, ?_⟩; have n0_ := aK (blk_below (bX BK301.out) hb); have n1_ := aK (blk_below (bX BK302.out) hb); have n2_ := aK (below_step (bT GE301.out GE302.out) hb); clear BK301 BK302 HB; have BK301 := n0_; have BK302 := n1_; have HB := n2_; clear n0_ n1_ n2_; (try clear hb); obtain ⟨hcz59_0, hcz59_1, hcz59_2⟩ := z3 BK301.out (.int .i64 a0_0) (.int .i64 a0_1) (.string a0_2); obtain ⟨hfz59_0, hfz59_1, hfz59_2⟩ := f3 BK301.out; obtain ⟨hcz60_0, hcz60_1, hcz60_2⟩ := z3 BK302.out (.int .i64 0) (.int .i64 0) (.string (⟨#[]⟩ : ByteArray)); obtain ⟨hfz60_0, hfz60_1, hfz60_2⟩ := f3 BK302.out))
     refine bodyPost_ret (results_ct rfl _ _ gb302 24 #[.int .i64 5, .int .i64 0, .string (a0_2 ++ (⟨#[0]⟩ : ByteArray))] (0, 0) _ rfl (put3 BK302.out) Try.underlying24 rfl (by kernel_rfl)) rfl ?_
     exact ⟨eW, bT GE301.out GE302.out⟩
    rw [if_pos c36] at H
    have c36b0 : (a0_0 == 4) = true := beq_iff_eq.mpr c36
    have c36b1 : (a0_0 != 4) = false := bne_eq_false_iff_eq.mpr c36
    clear c36
    by_cases c37 : a0_1 < 9223372036854775807
    rotate_left
    ·rw [if_neg c37] at H
     have c37b0 : decide (a0_1 < 9223372036854775807) = false := decide_eq_false c37
     clear c37
     simp only [Option.some.injEq, Prod.mk.injEq] at H
     obtain ⟨rfl, rfl, rfl, rfl⟩ := H
     go_enter Try.func28, Try.ntmps28
     go_wp2_with (first | ((with_reducible refine gate_dst (N := 1) rfl ?_); refine box_event ?hg (N := 1) ?hd (cs := #[.int .i64 a0_0, .int .i64 a0_1, .string a0_2]) (t := 24) ?hr ?_; (case hd => rfl); (case hg => rfl); (case hr => exact hR); intro gb301 hg w45 hbox hb; have n0_ := aK (below_step bO hb); have n1_ := aK (hbox); have n2_ := aK ((by rw [hg]; exact (below_size bO) : w.heap.size ≤ gb301)); have n3_ := aK ((by rw [hg]; exact (below_size bO) : w.heap.size ≤ gb301)); clear HB; have HB := n0_; have BK301 := n1_; have GW301 := n2_; have GE301 := n3_; clear n0_ n1_ n2_ n3_ hb hbox hg) | ((with_reducible refine gate_dst (N := 2) rfl ?_); refine box_event ?hg (N := 2) ?hd (cs := #[.int .i64 0, .int .i64 0, .string (⟨#[]⟩ : ByteArray)]) (t := 24) ?hr ?_; (case hd => rfl); (case hg => rfl); (case hr => exact hR); intro gb302 hg w46 hbox hb; have n0_ := aK (blk_below (bX BK301.out) hb); have n1_ := aK (below_step (bS GE301.out) hb); have n2_ := aK (hbox); have n3_ := aK ((by rw [hg]; exact (below_size (bS GE301.out)) : w.heap.size ≤ gb302)); have n4_ := aK ((by rw [hg]; exact (below_size (bS GE301.out)) : w.heap.size ≤ gb302)); have n5_ := aK ((by rw [hg]; exact Nat.ne_of_lt (blk_lt (bX BK301.out)) : gb301 ≠ gb302)); have n6_ := aK ((by rw [hg]; exact Nat.ne_of_gt (blk_lt (bX BK301.out)) : gb302 ≠ gb301)); clear BK301 HB; have BK301 := n0_; have HB := n1_; have BK302 := n2_; have GW302 := n3_; have GE302 := n4_; have NB301_302 := n5_; have NB302_301 := n6_; clear n0_ n1_ n2_ n3_ n4_ n5_ n6_ hb hbox hg; have hnb47 := NB301_302.out; have hnc47 := NB302_301.out; obtain ⟨hcz48_0, hcz48_1, hcz48_2⟩ := z3 BK301.out (.int .i64 a0_0) (.int .i64 a0_1) (.string a0_2); obtain ⟨hfz48_0, hfz48_1, hfz48_2⟩ := f3 BK301.out) | ((with_reducible refine gate_callee (f := 23) rfl ?_); refine gL (some 6) rfl Try.func23 #[.agg #[.int .i64 a0_0, .int .i64 a0_1, .string a0_2]] rfl ?_; (with_reducible refine (r1_Valid.calls k a0_0 a0_1 a0_2 true _ A2.out).mono ?_); rintro e w49 ⟨rfl, hb⟩; refine ⟨_, rfl, ?_⟩; have n0_ := aK (blk_below (bX BK301.out) hb); have n1_ := aK (blk_below (bX BK302.out) hb); have n2_ := aK (below_step (bT GE301.out GE302.out) hb); clear BK301 BK302 HB; have BK301 := n0_; have BK302 := n1_; have HB := n2_; clear n0_ n1_ n2_; (try clear hb); obtain ⟨hcz50_0, hcz50_1, hcz50_2⟩ := z3 BK301.out (.int .i64 a0_0) (.int .i64 a0_1) (.string a0_2); obtain ⟨hfz50_0, hfz50_1, hfz50_2⟩ := f3 BK301.out; obtain ⟨hcz51_0, hcz51_1, hcz51_2⟩ := z3 BK302.out (.int .i64 0) (.int .i64 0) (.string (⟨#[]⟩ : ByteArray)); obtain ⟨hfz51_0, hfz51_1, hfz51_2⟩ := f3 BK302.out))
     refine bodyPost_ret (results_ct rfl _ _ gb302 24 #[.int .i64 5, .int .i64 0, .string (⟨#[]⟩ : ByteArray)] (0, 0) _ rfl (put3 BK302.out) Try.underlying24 rfl (by kernel_rfl)) rfl ?_
     exact ⟨eW, bT GE301.out GE302.out⟩
    rw [if_pos c37] at H
    have c37b0 : decide (a0_1 < 9223372036854775807) = true := decide_eq_true c37
    clear c37
    simp only [Option.some.injEq, Prod.mk.injEq] at H
    obtain ⟨rfl, rfl, rfl, rfl⟩ := H
    go_enter Try.func28, Try.ntmps28
    go_wp2_with (first | ((with_reducible refine gate_dst (N := 1) rfl ?_); refine box_event ?hg (N := 1) ?hd (cs := #[.int .i64 a0_0, .int .i64 a0_1, .string a0_2]) (t := 24) ?hr ?_; (case hd => rfl); (case hg => rfl); (case hr => exact hR); intro gb301 hg w38 hbox hb; have n0_ := aK (below_step bO hb); have n1_ := aK (hbox); have n2_ := aK ((by rw [hg]; exact (below_size bO) : w.heap.size ≤ gb301)); have n3_ := aK ((by rw [hg]; exact (below_size bO) : w.heap.size ≤ gb301)); clear HB; have HB := n0_; have BK301 := n1_; have GW301 := n2_; have GE301 := n3_; clear n0_ n1_ n2_ n3_ hb hbox hg) | ((with_reducible refine gate_dst (N := 2) rfl ?_); refine box_event ?hg (N := 2) ?hd (cs := #[.int .i64 0, .int .i64 0, .string (⟨#[]⟩ : ByteArray)]) (t := 24) ?hr ?_; (case hd => rfl); (case hg => rfl); (case hr => exact hR); intro gb302 hg w39 hbox hb; have n0_ := aK (blk_below (bX BK301.out) hb); have n1_ := aK (below_step (bS GE301.out) hb); have n2_ := aK (hbox); have n3_ := aK ((by rw [hg]; exact (below_size (bS GE301.out)) : w.heap.size ≤ gb302)); have n4_ := aK ((by rw [hg]; exact (below_size (bS GE301.out)) : w.heap.size ≤ gb302)); have n5_ := aK ((by rw [hg]; exact Nat.ne_of_lt (blk_lt (bX BK301.out)) : gb301 ≠ gb302)); have n6_ := aK ((by rw [hg]; exact Nat.ne_of_gt (blk_lt (bX BK301.out)) : gb302 ≠ gb301)); clear BK301 HB; have BK301 := n0_; have HB := n1_; have BK302 := n2_; have GW302 := n3_; have GE302 := n4_; have NB301_302 := n5_; have NB302_301 := n6_; clear n0_ n1_ n2_ n3_ n4_ n5_ n6_ hb hbox hg; have hnb40 := NB301_302.out; have hnc40 := NB302_301.out; obtain ⟨hcz41_0, hcz41_1, hcz41_2⟩ := z3 BK301.out (.int .i64 a0_0) (.int .i64 a0_1) (.string a0_2); obtain ⟨hfz41_0, hfz41_1, hfz41_2⟩ := f3 BK301.out) | ((with_reducible refine gate_callee (f := 23) rfl ?_); refine gL (some 6) rfl Try.func23 #[.agg #[.int .i64 a0_0, .int .i64 a0_1, .string a0_2]] rfl ?_; (with_reducible refine (r1_Valid.calls k a0_0 a0_1 a0_2 true _ A2.out).mono ?_); rintro e w42 ⟨rfl, hb⟩; refine ⟨_, rfl, ?_⟩; have n0_ := aK (blk_below (bX BK301.out) hb); have n1_ := aK (blk_below (bX BK302.out) hb); have n2_ := aK (below_step (bT GE301.out GE302.out) hb); clear BK301 BK302 HB; have BK301 := n0_; have BK302 := n1_; have HB := n2_; clear n0_ n1_ n2_; (try clear hb); obtain ⟨hcz43_0, hcz43_1, hcz43_2⟩ := z3 BK301.out (.int .i64 a0_0) (.int .i64 a0_1) (.string a0_2); obtain ⟨hfz43_0, hfz43_1, hfz43_2⟩ := f3 BK301.out; obtain ⟨hcz44_0, hcz44_1, hcz44_2⟩ := z3 BK302.out (.int .i64 0) (.int .i64 0) (.string (⟨#[]⟩ : ByteArray)); obtain ⟨hfz44_0, hfz44_1, hfz44_2⟩ := f3 BK302.out))
    refine bodyPost_ret (results_ct rfl _ _ gb302 24 #[.int .i64 4, .int .i64 (wrap64 (a0_1 + 1)), .string (⟨#[]⟩ : ByteArray)] (0, 0) _ rfl (put3 BK302.out) Try.underlying24 rfl (by kernel_rfl)) rfl ?_
    exact ⟨eW, bT GE301.out GE302.out⟩
   rw [if_pos c20] at H
   have c20b0 : (a0_0 == 3) = true := beq_iff_eq.mpr c20
   have c20b1 : (a0_0 != 3) = false := bne_eq_false_iff_eq.mpr c20
   clear c20
   by_cases c21 : a0_1 = 0
   rotate_left
   ·rw [if_neg c21] at H
    have c21b0 : (a0_1 == 0) = false := beq_eq_false_iff_ne.mpr c21
    have c21b1 : (a0_1 != 0) = true := bne_iff_ne.mpr c21
    simp only [Option.some.injEq, Prod.mk.injEq] at H
    obtain ⟨rfl, rfl, rfl, rfl⟩ := H
    go_enter Try.func28, Try.ntmps28
    go_wp2_with (first | ((with_reducible refine gate_dst (N := 1) rfl ?_); refine box_event ?hg (N := 1) ?hd (cs := #[.int .i64 a0_0, .int .i64 a0_1, .string a0_2]) (t := 24) ?hr ?_; (case hd => rfl); (case hg => rfl); (case hr => exact hR); intro gb301 hg w29 hbox hb; have n0_ := aK (below_step bO hb); have n1_ := aK (hbox); have n2_ := aK ((by rw [hg]; exact (below_size bO) : w.heap.size ≤ gb301)); have n3_ := aK ((by rw [hg]; exact (below_size bO) : w.heap.size ≤ gb301)); clear HB; have HB := n0_; have BK301 := n1_; have GW301 := n2_; have GE301 := n3_; clear n0_ n1_ n2_ n3_ hb hbox hg) | ((with_reducible refine gate_dst (N := 2) rfl ?_); refine box_event ?hg (N := 2) ?hd (cs := #[.int .i64 0, .int .i64 0, .string (⟨#[]⟩ : ByteArray)]) (t := 24) ?hr ?_; (case hd => rfl); (case hg => rfl); (case hr => exact hR); intro gb302 hg w30 hbox hb; have n0_ := aK (blk_below (bX BK301.out) hb); have n1_ := aK (below_step (bS GE301.out) hb); have n2_ := aK (hbox); have n3_ := aK ((by rw [hg]; exact (below_size (bS GE301.out)) : w.heap.size ≤ gb302)); have n4_ := aK ((by rw [hg]; exact (below_size (bS GE301.out)) : w.heap.size ≤ gb302)); have n5_ := aK ((by rw [hg]; exact Nat.ne_of_lt (blk_lt (bX BK301.out)) : gb301 ≠ gb302)); have n6_ := aK ((by rw [hg]; exact Nat.ne_of_gt (blk_lt (bX BK301.out)) : gb302 ≠ gb301)); clear BK301 HB; have BK301 := n0_; have HB := n1_; have BK302 := n2_; have GW302 := n3_; have GE302 := n4_; have NB301_302 := n5_; have NB302_301 := n6_; clear n0_ n1_ n2_ n3_ n4_ n5_ n6_ hb hbox hg; have hnb31 := NB301_302.out; have hnc31 := NB302_301.out; obtain ⟨hcz32_0, hcz32_1, hcz32_2⟩ := z3 BK301.out (.int .i64 a0_0) (.int .i64 a0_1) (.string a0_2); obtain ⟨hfz32_0, hfz32_1, hfz32_2⟩ := f3 BK301.out) | ((with_reducible refine gate_callee (f := 23) rfl ?_); refine gL (some 6) rfl Try.func23 #[.agg #[.int .i64 a0_0, .int .i64 a0_1, .string a0_2]] rfl ?_; (with_reducible refine (r1_Valid.calls k a0_0 a0_1 a0_2 true _ A2.out).mono ?_); rintro e w33 ⟨rfl, hb⟩; refine ⟨_, rfl, ?_⟩; have n0_ := aK (blk_below (bX BK301.out) hb); have n1_ := aK (blk_below (bX BK302.out) hb); have n2_ := aK (below_step (bT GE301.out GE302.out) hb); clear BK301 BK302 HB; have BK301 := n0_; have BK302 := n1_; have HB := n2_; clear n0_ n1_ n2_; (try clear hb); obtain ⟨hcz34_0, hcz34_1, hcz34_2⟩ := z3 BK301.out (.int .i64 a0_0) (.int .i64 a0_1) (.string a0_2); obtain ⟨hfz34_0, hfz34_1, hfz34_2⟩ := f3 BK301.out; obtain ⟨hcz35_0, hcz35_1, hcz35_2⟩ := z3 BK302.out (.int .i64 0) (.int .i64 0) (.string (⟨#[]⟩ : ByteArray)); obtain ⟨hfz35_0, hfz35_1, hfz35_2⟩ := f3 BK302.out))
    refine bodyPost_ret (results_ct rfl _ _ gb302 24 #[.int .i64 4, .int .i64 (-9223372036854775808), .string (⟨#[]⟩ : ByteArray)] (0, 0) _ rfl (put3 BK302.out) Try.underlying24 rfl (by kernel_rfl)) rfl ?_
    exact ⟨eW, bT GE301.out GE302.out⟩
   rw [if_pos c21] at H
   have c21b0 : (a0_1 == 0) = true := beq_iff_eq.mpr c21
   have c21b1 : (a0_1 != 0) = false := bne_eq_false_iff_eq.mpr c21
   clear c21
   simp only [Option.some.injEq, Prod.mk.injEq] at H
   obtain ⟨rfl, rfl, rfl, rfl⟩ := H
   go_enter Try.func28, Try.ntmps28
   go_wp2_with (first | ((with_reducible refine gate_dst (N := 1) rfl ?_); refine box_event ?hg (N := 1) ?hd (cs := #[.int .i64 a0_0, .int .i64 a0_1, .string a0_2]) (t := 24) ?hr ?_; (case hd => rfl); (case hg => rfl); (case hr => exact hR); intro gb301 hg w22 hbox hb; have n0_ := aK (below_step bO hb); have n1_ := aK (hbox); have n2_ := aK ((by rw [hg]; exact (below_size bO) : w.heap.size ≤ gb301)); have n3_ := aK ((by rw [hg]; exact (below_size bO) : w.heap.size ≤ gb301)); clear HB; have HB := n0_; have BK301 := n1_; have GW301 := n2_; have GE301 := n3_; clear n0_ n1_ n2_ n3_ hb hbox hg) | ((with_reducible refine gate_dst (N := 2) rfl ?_); refine box_event ?hg (N := 2) ?hd (cs := #[.int .i64 0, .int .i64 0, .string (⟨#[]⟩ : ByteArray)]) (t := 24) ?hr ?_; (case hd => rfl); (case hg => rfl); (case hr => exact hR); intro gb302 hg w23 hbox hb; have n0_ := aK (blk_below (bX BK301.out) hb); have n1_ := aK (below_step (bS GE301.out) hb); have n2_ := aK (hbox); have n3_ := aK ((by rw [hg]; exact (below_size (bS GE301.out)) : w.heap.size ≤ gb302)); have n4_ := aK ((by rw [hg]; exact (below_size (bS GE301.out)) : w.heap.size ≤ gb302)); have n5_ := aK ((by rw [hg]; exact Nat.ne_of_lt (blk_lt (bX BK301.out)) : gb301 ≠ gb302)); have n6_ := aK ((by rw [hg]; exact Nat.ne_of_gt (blk_lt (bX BK301.out)) : gb302 ≠ gb301)); clear BK301 HB; have BK301 := n0_; have HB := n1_; have BK302 := n2_; have GW302 := n3_; have GE302 := n4_; have NB301_302 := n5_; have NB302_301 := n6_; clear n0_ n1_ n2_ n3_ n4_ n5_ n6_ hb hbox hg; have hnb24 := NB301_302.out; have hnc24 := NB302_301.out; obtain ⟨hcz25_0, hcz25_1, hcz25_2⟩ := z3 BK301.out (.int .i64 a0_0) (.int .i64 a0_1) (.string a0_2); obtain ⟨hfz25_0, hfz25_1, hfz25_2⟩ := f3 BK301.out) | ((with_reducible refine gate_callee (f := 23) rfl ?_); refine gL (some 6) rfl Try.func23 #[.agg #[.int .i64 a0_0, .int .i64 a0_1, .string a0_2]] rfl ?_; (with_reducible refine (r1_Valid.calls k a0_0 a0_1 a0_2 true _ A2.out).mono ?_); rintro e w26 ⟨rfl, hb⟩; refine ⟨_, rfl, ?_⟩; have n0_ := aK (blk_below (bX BK301.out) hb); have n1_ := aK (blk_below (bX BK302.out) hb); have n2_ := aK (below_step (bT GE301.out GE302.out) hb); clear BK301 BK302 HB; have BK301 := n0_; have BK302 := n1_; have HB := n2_; clear n0_ n1_ n2_; (try clear hb); obtain ⟨hcz27_0, hcz27_1, hcz27_2⟩ := z3 BK301.out (.int .i64 a0_0) (.int .i64 a0_1) (.string a0_2); obtain ⟨hfz27_0, hfz27_1, hfz27_2⟩ := f3 BK301.out; obtain ⟨hcz28_0, hcz28_1, hcz28_2⟩ := z3 BK302.out (.int .i64 0) (.int .i64 0) (.string (⟨#[]⟩ : ByteArray)); obtain ⟨hfz28_0, hfz28_1, hfz28_2⟩ := f3 BK302.out))
   refine bodyPost_ret (results_ct rfl _ _ gb302 24 #[.int .i64 3, .int .i64 1, .string (⟨#[]⟩ : ByteArray)] (0, 0) _ rfl (put3 BK302.out) Try.underlying24 rfl (by kernel_rfl)) rfl ?_
   exact ⟨eW, bT GE301.out GE302.out⟩
  rw [if_pos c12] at H
  have c12b0 : (a0_0 == 2) = true := beq_iff_eq.mpr c12
  have c12b1 : (a0_0 != 2) = false := bne_eq_false_iff_eq.mpr c12
  clear c12
  simp only [Option.some.injEq, Prod.mk.injEq] at H
  obtain ⟨rfl, rfl, rfl, rfl⟩ := H
  go_enter Try.func28, Try.ntmps28
  go_wp2_with (first | ((with_reducible refine gate_dst (N := 1) rfl ?_); refine box_event ?hg (N := 1) ?hd (cs := #[.int .i64 a0_0, .int .i64 a0_1, .string a0_2]) (t := 24) ?hr ?_; (case hd => rfl); (case hg => rfl); (case hr => exact hR); intro gb301 hg w13 hbox hb; have n0_ := aK (below_step bO hb); have n1_ := aK (hbox); have n2_ := aK ((by rw [hg]; exact (below_size bO) : w.heap.size ≤ gb301)); have n3_ := aK ((by rw [hg]; exact (below_size bO) : w.heap.size ≤ gb301)); clear HB; have HB := n0_; have BK301 := n1_; have GW301 := n2_; have GE301 := n3_; clear n0_ n1_ n2_ n3_ hb hbox hg) | ((with_reducible refine gate_dst (N := 2) rfl ?_); refine box_event ?hg (N := 2) ?hd (cs := #[.int .i64 0, .int .i64 0, .string (⟨#[]⟩ : ByteArray)]) (t := 24) ?hr ?_; (case hd => rfl); (case hg => rfl); (case hr => exact hR); intro gb302 hg w14 hbox hb; have n0_ := aK (blk_below (bX BK301.out) hb); have n1_ := aK (below_step (bS GE301.out) hb); have n2_ := aK (hbox); have n3_ := aK ((by rw [hg]; exact (below_size (bS GE301.out)) : w.heap.size ≤ gb302)); have n4_ := aK ((by rw [hg]; exact (below_size (bS GE301.out)) : w.heap.size ≤ gb302)); have n5_ := aK ((by rw [hg]; exact Nat.ne_of_lt (blk_lt (bX BK301.out)) : gb301 ≠ gb302)); have n6_ := aK ((by rw [hg]; exact Nat.ne_of_gt (blk_lt (bX BK301.out)) : gb302 ≠ gb301)); clear BK301 HB; have BK301 := n0_; have HB := n1_; have BK302 := n2_; have GW302 := n3_; have GE302 := n4_; have NB301_302 := n5_; have NB302_301 := n6_; clear n0_ n1_ n2_ n3_ n4_ n5_ n6_ hb hbox hg; have hnb15 := NB301_302.out; have hnc15 := NB302_301.out; obtain ⟨hcz16_0, hcz16_1, hcz16_2⟩ := z3 BK301.out (.int .i64 a0_0) (.int .i64 a0_1) (.string a0_2); obtain ⟨hfz16_0, hfz16_1, hfz16_2⟩ := f3 BK301.out) | ((with_reducible refine gate_callee (f := 23) rfl ?_); refine gL (some 6) rfl Try.func23 #[.agg #[.int .i64 a0_0, .int .i64 a0_1, .string a0_2]] rfl ?_; (with_reducible refine (r1_Valid.calls k a0_0 a0_1 a0_2 true _ A2.out).mono ?_); rintro e w17 ⟨rfl, hb⟩; refine ⟨_, rfl, ?_⟩; have n0_ := aK (blk_below (bX BK301.out) hb); have n1_ := aK (blk_below (bX BK302.out) hb); have n2_ := aK (below_step (bT GE301.out GE302.out) hb); clear BK301 BK302 HB; have BK301 := n0_; have BK302 := n1_; have HB := n2_; clear n0_ n1_ n2_; (try clear hb); obtain ⟨hcz18_0, hcz18_1, hcz18_2⟩ := z3 BK301.out (.int .i64 a0_0) (.int .i64 a0_1) (.string a0_2); obtain ⟨hfz18_0, hfz18_1, hfz18_2⟩ := f3 BK301.out; obtain ⟨hcz19_0, hcz19_1, hcz19_2⟩ := z3 BK302.out (.int .i64 0) (.int .i64 0) (.string (⟨#[]⟩ : ByteArray)); obtain ⟨hfz19_0, hfz19_1, hfz19_2⟩ := f3 BK302.out))
  refine bodyPost_ret (results_ct rfl _ _ gb302 24 #[.int .i64 3, .int .i64 0, .string (⟨#[]⟩ : ByteArray)] (0, 0) _ rfl (put3 BK302.out) Try.underlying24 rfl (by kernel_rfl)) rfl ?_
  exact ⟨eW, bT GE301.out GE302.out⟩
 rw [if_pos c4] at H
 have c4b0 : (a0_0 == 1) = true := beq_iff_eq.mpr c4
 have c4b1 : (a0_0 != 1) = false := bne_eq_false_iff_eq.mpr c4
 clear c4
 simp only [Option.some.injEq, Prod.mk.injEq] at H
 obtain ⟨rfl, rfl, rfl, rfl⟩ := H
 go_enter Try.func28, Try.ntmps28
 go_wp2_with (first | ((with_reducible refine gate_dst (N := 1) rfl ?_); refine box_event ?hg (N := 1) ?hd (cs := #[.int .i64 a0_0, .int .i64 a0_1, .string a0_2]) (t := 24) ?hr ?_; (case hd => rfl); (case hg => rfl); (case hr => exact hR); intro gb301 hg w5 hbox hb; have n0_ := aK (below_step bO hb); have n1_ := aK (hbox); have n2_ := aK ((by rw [hg]; exact (below_size bO) : w.heap.size ≤ gb301)); have n3_ := aK ((by rw [hg]; exact (below_size bO) : w.heap.size ≤ gb301)); clear HB; have HB := n0_; have BK301 := n1_; have GW301 := n2_; have GE301 := n3_; clear n0_ n1_ n2_ n3_ hb hbox hg) | ((with_reducible refine gate_dst (N := 2) rfl ?_); refine box_event ?hg (N := 2) ?hd (cs := #[.int .i64 0, .int .i64 0, .string (⟨#[]⟩ : ByteArray)]) (t := 24) ?hr ?_; (case hd => rfl); (case hg => rfl); (case hr => exact hR); intro gb302 hg w6 hbox hb; have n0_ := aK (blk_below (bX BK301.out) hb); have n1_ := aK (below_step (bS GE301.out) hb); have n2_ := aK (hbox); have n3_ := aK ((by rw [hg]; exact (below_size (bS GE301.out)) : w.heap.size ≤ gb302)); have n4_ := aK ((by rw [hg]; exact (below_size (bS GE301.out)) : w.heap.size ≤ gb302)); have n5_ := aK ((by rw [hg]; exact Nat.ne_of_lt (blk_lt (bX BK301.out)) : gb301 ≠ gb302)); have n6_ := aK ((by rw [hg]; exact Nat.ne_of_gt (blk_lt (bX BK301.out)) : gb302 ≠ gb301)); clear BK301 HB; have BK301 := n0_; have HB := n1_; have BK302 := n2_; have GW302 := n3_; have GE302 := n4_; have NB301_302 := n5_; have NB302_301 := n6_; clear n0_ n1_ n2_ n3_ n4_ n5_ n6_ hb hbox hg; have hnb7 := NB301_302.out; have hnc7 := NB302_301.out; obtain ⟨hcz8_0, hcz8_1, hcz8_2⟩ := z3 BK301.out (.int .i64 a0_0) (.int .i64 a0_1) (.string a0_2); obtain ⟨hfz8_0, hfz8_1, hfz8_2⟩ := f3 BK301.out) | ((with_reducible refine gate_callee (f := 23) rfl ?_); refine gL (some 6) rfl Try.func23 #[.agg #[.int .i64 a0_0, .int .i64 a0_1, .string a0_2]] rfl ?_; (with_reducible refine (r1_Valid.calls k a0_0 a0_1 a0_2 true _ A2.out).mono ?_); rintro e w9 ⟨rfl, hb⟩; refine ⟨_, rfl, ?_⟩; have n0_ := aK (blk_below (bX BK301.out) hb); have n1_ := aK (blk_below (bX BK302.out) hb); have n2_ := aK (below_step (bT GE301.out GE302.out) hb); clear BK301 BK302 HB; have BK301 := n0_; have BK302 := n1_; have HB := n2_; clear n0_ n1_ n2_; (try clear hb); obtain ⟨hcz10_0, hcz10_1, hcz10_2⟩ := z3 BK301.out (.int .i64 a0_0) (.int .i64 a0_1) (.string a0_2); obtain ⟨hfz10_0, hfz10_1, hfz10_2⟩ := f3 BK301.out; obtain ⟨hcz11_0, hcz11_1, hcz11_2⟩ := z3 BK302.out (.int .i64 0) (.int .i64 0) (.string (⟨#[]⟩ : ByteArray)); obtain ⟨hfz11_0, hfz11_1, hfz11_2⟩ := f3 BK302.out))
 refine bodyPost_ret (results_ct rfl _ _ gb302 24 #[.int .i64 2, .int .i64 0, .string (⟨#[]⟩ : ByteArray)] (0, 0) _ rfl (put3 BK302.out) Try.underlying24 rfl (by kernel_rfl)) rfl ?_
 exact ⟨eW, bT GE301.out GE302.out⟩
end Go.Proofs.Ytpjcdacnhalclaa.Q
