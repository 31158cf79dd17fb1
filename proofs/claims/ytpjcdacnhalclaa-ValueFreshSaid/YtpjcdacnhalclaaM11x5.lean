/- A part of a proof: facts of functions that the law calls; conditions stand in each. -/
import Derived.Test.YtpjcdacnhalclaaM11x2
import Derived.Test.YtpjcdacnhalclaaM11x4
set_option linter.unusedVariables false
set_option linter.unusedSimpArgs false
namespace Go.Proofs.Ytpjcdacnhalclaa.Q
open Go.RowKit Go.Proofs.YtpjcdacnhalclaaW.PrintWords Go.Proofs.YtpjcdacnhalclaaW.PrintLast Go.Proofs.YtpjcdacnhalclaaW.PrintMore
attribute [local go_sem] max2_int min2_int max_two min_two max_three min_three max_four min_four
def v_Next.l0 : Nat → Int → Int → Int → ByteArray → Option (Int × Int × ByteArray × Bool)
 | 0, _, _, _, _ => none
 | k + 1, x4, x127000, x127001, x127002 => if x4 > 0 then (if 0 ≤ (wrap64 (x4 - 1)) then (if (wrap64 (x4 - 1)) < (x127002.size : Int) then (if (bt x127002 (wrap64 (x4 - 1))) = 255 then (v_Next.l0 k (wrap64 (x4 - 1)) x127000 x127001 x127002) else (if x4 = 0 then (some (0, 0, (⟨#[]⟩ : ByteArray), false)) else (if (wrap64 (x4 - 1)) ≤ (x127002.size : Int) then ((some (([((bt x127002 (wrap64 (x4 - 1))) + 1) % 256] : List Int) : List Int)).bind fun y145 => (if (x127002.extract 0 ((wrap64 (x4 - 1)) : Int).toNat).size + (strOfNums y145).size ≤ 9223372036854775807 then (some (5, 0, (x127002.extract 0 ((wrap64 (x4 - 1)) : Int).toNat) ++ (strOfNums y145), true)) else (none))) else (none)))) else (none)) else (none)) else (if x4 = 0 then (some (0, 0, (⟨#[]⟩ : ByteArray), false)) else (if 0 ≤ (wrap64 (x4 - 1)) then (if (wrap64 (x4 - 1)) ≤ (x127002.size : Int) then (if (wrap64 (x4 - 1)) < (x127002.size : Int) then ((some (([((bt x127002 (wrap64 (x4 - 1))) + 1) % 256] : List Int) : List Int)).bind fun y148 => (if (x127002.extract 0 ((wrap64 (x4 - 1)) : Int).toNat).size + (strOfNums y148).size ≤ 9223372036854775807 then (some (5, 0, (x127002.extract 0 ((wrap64 (x4 - 1)) : Int).toNat) ++ (strOfNums y148), true)) else (none))) else (none)) else (none)) else (none)))
def v_Next.f (k : Nat) (a0_0 : Int) (a0_1 : Int) (a0_2 : ByteArray) : Option (Int × Int × ByteArray × Bool) := (v_Valid.f k a0_0 a0_1 a0_2).bind fun t128 => (if t128 = true then (if a0_0 = 1 then ((v_First.f k 2).bind fun bt129 => (some (bt129.1, bt129.2.1, bt129.2.2.1, bt129.2.2.2))) else (if a0_0 = 2 then ((v_First.f k 3).bind fun bt133 => (some (bt133.1, bt133.2.1, bt133.2.2.1, bt133.2.2.2))) else (if a0_0 = 3 then (if a0_1 = 0 then (some (3, 1, (⟨#[]⟩ : ByteArray), true)) else ((v_First.f k 4).bind fun bt137 => (some (bt137.1, bt137.2.1, bt137.2.2.1, bt137.2.2.2)))) else (if a0_0 = 4 then (if a0_1 = 9223372036854775807 then ((v_First.f k 5).bind fun bt141 => (some (bt141.1, bt141.2.1, bt141.2.2.1, bt141.2.2.2))) else (some (4, wrap64 (a0_1 + 1), (⟨#[]⟩ : ByteArray), true))) else (if (a0_2.size : Int) < 64 then (if a0_2.size + 1 ≤ 9223372036854775807 then (some (5, 0, a0_2 ++ (⟨#[0]⟩ : ByteArray), true)) else (none)) else (v_Next.l0 k (a0_2.size : Int) a0_0 a0_1 a0_2)))))) else (some (0, 0, (⟨#[]⟩ : ByteArray), false)))
theorem v_Next.mono_l : ∀ k, (∀ y0 y1 y2 y3, LeO (v_Next.l0 k y0 y1 y2 y3) (v_Next.l0 (k + 1) y0 y1 y2 y3))
 | 0 => fun _ _ _ _ r h => by simp [v_Next.l0] at h
 | k + 1 => by
  have ih0 := v_Next.mono_l k
  ·intro y0 y1 y2 y3
   unfold v_Next.l0
   repeat' first
   | (with_reducible exact ih0 _ _ _ _)
   | (with_reducible exact v_First.mono _ _)
   | (with_reducible exact v_Valid.mono _ _ _ _)
   | (with_reducible exact LeO.refl _)
   | (with_reducible exact LeO.none _)
   | (with_reducible refine LeO.ite ?_ ?_)
   | (with_reducible refine LeO.bind ?_ (fun _ => ?_))
   | exact ih0 _ _ _ _
   | exact v_First.mono _ _
   | exact v_Valid.mono _ _ _ _
   | exact LeO.none _
   | refine LeO.ite ?_ ?_
   | refine LeO.bind ?_ (fun _ => ?_)
theorem v_Next.mono : ∀ a0 a1 a2 k, LeO (v_Next.f k a0 a1 a2) (v_Next.f (k + 1) a0 a1 a2) := by
 intro a0 a1 a2 k
 have ih0 := v_Next.mono_l k
 unfold v_Next.f
 repeat' first
   | (with_reducible exact ih0 _ _ _ _)
   | (with_reducible exact v_First.mono _ _)
   | (with_reducible exact v_Valid.mono _ _ _ _)
   | (with_reducible exact LeO.refl _)
   | (with_reducible exact LeO.none _)
   | (with_reducible refine LeO.ite ?_ ?_)
   | (with_reducible refine LeO.bind ?_ (fun _ => ?_))
   | exact ih0 _ _ _ _
   | exact v_First.mono _ _
   | exact v_Valid.mono _ _ _ _
   | exact LeO.none _
   | refine LeO.ite ?_ ?_
   | refine LeO.bind ?_ (fun _ => ?_)
def v_Next.T23 : Bool × List (List Nat × List Nat) := (true, [([], []), ([0], [0]), ([], []), ([2], [2]), ([1, 3], [1, 3]), ([], []), ([5], [5]), ([], []), ([7], [7]), ([6, 8], [6, 8]), ([9], [9]), ([10], [10]), ([11], [11]), ([4, 12], [4, 12]), ([13], [13]), ([14, 0, 1, 2, 3, 4, 5, 6, 7, 8, 9, 10, 11, 12, 13, 14], [14]), ([15, 0, 1, 2, 3, 4, 5, 6, 7, 8, 9, 10, 11, 12, 13, 14, 15], [])])
def v_Next.B23 : List Nat := [0, 1, 0, 4, 15, 0, 32, 0, 128, 480, 992, 2016, 4064, 8191, 16383, 32767, 65535]
theorem v_Next.tab23 : rtab .any (opsOf Try.f27 23) = v_Next.T23 := by kernel_rfl
theorem v_Next.bits23 : waitsOk v_Next.T23.2 v_Next.B23 = true := by kernel_rfl
set_option maxHeartbeats 8000000 in
set_option maxRecDepth 100000 in
theorem v_Next.calls (k : Nat) (a0_0 : Int) (a0_1 : Int) (a0_2 : ByteArray) (r1 : Int) (r2 : Int) (r3 : ByteArray) (r4 : Bool) (w : World) (h : v_Next.f k a0_0 a0_1 a0_2 = some (r1, r2, r3, r4)) :
  Calls Try.prog 27 #[.agg #[.int .i64 a0_0, .int .i64 a0_1, .string a0_2]] w fun e w' => e = .returned (.tuple #[.agg #[.int .i64 r1, .int .i64 r2, .string r3], .bool r4]) ∧ Below w.heap.size w w' := by
 have hu24 := Try.underlying24
 have HB := aK (Below.refl w.heap.size w)
 have H : ((v_Valid.f k a0_0 a0_1 a0_2).bind fun t128 => (if t128 = true then (if a0_0 = 1 then ((v_First.f k 2).bind fun bt129 => (some (bt129.1, bt129.2.1, bt129.2.2.1, bt129.2.2.2))) else (if a0_0 = 2 then ((v_First.f k 3).bind fun bt133 => (some (bt133.1, bt133.2.1, bt133.2.2.1, bt133.2.2.2))) else (if a0_0 = 3 then (if a0_1 = 0 then (some (3, 1, (⟨#[]⟩ : ByteArray), true)) else ((v_First.f k 4).bind fun bt137 => (some (bt137.1, bt137.2.1, bt137.2.2.1, bt137.2.2.2)))) else (if a0_0 = 4 then (if a0_1 = 9223372036854775807 then ((v_First.f k 5).bind fun bt141 => (some (bt141.1, bt141.2.1, bt141.2.2.1, bt141.2.2.2))) else (some (4, wrap64 (a0_1 + 1), (⟨#[]⟩ : ByteArray), true))) else (if (a0_2.size : Int) < 64 then (if a0_2.size + 1 ≤ 9223372036854775807 then (some (5, 0, a0_2 ++ (⟨#[0]⟩ : ByteArray), true)) else (none)) else (v_Next.l0 k (a0_2.size : Int) a0_0 a0_1 a0_2)))))) else (some (0, 0, (⟨#[]⟩ : ByteArray), false)))) = some (r1, r2, r3, r4) := h
 clear h
 obtain ⟨t128, A2, H⟩ := oB H
 try dsimp only at H
 by_cases c3 : t128 = true
 rotate_left
 ·replace c3 := Bool.eq_false_iff.mpr c3
  subst c3
  rw [if_neg (show ¬ (false = true) by decide)] at H
  simp only [Option.some.injEq, Prod.mk.injEq] at H
  obtain ⟨rfl, rfl, rfl, rfl⟩ := H
  go_enter Try.func27, Try.ntmps27
  go_wp2_with (first | ((with_reducible refine gate_dst (N := 1) rfl ?_); refine box_event ?hg (N := 1) ?hd (cs := #[.int .i64 a0_0, .int .i64 a0_1, .string a0_2]) (t := 24) ?hr ?_; (case hd => rfl); (case hg => rfl); (case hr => exact hR); intro gb126 hg w116 hbox hb; have n0_ := aK (below_step bO hb); have n1_ := aK (hbox); have n2_ := aK ((by rw [hg]; exact (below_size bO) : w.heap.size ≤ gb126)); have n3_ := aK ((by rw [hg]; exact (below_size bO) : w.heap.size ≤ gb126)); clear HB; have HB := n0_; have BK126 := n1_; have GW126 := n2_; have GE126 := n3_; clear n0_ n1_ n2_ n3_ hb hbox hg) | ((with_reducible refine gate_dst (N := 2) rfl ?_); refine box_event ?hg (N := 2) ?hd (cs := #[.int .i64 0, .int .i64 0, .string (⟨#[]⟩ : ByteArray)]) (t := 24) ?hr ?_; (case hd => rfl); (case hg => rfl); (case hr => exact hR); intro gb127 hg w117 hbox hb; have n0_ := aK (blk_below (bX BK126.out) hb); have n1_ := aK (below_step (bS GE126.out) hb); have n2_ := aK (hbox); have n3_ := aK ((by rw [hg]; exact (below_size (bS GE126.out)) : w.heap.size ≤ gb127)); have n4_ := aK ((by rw [hg]; exact (below_size (bS GE126.out)) : w.heap.size ≤ gb127)); have n5_ := aK ((by rw [hg]; exact Nat.ne_of_lt (blk_lt (bX BK126.out)) : gb126 ≠ gb127)); have n6_ := aK ((by rw [hg]; exact Nat.ne_of_gt (blk_lt (bX BK126.out)) : gb127 ≠ gb126)); clear BK126 HB; have BK126 := n0_; have HB := n1_; have BK127 := n2_; have GW127 := n3_; have GE127 := n4_; have NB126_127 := n5_; have NB127_126 := n6_; clear n0_ n1_ n2_ n3_ n4_ n5_ n6_ hb hbox hg; have hnb118 := NB126_127.out; have hnc118 := NB127_126.out; obtain ⟨hcz119_0, hcz119_1, hcz119_2⟩ := z3 BK126.out (.int .i64 a0_0) (.int .i64 a0_1) (.string a0_2); obtain ⟨hfz119_0, hfz119_1, hfz119_2⟩ := f3 BK126.out) | ((with_reducible refine gate_callee (f := 21) rfl ?_); refine gL (some 6) rfl Try.func21 #[.agg #[.int .i64 a0_0, .int .i64 a0_1, .string a0_2]] rfl ?_; (with_reducible refine (v_Valid.calls k a0_0 a0_1 a0_2 false _ A2.out).mono ?_); rintro e w120 ⟨rfl, hb⟩; refine ⟨_, rfl, ?_⟩; have n0_ := aK (blk_below (bX BK126.out) hb); have n1_ := aK (blk_below (bX BK127.out) hb); have n2_ := aK (below_step (bT GE126.out GE127.out) hb); clear BK126 BK127 HB; have BK126 := n0_; have BK127 := n1_; have HB := n2_; clear n0_ n1_ n2_; (try clear hb); obtain ⟨hcz121_0, hcz121_1, hcz121_2⟩ := z3 BK127.out (.int .i64 0) (.int .i64 0) (.string (⟨#[]⟩ : ByteArray)); obtain ⟨hfz121_0, hfz121_1, hfz121_2⟩ := f3 BK127.out))
  refine bodyPost_ret (results_ct rfl _ _ gb127 24 #[.int .i64 0, .int .i64 0, .string (⟨#[]⟩ : ByteArray)] (0, 0) _ rfl (by (with_reducible repeat (first | refine blk_drewN ?_ _ | refine blk_drew ?_ | refine blk_alloc ?_ _)); refine blk_put (cs := #[.int .i64 0, .int .i64 0, .string (⟨#[]⟩ : ByteArray)]) ?_ 2 _ rfl; (with_reducible repeat (first | refine blk_drewN ?_ _ | refine blk_drew ?_ | refine blk_alloc ?_ _)); refine blk_put (cs := #[.int .i64 0, .int .i64 0, .string (⟨#[]⟩ : ByteArray)]) ?_ 1 _ rfl; (with_reducible repeat (first | refine blk_drewN ?_ _ | refine blk_drew ?_ | refine blk_alloc ?_ _)); refine blk_put (cs := #[.int .i64 0, .int .i64 0, .string (⟨#[]⟩ : ByteArray)]) ?_ 0 _ rfl; (with_reducible repeat (first | refine blk_drewN ?_ _ | refine blk_drew ?_ | refine blk_alloc ?_ _)); exact BK127.out) Try.underlying24 rfl (by kernel_rfl)) rfl ?_
  exact ⟨eW, bT GE126.out GE127.out⟩
 subst c3
 rw [if_pos rfl] at H
 by_cases c4 : a0_0 = 1
 rotate_left
 ·rw [if_neg c4] at H
  have c4b0 : (a0_0 == 1) = false := beq_eq_false_iff_ne.mpr c4
  have c4b1 : (a0_0 != 1) = true := bne_iff_ne.mpr c4
  by_cases c14 : a0_0 = 2
  rotate_left
  ·rw [if_neg c14] at H
   have c14b0 : (a0_0 == 2) = false := beq_eq_false_iff_ne.mpr c14
   have c14b1 : (a0_0 != 2) = true := bne_iff_ne.mpr c14
   by_cases c24 : a0_0 = 3
   rotate_left
   ·rw [if_neg c24] at H
    have c24b0 : (a0_0 == 3) = false := beq_eq_false_iff_ne.mpr c24
    have c24b1 : (a0_0 != 3) = true := bne_iff_ne.mpr c24
    by_cases c42 : a0_0 = 4
    rotate_left
    ·rw [if_neg c42] at H
     have c42b0 : (a0_0 == 4) = false := beq_eq_false_iff_ne.mpr c42
     have c42b1 : (a0_0 != 4) = true := bne_iff_ne.mpr c42
     by_cases c60 : (a0_2.size : Int) < 64
     rotate_left
     ·rw [if_neg c60] at H
      have c60b0 : decide ((a0_2.size : Int) < 64) = false := decide_eq_false c60
      have c60b1 : decide (a0_2.size < 64) = false := decide_eq_false (by omega)
      clear c60
      have H' := Aside0.mk H
      clear H
      go_enter Try.func27, Try.ntmps27
      go_wp2_with (first | ((with_reducible refine gate_dst (N := 1) rfl ?_); refine box_event ?hg (N := 1) ?hd (cs := #[.int .i64 a0_0, .int .i64 a0_1, .string a0_2]) (t := 24) ?hr ?_; (case hd => rfl); (case hg => rfl); (case hr => exact hR); intro gb126 hg w69 hbox hb; have n0_ := aK (below_step bO hb); have n1_ := aK (hbox); have n2_ := aK ((by rw [hg]; exact (below_size bO) : w.heap.size ≤ gb126)); have n3_ := aK ((by rw [hg]; exact (below_size bO) : w.heap.size ≤ gb126)); clear HB; have HB := n0_; have BK126 := n1_; have GW126 := n2_; have GE126 := n3_; clear n0_ n1_ n2_ n3_ hb hbox hg) | ((with_reducible refine gate_dst (N := 2) rfl ?_); refine box_event ?hg (N := 2) ?hd (cs := #[.int .i64 0, .int .i64 0, .string (⟨#[]⟩ : ByteArray)]) (t := 24) ?hr ?_; (case hd => rfl); (case hg => rfl); (case hr => exact hR); intro gb127 hg w70 hbox hb; have n0_ := aK (blk_below (bX BK126.out) hb); have n1_ := aK (below_step (bS GE126.out) hb); have n2_ := aK (hbox); have n3_ := aK ((by rw [hg]; exact (below_size (bS GE126.out)) : w.heap.size ≤ gb127)); have n4_ := aK ((by rw [hg]; exact (below_size (bS GE126.out)) : w.heap.size ≤ gb127)); have n5_ := aK ((by rw [hg]; exact Nat.ne_of_lt (blk_lt (bX BK126.out)) : gb126 ≠ gb127)); have n6_ := aK ((by rw [hg]; exact Nat.ne_of_gt (blk_lt (bX BK126.out)) : gb127 ≠ gb126)); clear BK126 HB; have BK126 := n0_; have HB := n1_; have BK127 := n2_; have GW127 := n3_; have GE127 := n4_; have NB126_127 := n5_; have NB127_126 := n6_; clear n0_ n1_ n2_ n3_ n4_ n5_ n6_ hb hbox hg; have hnb71 := NB126_127.out; have hnc71 := NB127_126.out; obtain ⟨hcz72_0, hcz72_1, hcz72_2⟩ := z3 BK126.out (.int .i64 a0_0) (.int .i64 a0_1) (.string a0_2); obtain ⟨hfz72_0, hfz72_1, hfz72_2⟩ := f3 BK126.out) | ((with_reducible refine gate_callee (f := 21) rfl ?_); refine gL (some 6) rfl Try.func21 #[.agg #[.int .i64 a0_0, .int .i64 a0_1, .string a0_2]] rfl ?_; (with_reducible refine (v_Valid.calls k a0_0 a0_1 a0_2 true _ A2.out).mono ?_); rintro e w73 ⟨rfl, hb⟩; refine ⟨_, rfl, ?_⟩; have n0_ := aK (blk_below (bX BK126.out) hb); have n1_ := aK (blk_below (bX BK127.out) hb); have n2_ := aK (below_step (bT GE126.out GE127.out) hb); clear BK126 BK127 HB; have BK126 := n0_; have BK127 := n1_; have HB := n2_; clear n0_ n1_ n2_; (try clear hb); obtain ⟨hcz74_0, hcz74_1, hcz74_2⟩ := z3 BK126.out (.int .i64 a0_0) (.int .i64 a0_1) (.string a0_2); obtain ⟨hfz74_0, hfz74_1, hfz74_2⟩ := f3 BK126.out))
      go_loopg [4] k (fun kq v4 w' => ∃ (x4_1 : Int), v4 = .int .i64 x4_1 ∧ Aside0 (v_Next.l0 kq x4_1 a0_0 a0_1 a0_2 = some (r1, r2, r3, r4)) ∧ Aside0 (kq ≤ k) ∧ Aside0 (w'.heap[gb126]? = some (.cells #[.int .i64 a0_0, .int .i64 a0_1, .string a0_2] 24 (0, 0))) ∧ Aside0 (w'.heap[gb127]? = some (.cells #[.int .i64 0, .int .i64 0, .string (⟨#[]⟩ : ByteArray)] 24 (0, 0))) ∧ Aside0 (Below w.heap.size w w'))
      case atStart => exact ⟨((a0_2.size : Int)), (by first | rfl | (simp; done) | (simp [*]; done)), H', ⟨Nat.le_refl _⟩, ⟨by (with_reducible repeat (first | refine blk_drewN ?_ _ | refine blk_drew ?_ | refine blk_alloc ?_ _)); exact BK126.out⟩, ⟨by (with_reducible repeat (first | refine blk_drewN ?_ _ | refine blk_drew ?_ | refine blk_alloc ?_ _)); exact BK127.out⟩, ⟨bT GE126.out GE127.out⟩⟩
      case round =>
       clear H'
       try clear c1
       try clear c2
       try clear p2
       try clear c3
       try clear c4
       try clear c4b0
       try clear c4b1
       try clear c5
       try clear c6
       try clear p6
       try clear c7
       try clear c8
       try clear c14
       try clear c14b0
       try clear c14b1
       try clear c18
       try clear c21
       try clear c24
       try clear c24b0
       try clear c24b1
       try clear c25
       try clear c25b0
       try clear c25b1
       try clear c27
       try clear c28
       try clear c36
       try clear c42
       try clear c42b0
       try clear c42b1
       try clear c43
       try clear c43b0
       try clear c43b1
       try clear c47
       try clear c49
       try clear c55
       try clear c60
       try clear c60b0
       try clear c60b1
       try clear c61
       try clear c61b0
       try clear c61b1
       try clear c61b2
       try clear c64
       try clear p64
       try clear c71
       try clear hcz11_0
       try clear hcz11_1
       try clear hcz11_2
       try clear hcz13_0
       try clear hcz13_1
       try clear hcz13_2
       try clear hcz19_0
       try clear hcz19_1
       try clear hcz19_2
       try clear hcz21_0
       try clear hcz21_1
       try clear hcz21_2
       try clear hcz23_0
       try clear hcz23_1
       try clear hcz23_2
       try clear hcz29_0
       try clear hcz29_1
       try clear hcz29_2
       try clear hcz31_0
       try clear hcz31_1
       try clear hcz31_2
       try clear hcz32_0
       try clear hcz32_1
       try clear hcz32_2
       try clear hcz37_0
       try clear hcz37_1
       try clear hcz37_2
       try clear hcz39_0
       try clear hcz39_1
       try clear hcz39_2
       try clear hcz41_0
       try clear hcz41_1
       try clear hcz41_2
       try clear hcz48_0
       try clear hcz48_1
       try clear hcz48_2
       try clear hcz50_0
       try clear hcz50_1
       try clear hcz50_2
       try clear hcz52_0
       try clear hcz52_1
       try clear hcz52_2
       try clear hcz56_0
       try clear hcz56_1
       try clear hcz56_2
       try clear hcz58_0
       try clear hcz58_1
       try clear hcz58_2
       try clear hcz59_0
       try clear hcz59_1
       try clear hcz59_2
       try clear hcz65_0
       try clear hcz65_1
       try clear hcz65_2
       try clear hcz67_0
       try clear hcz67_1
       try clear hcz67_2
       try clear hcz68_0
       try clear hcz68_1
       try clear hcz68_2
       try clear hcz72_0
       try clear hcz72_1
       try clear hcz72_2
       try clear hcz74_0
       try clear hcz74_1
       try clear hcz74_2
       try clear hcz9_0
       try clear hcz9_1
       try clear hcz9_2
       try clear hfz11_0
       try clear hfz11_1
       try clear hfz11_2
       try clear hfz13_0
       try clear hfz13_1
       try clear hfz13_2
       try clear hfz19_0
       try clear hfz19_1
       try clear hfz19_2
       try clear hfz21_0
       try clear hfz21_1
       try clear hfz21_2
       try clear hfz23_0
       try clear hfz23_1
       try clear hfz23_2
       try clear hfz29_0
       try clear hfz29_1
       try clear hfz29_2
       try clear hfz31_0
       try clear hfz31_1
       try clear hfz31_2
       try clear hfz32_0
       try clear hfz32_1
       try clear hfz32_2
       try clear hfz37_0
       try clear hfz37_1
       try clear hfz37_2
       try clear hfz39_0
       try clear hfz39_1
       try clear hfz39_2
       try clear hfz41_0
       try clear hfz41_1
       try clear hfz41_2
       try clear hfz48_0
       try clear hfz48_1
       try clear hfz48_2
       try clear hfz50_0
       try clear hfz50_1
       try clear hfz50_2
       try clear hfz52_0
       try clear hfz52_1
       try clear hfz52_2
       try clear hfz56_0
       try clear hfz56_1
       try clear hfz56_2
       try clear hfz58_0
       try clear hfz58_1
       try clear hfz58_2
       try clear hfz59_0
       try clear hfz59_1
       try clear hfz59_2
       try clear hfz65_0
       try clear hfz65_1
       try clear hfz65_2
       try clear hfz67_0
       try clear hfz67_1
       try clear hfz67_2
       try clear hfz68_0
       try clear hfz68_1
       try clear hfz68_2
       try clear hfz72_0
       try clear hfz72_1
       try clear hfz72_2
       try clear hfz74_0
       try clear hfz74_1
       try clear hfz74_2
       try clear hfz9_0
       try clear hfz9_1
       try clear hfz9_2
       obtain ⟨x4_1, rfl, HA, HK1, BK126, BK127, HB⟩ := hrel
       cases gk with
       | zero => exact absurd HA.out (by simp [v_Next.l0])
       | succ k1 =>
        have H := HA.out
        clear HA
        simp only [v_Next.l0] at H
        by_cases c75 : x4_1 > 0
        rotate_left
        ·rw [if_neg c75] at H
         have c75b0 : decide (0 < x4_1) = false := decide_eq_false c75
         clear c75
         by_cases c100 : x4_1 = 0
         rotate_left
         ·rw [if_neg c100] at H
          have c100b0 : (x4_1 == 0) = false := beq_eq_false_iff_ne.mpr c100
          have c100b1 : (x4_1 != 0) = true := bne_iff_ne.mpr c100
          obtain ⟨ji103, hji103⟩ : ∃ j_ : Int, (wrap64 (x4_1 - 1)) = j_ := ⟨_, rfl⟩
          replace H : (if 0 ≤ (ji103) then (if (ji103) ≤ (a0_2.size : Int) then (if (ji103) < (a0_2.size : Int) then ((some (([((bt a0_2 (ji103)) + 1) % 256] : List Int) : List Int)).bind fun y148 => (if (a0_2.extract 0 ((ji103) : Int).toNat).size + (strOfNums y148).size ≤ 9223372036854775807 then (some (5, 0, (a0_2.extract 0 ((ji103) : Int).toNat) ++ (strOfNums y148), true)) else (none))) else (none)) else (none)) else (none)) = some (r1, r2, r3, r4) := by first | (rw [hji103] at H; exact H) | (simp only [hji103] at H ⊢; exact H)
          have hji103w : (IntKind.i64.wrap (x4_1 - 1)) = ji103 := (i64_w _).trans hji103
          by_cases c104 : 0 ≤ (ji103)
          rotate_left
          ·rw [if_neg c104] at H
           exact absurd H (by simp)
          rw [if_pos c104] at H
          have c104b0 := eq_true c104
          have c104b1 : decide (0 ≤ (ji103)) = true := decide_eq_true c104
          clear c104
          by_cases c105 : (ji103) ≤ (a0_2.size : Int)
          rotate_left
          ·rw [if_neg c105] at H
           exact absurd H (by simp)
          rw [if_pos c105] at H
          have c105b0 := eq_true c105
          have c105b1 : decide ((ji103) ≤ (a0_2.size : Int)) = true := decide_eq_true c105
          clear c105
          by_cases c106 : (ji103) < (a0_2.size : Int)
          rotate_left
          ·rw [if_neg c106] at H
           exact absurd H (by simp)
          rw [if_pos c106] at H
          have c106b0 : decide ((ji103) < (a0_2.size : Int)) = true := decide_eq_true c106
          clear c106
          obtain ⟨y148, hy148⟩ : ∃ y_ : List Int, y_ = (([((bt a0_2 (ji103)) + 1) % 256] : List Int)) := ⟨_, rfl⟩
          replace H : (if (a0_2.extract 0 ((ji103) : Int).toNat).size + (strOfNums y148).size ≤ 9223372036854775807 then (some (5, 0, (a0_2.extract 0 ((ji103) : Int).toNat) ++ (strOfNums y148), true)) else (none)) = some (r1, r2, r3, r4) := by first | (rw [hy148]; with_reducible exact H) | (have H2_ := (Option.bind_some _ _).symm.trans H; rw [hy148]; with_reducible exact H2_) | (have H2_ := (Option.bind_some _ _).symm.trans H; with_reducible exact H2_) | with_reducible exact H | (rw [hy148]; exact H) | exact H
          have Ny148 := Aside0.mk hy148
          clear hy148
          by_cases c108 : (a0_2.extract 0 ((ji103) : Int).toNat).size + (strOfNums y148).size ≤ 9223372036854775807
          rotate_left
          ·rw [if_neg c108] at H
           exact absurd H (by simp)
          rw [if_pos c108] at H
          have c108b0 := eq_true c108
          have c108b1 : decide ((a0_2.extract 0 ((ji103) : Int).toNat).size + (strOfNums y148).size ≤ 9223372036854775807) = true := decide_eq_true c108
          try have c108b2 : (9223372036854775807 < (a0_2.extract 0 ((ji103) : Int).toNat).size + (strOfNums y148).size) = False := eq_false (Nat.not_lt.2 c108)
          have c108b3 : (9223372036854775807 < ji103.toNat + (strOfNums y148).size) = False := eq_false (Nat.not_lt.2 (by have h_ := c108; rw [ByteArray.size_extract] at h_; have h1_ : ji103 ≤ (a0_2.size : Int) := of_decide_eq_true (by assumption); omega))
          simp only [Option.some.injEq, Prod.mk.injEq] at H
          obtain ⟨rfl, rfl, rfl, rfl⟩ := H
          try go_wp2
          have n0_ := aK (blk_drew BK126.out)
          have n1_ := aK (blk_drew BK127.out)
          have n2_ := aK (below_drew1 HB.out)
          clear BK126
          clear BK127
          clear HB
          have BK126 := n0_
          have BK127 := n1_
          have HB := n2_
          clear n0_ n1_ n2_
          have p107 : 0 ≤ ((ji103) : Int) := of_decide_eq_true (aA)
          have q107 : (ji103) < (a0_2.size : Int) := of_decide_eq_true (aA)
          have hx107 := bt_at a0_2 (ji103)
          replace p107 := eq_true p107
          replace q107 := eq_true q107
          refine start_ (n := 17) (S := fun w' => w'.cell? ⟨gb126, 0, none⟩ = some (.int .i64 a0_0) ∧ w'.cell? ⟨gb126, 1, none⟩ = some (.int .i64 a0_1) ∧ w'.cell? ⟨gb126, 2, none⟩ = some (.string a0_2)) (ds := []) #[false, false, false, false, false, false, false, false, false, false, false, false, false, false, false, false, false] (by kernel_rfl) rfl rfl ⟨(blk_cell BK126.out 0).trans rfl, (blk_cell BK126.out 1).trans rfl, (blk_cell BK126.out 2).trans rfl⟩ (fun hHeld => ?_); refine with_tabW v_Next.tab23 v_Next.bits23 (fun HT_ HW_ => ?_)
          generalize wr.drew = w109 at BK126 BK127 HB hHeld ⊢
          refine pY (i := 0) (N := some 68) (tf 1 16) rfl rfl HT_.out ?_
          refine pY (i := 2) (N := some 70) #[true, false, true, false, false, false, false, false, false, false, false, false, false, false, false, false, false] rfl rfl HT_.out ?_
          refine pY (i := 3) (N := some 71) #[true, false, true, true, false, false, false, false, false, false, false, false, false, false, false, false, false] rfl rfl HT_.out ?_
          refine pY (i := 5) (N := some 73) #[true, false, true, true, false, true, false, false, false, false, false, false, false, false, false, false, false] rfl rfl HT_.out ?_
          refine pY (i := 7) (N := some 75) #[true, false, true, true, false, true, false, true, false, false, false, false, false, false, false, false, false] rfl rfl HT_.out ?_
          refine pY (i := 8) (N := some 76) #[true, false, true, true, false, true, false, true, true, false, false, false, false, false, false, false, false] rfl rfl HT_.out ?_
          refine take_ (i := 1) (N := some 69) (v := ?_) (a' := ?_) #[true, true, true, true, false, true, false, true, true, false, false, false, false, false, false, false, false] rfl rfl (take_ofW HT_.out HW_.out (by kernel_rfl)) (fun _ _ _ h => h) (Or.inl ⟨by rfl, ?_⟩) hHeld ?_ ?_
          rotate_left
          ·rintro w' ⟨s0, s1, s2⟩
           go_simp
           with_reducible rfl
          rotate_left
          ·exact aP
          refine pY (i := 4) (N := some 72) #[true, true, true, true, true, true, false, true, true, false, false, false, false, false, false, false, false] rfl rfl HT_.out ?_
          refine take_ (i := 6) (N := some 74) (v := ?_) (a' := ?_) #[true, true, true, true, true, true, true, true, true, false, false, false, false, false, false, false, false] rfl rfl (take_ofW HT_.out HW_.out (by kernel_rfl)) (fun _ _ _ h => h) (Or.inl ⟨by rfl, ?_⟩) hHeld ?_ ?_
          rotate_left
          ·rintro w' ⟨s0, s1, s2⟩
           go_simp
           with_reducible rfl
          rotate_left
          ·exact aP
          refine take_ (i := 9) (N := some 77) (v := ?_) (a' := ?_) #[true, true, true, true, true, true, true, true, true, true, false, false, false, false, false, false, false] rfl rfl (take_ofW HT_.out HW_.out (by kernel_rfl)) (fun _ _ _ h => h) (Or.inl ⟨by rfl, ?_⟩) hHeld ?_ ?_
          rotate_left
          ·rintro w' ⟨s0, s1, s2⟩
           go_simp
           with_reducible rfl
          rotate_left
          ·exact aP
          refine pY (i := 10) (N := some 78) (tf 11 6) rfl rfl HT_.out ?_
          refine one_ (i := 11) (N := some 79) #[true, true, true, true, true, true, true, true, true, true, true, true, false, false, false, false, false] rfl rfl (one_of HT_.out (by kernel_rfl)) (by decide) (fun K hK => ?_)
          refine Kd.R_lit_step (Kd.int .u8) _ 5 ?hg (N := 79) ?hd (xs := ([((bt a0_2 (ji103)) + 1) % 256] : List Int)) (inner := [.int .u8 (((bt a0_2 (ji103)) + 1) % 256)]) (ok := fun _ => True) (okp := fun _ => True) ?hr ?hp (fun _ hk => hk) trivial (Below.refl _ _) (Nat.le_refl _) (by simp) ?_; (case hd => rfl); (case hg => rfl); (case hr => exact hR); (case hp => exact (Reps.one (show Kd.M (Kd.int .u8) _ _ _ (((bt a0_2 (ji103)) + 1) % 256) [.int .u8 (((bt a0_2 (ji103)) + 1) % 256)] from rfl) (Reps.none _ _)))
          intro v149 w110 ho111 hb hg_ hnew_
          clear hg_ hnew_
          (first | rw [← Ny148.out] at ho111 | (simp only [Int.reduceToNat] at ho111; rw [← Ny148.out] at ho111))
          have n0_ := aK (Kd.R_lower ho111 (below_size (bT GE126.out GE127.out)))
          have n1_ := aK (blk_below (bX BK126.out) hb)
          have n2_ := aK (blk_below (bX BK127.out) hb)
          have n3_ := aK (below_step (bT GE126.out GE127.out) hb)
          clear BK126
          clear BK127
          clear HB
          have HO150 := n0_
          have BK126 := n1_
          have BK127 := n2_
          have HB := n3_
          clear n0_ n1_ n2_ n3_
          clear hb ho111
          refine hK.out _ _ ⟨(blk_cell BK126.out 0).trans rfl, (blk_cell BK126.out 1).trans rfl, (blk_cell BK126.out 2).trans rfl⟩ (fun hHeld => ?_)
          clear hK K
          refine norm_ (a' := ?_) ?_ ?_
          rotate_left
          ·show Act.put _ (some 79) _ = _
           simp only [Act.put, List.setIfInBounds_toArray, List.set_cons_zero, List.set_cons_succ, i64_w, i32_w]
           rfl
          refine one_ (i := 12) (N := some 80) #[true, true, true, true, true, true, true, true, true, true, true, true, true, false, false, false, false] rfl rfl (one_of HT_.out (by kernel_rfl)) (by decide) (fun K hK => ?_)
          have hcv112 := own_string (P := Try.prog) Try.underlying22 Try.underlying5 Try.underlying9 (Kd.own_of_R HO150.out)
          refine value_ (w1 := ?_) (v := ?_) (by rfl) rfl ?_ ?_
          rotate_left 2
          ·go_simp
           constructor
           ·rfl
           ·rfl
          clear hcv112
          refine hK.out _ _ ⟨(blk_cell BK126.out 0).trans rfl, (blk_cell BK126.out 1).trans rfl, (blk_cell BK126.out 2).trans rfl⟩ (fun hHeld => ?_)
          clear hK K
          refine norm_ (a' := ?_) ?_ ?_
          rotate_left
          ·show Act.put _ (some 80) _ = _
           simp only [Act.put, List.setIfInBounds_toArray, List.set_cons_zero, List.set_cons_succ, i64_w, i32_w]
           rfl
          refine pY (i := 13) (N := some 81) (tf 14 3) rfl rfl HT_.out ?_
          refine pY (i := 14) (N := some 82) (tf 15 2) rfl rfl HT_.out ?_
          refine one_ (i := 15) (N := none) #[true, true, true, true, true, true, true, true, true, true, true, true, true, true, true, true, false] rfl rfl (one_of HT_.out (by kernel_rfl)) (by decide) (fun K hK => ?_)
          have hs113 : w110.cell? ⟨gb127, 0, none⟩ = some (.int .i64 0) := (blk_cell BK127.out 0).trans rfl
          have hfs113 := blk_frozen BK127.out 0
          have hns113_0 := NB126_127.out
          have hms113_0 := NB127_126.out
          have hs114 : w110.cell? ⟨gb127, 1, none⟩ = some (.int .i64 0) := (blk_cell BK127.out 1).trans rfl
          have hfs114 := blk_frozen BK127.out 1
          have hns114_0 := NB126_127.out
          have hms114_0 := NB127_126.out
          have hs115 : w110.cell? ⟨gb127, 2, none⟩ = some (.string (⟨#[]⟩ : ByteArray)) := (blk_cell BK127.out 2).trans rfl
          have hfs115 := blk_frozen BK127.out 2
          have hns115_0 := NB126_127.out
          have hms115_0 := NB127_126.out
          refine skip_ (w1 := ?_) (by rfl) rfl ?_ ?_
          rotate_left
          ·go_simp
           rfl
          refine hK.out _ _ ⟨((cell_far (p := ⟨gb127, _, none⟩) NB126_127.out _).trans (((cell_far (p := ⟨gb127, _, none⟩) NB126_127.out _).trans (((cell_far (p := ⟨gb127, _, none⟩) NB126_127.out _).trans (hHeld.1)))))), ((cell_far (p := ⟨gb127, _, none⟩) NB126_127.out _).trans (((cell_far (p := ⟨gb127, _, none⟩) NB126_127.out _).trans (((cell_far (p := ⟨gb127, _, none⟩) NB126_127.out _).trans (hHeld.2.1)))))), ((cell_far (p := ⟨gb127, _, none⟩) NB126_127.out _).trans (((cell_far (p := ⟨gb127, _, none⟩) NB126_127.out _).trans (((cell_far (p := ⟨gb127, _, none⟩) NB126_127.out _).trans (hHeld.2.2))))))⟩ (fun hHeld => ?_)
          clear hK K
          refine pY (i := 16) (N := some 3) (tf 17 0) rfl rfl HT_.out ?_
          refine done_ (done_of HT_.out (by kernel_rfl)) ?_
          try go_wp2
          refine bodyPost_ret (results_ct rfl _ _ gb127 24 #[.int .i64 5, .int .i64 0, .string ((a0_2.extract 0 ((ji103) : Int).toNat) ++ (strOfNums y148))] (0, 0) _ rfl (by (with_reducible repeat (first | refine blk_drewN ?_ _ | refine blk_drew ?_ | refine blk_alloc ?_ _)); refine blk_put (cs := #[.int .i64 5, .int .i64 0, .string (⟨#[]⟩ : ByteArray)]) ?_ 2 _ rfl; (with_reducible repeat (first | refine blk_drewN ?_ _ | refine blk_drew ?_ | refine blk_alloc ?_ _)); refine blk_put (cs := #[.int .i64 5, .int .i64 0, .string (⟨#[]⟩ : ByteArray)]) ?_ 1 _ rfl; (with_reducible repeat (first | refine blk_drewN ?_ _ | refine blk_drew ?_ | refine blk_alloc ?_ _)); refine blk_put (cs := #[.int .i64 0, .int .i64 0, .string (⟨#[]⟩ : ByteArray)]) ?_ 0 _ rfl; (with_reducible repeat (first | refine blk_drewN ?_ _ | refine blk_drew ?_ | refine blk_alloc ?_ _)); exact BK127.out) Try.underlying24 rfl (by kernel_rfl)) rfl ?_
          exact ⟨by first | rfl | (simp [errW_none, errW_some] <;> rfl) | (simp only [← hji103]; first | rfl | (simp [errW_none, errW_some] <;> rfl)) | (simp [*, errW_none, errW_some] <;> rfl), bT GE126.out GE127.out⟩
         rw [if_pos c100] at H
         have c100b0 : (x4_1 == 0) = true := beq_iff_eq.mpr c100
         have c100b1 : (x4_1 != 0) = false := bne_eq_false_iff_eq.mpr c100
         clear c100
         simp only [Option.some.injEq, Prod.mk.injEq] at H
         obtain ⟨rfl, rfl, rfl, rfl⟩ := H
         have hnb101 := NB127_126.out
         have hnc101 := NB126_127.out
         obtain ⟨hcz102_0, hcz102_1, hcz102_2⟩ := z3 BK127.out (.int .i64 0) (.int .i64 0) (.string (⟨#[]⟩ : ByteArray))
         obtain ⟨hfz102_0, hfz102_1, hfz102_2⟩ := f3 BK127.out
         go_wp2
         refine bodyPost_ret (results_ct rfl _ _ gb127 24 #[.int .i64 0, .int .i64 0, .string (⟨#[]⟩ : ByteArray)] (0, 0) _ rfl (by (with_reducible repeat (first | refine blk_drewN ?_ _ | refine blk_drew ?_ | refine blk_alloc ?_ _)); refine blk_put (cs := #[.int .i64 0, .int .i64 0, .string (⟨#[]⟩ : ByteArray)]) ?_ 2 _ rfl; (with_reducible repeat (first | refine blk_drewN ?_ _ | refine blk_drew ?_ | refine blk_alloc ?_ _)); refine blk_put (cs := #[.int .i64 0, .int .i64 0, .string (⟨#[]⟩ : ByteArray)]) ?_ 1 _ rfl; (with_reducible repeat (first | refine blk_drewN ?_ _ | refine blk_drew ?_ | refine blk_alloc ?_ _)); refine blk_put (cs := #[.int .i64 0, .int .i64 0, .string (⟨#[]⟩ : ByteArray)]) ?_ 0 _ rfl; (with_reducible repeat (first | refine blk_drewN ?_ _ | refine blk_drew ?_ | refine blk_alloc ?_ _)); exact BK127.out) Try.underlying24 rfl (by kernel_rfl)) rfl ?_
         exact ⟨eW, bT GE126.out GE127.out⟩
        rw [if_pos c75] at H
        have c75b0 : decide (0 < x4_1) = true := decide_eq_true c75
        clear c75
        obtain ⟨ji76, hji76⟩ : ∃ j_ : Int, (wrap64 (x4_1 - 1)) = j_ := ⟨_, rfl⟩
        replace H : (if 0 ≤ (ji76) then (if (ji76) < (a0_2.size : Int) then (if (bt a0_2 (ji76)) = 255 then (v_Next.l0 k1 ji76 a0_0 a0_1 a0_2) else (if x4_1 = 0 then (some (0, 0, (⟨#[]⟩ : ByteArray), false)) else (if (ji76) ≤ (a0_2.size : Int) then ((some (([((bt a0_2 (ji76)) + 1) % 256] : List Int) : List Int)).bind fun y145 => (if (a0_2.extract 0 ((ji76) : Int).toNat).size + (strOfNums y145).size ≤ 9223372036854775807 then (some (5, 0, (a0_2.extract 0 ((ji76) : Int).toNat) ++ (strOfNums y145), true)) else (none))) else (none)))) else (none)) else (none)) = some (r1, r2, r3, r4) := by first | (rw [hji76] at H; exact H) | (simp only [hji76] at H ⊢; exact H)
        have hji76w : (IntKind.i64.wrap (x4_1 - 1)) = ji76 := (i64_w _).trans hji76
        by_cases c77 : 0 ≤ (ji76)
        rotate_left
        ·rw [if_neg c77] at H
         exact absurd H (by simp)
        rw [if_pos c77] at H
        have c77b0 : decide (0 ≤ (ji76)) = true := decide_eq_true c77
        clear c77
        by_cases c78 : (ji76) < (a0_2.size : Int)
        rotate_left
        ·rw [if_neg c78] at H
         exact absurd H (by simp)
        rw [if_pos c78] at H
        have c78b0 : decide ((ji76) < (a0_2.size : Int)) = true := decide_eq_true c78
        clear c78
        by_cases c80 : (bt a0_2 (ji76)) = 255
        rotate_left
        ·rw [if_neg c80] at H
         have c80b0 : ((bt a0_2 (ji76)) == 255) = false := beq_eq_false_iff_ne.mpr c80
         have c80b1 : ((bt a0_2 (ji76)) != 255) = true := bne_iff_ne.mpr c80
         by_cases c83 : x4_1 = 0
         rotate_left
         ·rw [if_neg c83] at H
          have c83b0 : (x4_1 == 0) = false := beq_eq_false_iff_ne.mpr c83
          have c83b1 : (x4_1 != 0) = true := bne_iff_ne.mpr c83
          have c87b0 := eq_true (of_decide_eq_true (aA) : 0 ≤ (ji76))
          by_cases c88 : (ji76) ≤ (a0_2.size : Int)
          rotate_left
          ·rw [if_neg c88] at H
           exact absurd H (by simp)
          rw [if_pos c88] at H
          have c88b0 := eq_true c88
          have c88b1 : decide ((ji76) ≤ (a0_2.size : Int)) = true := decide_eq_true c88
          clear c88
          obtain ⟨y145, hy145⟩ : ∃ y_ : List Int, y_ = (([((bt a0_2 (ji76)) + 1) % 256] : List Int)) := ⟨_, rfl⟩
          replace H : (if (a0_2.extract 0 ((ji76) : Int).toNat).size + (strOfNums y145).size ≤ 9223372036854775807 then (some (5, 0, (a0_2.extract 0 ((ji76) : Int).toNat) ++ (strOfNums y145), true)) else (none)) = some (r1, r2, r3, r4) := by first | (rw [hy145]; with_reducible exact H) | (have H2_ := (Option.bind_some _ _).symm.trans H; rw [hy145]; with_reducible exact H2_) | (have H2_ := (Option.bind_some _ _).symm.trans H; with_reducible exact H2_) | with_reducible exact H | (rw [hy145]; exact H) | exact H
          have Ny145 := Aside0.mk hy145
          clear hy145
          by_cases c90 : (a0_2.extract 0 ((ji76) : Int).toNat).size + (strOfNums y145).size ≤ 9223372036854775807
          rotate_left
          ·rw [if_neg c90] at H
           exact absurd H (by simp)
          rw [if_pos c90] at H
          have c90b0 := eq_true c90
          have c90b1 : decide ((a0_2.extract 0 ((ji76) : Int).toNat).size + (strOfNums y145).size ≤ 9223372036854775807) = true := decide_eq_true c90
          try have c90b2 : (9223372036854775807 < (a0_2.extract 0 ((ji76) : Int).toNat).size + (strOfNums y145).size) = False := eq_false (Nat.not_lt.2 c90)
          have c90b3 : (9223372036854775807 < ji76.toNat + (strOfNums y145).size) = False := eq_false (Nat.not_lt.2 (by have h_ := c90; rw [ByteArray.size_extract] at h_; have h1_ : ji76 ≤ (a0_2.size : Int) := of_decide_eq_true (by assumption); omega))
          simp only [Option.some.injEq, Prod.mk.injEq] at H
          obtain ⟨rfl, rfl, rfl, rfl⟩ := H
          have hnb91 := NB126_127.out
          have hnc91 := NB127_126.out
          obtain ⟨hcz92_0, hcz92_1, hcz92_2⟩ := z3 BK126.out (.int .i64 a0_0) (.int .i64 a0_1) (.string a0_2)
          obtain ⟨hfz92_0, hfz92_1, hfz92_2⟩ := f3 BK126.out
          have p79 : 0 ≤ ((ji76) : Int) := of_decide_eq_true (aA)
          have q79 : (ji76) < (a0_2.size : Int) := of_decide_eq_true (aA)
          have hx79 := bt_at a0_2 (ji76)
          replace p79 := eq_true p79
          replace q79 := eq_true q79
          try go_wp2
          have n0_ := aK (blk_drew BK126.out)
          have n1_ := aK (blk_drew BK127.out)
          have n2_ := aK (below_drew1 HB.out)
          clear BK126
          clear BK127
          clear HB
          have BK126 := n0_
          have BK127 := n1_
          have HB := n2_
          clear n0_ n1_ n2_
          have p89 : 0 ≤ ((ji76) : Int) := of_decide_eq_true (aA)
          have q89 : (ji76) < (a0_2.size : Int) := of_decide_eq_true (aA)
          have hx89 := bt_at a0_2 (ji76)
          replace p89 := eq_true p89
          replace q89 := eq_true q89
          refine start_ (n := 17) (S := fun w' => w'.cell? ⟨gb126, 0, none⟩ = some (.int .i64 a0_0) ∧ w'.cell? ⟨gb126, 1, none⟩ = some (.int .i64 a0_1) ∧ w'.cell? ⟨gb126, 2, none⟩ = some (.string a0_2)) (ds := []) #[false, false, false, false, false, false, false, false, false, false, false, false, false, false, false, false, false] (by kernel_rfl) rfl rfl ⟨(blk_cell BK126.out 0).trans rfl, (blk_cell BK126.out 1).trans rfl, (blk_cell BK126.out 2).trans rfl⟩ (fun hHeld => ?_); refine with_tabW v_Next.tab23 v_Next.bits23 (fun HT_ HW_ => ?_)
          generalize wr.drew = w93 at BK126 BK127 HB hHeld ⊢
          refine pY (i := 0) (N := some 68) (tf 1 16) rfl rfl HT_.out ?_
          refine pY (i := 2) (N := some 70) #[true, false, true, false, false, false, false, false, false, false, false, false, false, false, false, false, false] rfl rfl HT_.out ?_
          refine pY (i := 3) (N := some 71) #[true, false, true, true, false, false, false, false, false, false, false, false, false, false, false, false, false] rfl rfl HT_.out ?_
          refine pY (i := 5) (N := some 73) #[true, false, true, true, false, true, false, false, false, false, false, false, false, false, false, false, false] rfl rfl HT_.out ?_
          refine pY (i := 7) (N := some 75) #[true, false, true, true, false, true, false, true, false, false, false, false, false, false, false, false, false] rfl rfl HT_.out ?_
          refine pY (i := 8) (N := some 76) #[true, false, true, true, false, true, false, true, true, false, false, false, false, false, false, false, false] rfl rfl HT_.out ?_
          refine take_ (i := 1) (N := some 69) (v := ?_) (a' := ?_) #[true, true, true, true, false, true, false, true, true, false, false, false, false, false, false, false, false] rfl rfl (take_ofW HT_.out HW_.out (by kernel_rfl)) (fun _ _ _ h => h) (Or.inl ⟨by rfl, ?_⟩) hHeld ?_ ?_
          rotate_left
          ·rintro w' ⟨s0, s1, s2⟩
           go_simp
           with_reducible rfl
          rotate_left
          ·exact aP
          refine pY (i := 4) (N := some 72) #[true, true, true, true, true, true, false, true, true, false, false, false, false, false, false, false, false] rfl rfl HT_.out ?_
          refine take_ (i := 6) (N := some 74) (v := ?_) (a' := ?_) #[true, true, true, true, true, true, true, true, true, false, false, false, false, false, false, false, false] rfl rfl (take_ofW HT_.out HW_.out (by kernel_rfl)) (fun _ _ _ h => h) (Or.inl ⟨by rfl, ?_⟩) hHeld ?_ ?_
          rotate_left
          ·rintro w' ⟨s0, s1, s2⟩
           go_simp
           with_reducible rfl
          rotate_left
          ·exact aP
          refine take_ (i := 9) (N := some 77) (v := ?_) (a' := ?_) #[true, true, true, true, true, true, true, true, true, true, false, false, false, false, false, false, false] rfl rfl (take_ofW HT_.out HW_.out (by kernel_rfl)) (fun _ _ _ h => h) (Or.inl ⟨by rfl, ?_⟩) hHeld ?_ ?_
          rotate_left
          ·rintro w' ⟨s0, s1, s2⟩
           go_simp
           with_reducible rfl
          rotate_left
          ·exact aP
          refine pY (i := 10) (N := some 78) (tf 11 6) rfl rfl HT_.out ?_
          refine one_ (i := 11) (N := some 79) #[true, true, true, true, true, true, true, true, true, true, true, true, false, false, false, false, false] rfl rfl (one_of HT_.out (by kernel_rfl)) (by decide) (fun K hK => ?_)
          refine Kd.R_lit_step (Kd.int .u8) _ 5 ?hg (N := 79) ?hd (xs := ([((bt a0_2 (ji76)) + 1) % 256] : List Int)) (inner := [.int .u8 (((bt a0_2 (ji76)) + 1) % 256)]) (ok := fun _ => True) (okp := fun _ => True) ?hr ?hp (fun _ hk => hk) trivial (Below.refl _ _) (Nat.le_refl _) (by simp) ?_; (case hd => rfl); (case hg => rfl); (case hr => exact hR); (case hp => exact (Reps.one (show Kd.M (Kd.int .u8) _ _ _ (((bt a0_2 (ji76)) + 1) % 256) [.int .u8 (((bt a0_2 (ji76)) + 1) % 256)] from rfl) (Reps.none _ _)))
          intro v146 w94 ho95 hb hg_ hnew_
          clear hg_ hnew_
          (first | rw [← Ny145.out] at ho95 | (simp only [Int.reduceToNat] at ho95; rw [← Ny145.out] at ho95))
          have n0_ := aK (Kd.R_lower ho95 (below_size (bT GE126.out GE127.out)))
          have n1_ := aK (blk_below (bX BK126.out) hb)
          have n2_ := aK (blk_below (bX BK127.out) hb)
          have n3_ := aK (below_step (bT GE126.out GE127.out) hb)
          clear BK126
          clear BK127
          clear HB
          have HO147 := n0_
          have BK126 := n1_
          have BK127 := n2_
          have HB := n3_
          clear n0_ n1_ n2_ n3_
          clear hb ho95
          refine hK.out _ _ ⟨(blk_cell BK126.out 0).trans rfl, (blk_cell BK126.out 1).trans rfl, (blk_cell BK126.out 2).trans rfl⟩ (fun hHeld => ?_)
          clear hK K
          refine norm_ (a' := ?_) ?_ ?_
          rotate_left
          ·show Act.put _ (some 79) _ = _
           simp only [Act.put, List.setIfInBounds_toArray, List.set_cons_zero, List.set_cons_succ, i64_w, i32_w]
           rfl
          refine one_ (i := 12) (N := some 80) #[true, true, true, true, true, true, true, true, true, true, true, true, true, false, false, false, false] rfl rfl (one_of HT_.out (by kernel_rfl)) (by decide) (fun K hK => ?_)
          have hcv96 := own_string (P := Try.prog) Try.underlying22 Try.underlying5 Try.underlying9 (Kd.own_of_R HO147.out)
          refine value_ (w1 := ?_) (v := ?_) (by rfl) rfl ?_ ?_
          rotate_left 2
          ·go_simp
           constructor
           ·rfl
           ·rfl
          clear hcv96
          refine hK.out _ _ ⟨(blk_cell BK126.out 0).trans rfl, (blk_cell BK126.out 1).trans rfl, (blk_cell BK126.out 2).trans rfl⟩ (fun hHeld => ?_)
          clear hK K
          refine norm_ (a' := ?_) ?_ ?_
          rotate_left
          ·show Act.put _ (some 80) _ = _
           simp only [Act.put, List.setIfInBounds_toArray, List.set_cons_zero, List.set_cons_succ, i64_w, i32_w]
           rfl
          refine pY (i := 13) (N := some 81) (tf 14 3) rfl rfl HT_.out ?_
          refine pY (i := 14) (N := some 82) (tf 15 2) rfl rfl HT_.out ?_
          refine one_ (i := 15) (N := none) #[true, true, true, true, true, true, true, true, true, true, true, true, true, true, true, true, false] rfl rfl (one_of HT_.out (by kernel_rfl)) (by decide) (fun K hK => ?_)
          have hs97 : w94.cell? ⟨gb127, 0, none⟩ = some (.int .i64 0) := (blk_cell BK127.out 0).trans rfl
          have hfs97 := blk_frozen BK127.out 0
          have hns97_0 := NB126_127.out
          have hms97_0 := NB127_126.out
          have hs98 : w94.cell? ⟨gb127, 1, none⟩ = some (.int .i64 0) := (blk_cell BK127.out 1).trans rfl
          have hfs98 := blk_frozen BK127.out 1
          have hns98_0 := NB126_127.out
          have hms98_0 := NB127_126.out
          have hs99 : w94.cell? ⟨gb127, 2, none⟩ = some (.string (⟨#[]⟩ : ByteArray)) := (blk_cell BK127.out 2).trans rfl
          have hfs99 := blk_frozen BK127.out 2
          have hns99_0 := NB126_127.out
          have hms99_0 := NB127_126.out
          refine skip_ (w1 := ?_) (by rfl) rfl ?_ ?_
          rotate_left
          ·go_simp
           rfl
          refine hK.out _ _ ⟨((cell_far (p := ⟨gb127, _, none⟩) NB126_127.out _).trans (((cell_far (p := ⟨gb127, _, none⟩) NB126_127.out _).trans (((cell_far (p := ⟨gb127, _, none⟩) NB126_127.out _).trans (hHeld.1)))))), ((cell_far (p := ⟨gb127, _, none⟩) NB126_127.out _).trans (((cell_far (p := ⟨gb127, _, none⟩) NB126_127.out _).trans (((cell_far (p := ⟨gb127, _, none⟩) NB126_127.out _).trans (hHeld.2.1)))))), ((cell_far (p := ⟨gb127, _, none⟩) NB126_127.out _).trans (((cell_far (p := ⟨gb127, _, none⟩) NB126_127.out _).trans (((cell_far (p := ⟨gb127, _, none⟩) NB126_127.out _).trans (hHeld.2.2))))))⟩ (fun hHeld => ?_)
          clear hK K
          refine pY (i := 16) (N := some 3) (tf 17 0) rfl rfl HT_.out ?_
          refine done_ (done_of HT_.out (by kernel_rfl)) ?_
          try go_wp2
          refine bodyPost_ret (results_ct rfl _ _ gb127 24 #[.int .i64 5, .int .i64 0, .string ((a0_2.extract 0 ((ji76) : Int).toNat) ++ (strOfNums y145))] (0, 0) _ rfl (by (with_reducible repeat (first | refine blk_drewN ?_ _ | refine blk_drew ?_ | refine blk_alloc ?_ _)); refine blk_put (cs := #[.int .i64 5, .int .i64 0, .string (⟨#[]⟩ : ByteArray)]) ?_ 2 _ rfl; (with_reducible repeat (first | refine blk_drewN ?_ _ | refine blk_drew ?_ | refine blk_alloc ?_ _)); refine blk_put (cs := #[.int .i64 5, .int .i64 0, .string (⟨#[]⟩ : ByteArray)]) ?_ 1 _ rfl; (with_reducible repeat (first | refine blk_drewN ?_ _ | refine blk_drew ?_ | refine blk_alloc ?_ _)); refine blk_put (cs := #[.int .i64 0, .int .i64 0, .string (⟨#[]⟩ : ByteArray)]) ?_ 0 _ rfl; (with_reducible repeat (first | refine blk_drewN ?_ _ | refine blk_drew ?_ | refine blk_alloc ?_ _)); exact BK127.out) Try.underlying24 rfl (by kernel_rfl)) rfl ?_
          exact ⟨by first | rfl | (simp [errW_none, errW_some] <;> rfl) | (simp only [← hji76]; first | rfl | (simp [errW_none, errW_some] <;> rfl)) | (simp [*, errW_none, errW_some] <;> rfl), bT GE126.out GE127.out⟩
         rw [if_pos c83] at H
         have c83b0 : (x4_1 == 0) = true := beq_iff_eq.mpr c83
         have c83b1 : (x4_1 != 0) = false := bne_eq_false_iff_eq.mpr c83
         clear c83
         simp only [Option.some.injEq, Prod.mk.injEq] at H
         obtain ⟨rfl, rfl, rfl, rfl⟩ := H
         have hnb84 := NB126_127.out
         have hnc84 := NB127_126.out
         obtain ⟨hcz85_0, hcz85_1, hcz85_2⟩ := z3 BK126.out (.int .i64 a0_0) (.int .i64 a0_1) (.string a0_2)
         obtain ⟨hfz85_0, hfz85_1, hfz85_2⟩ := f3 BK126.out
         have p79 : 0 ≤ ((ji76) : Int) := of_decide_eq_true (aA)
         have q79 : (ji76) < (a0_2.size : Int) := of_decide_eq_true (aA)
         have hx79 := bt_at a0_2 (ji76)
         replace p79 := eq_true p79
         replace q79 := eq_true q79
         obtain ⟨hcz86_0, hcz86_1, hcz86_2⟩ := z3 BK127.out (.int .i64 0) (.int .i64 0) (.string (⟨#[]⟩ : ByteArray))
         obtain ⟨hfz86_0, hfz86_1, hfz86_2⟩ := f3 BK127.out
         go_wp2
         refine bodyPost_ret (results_ct rfl _ _ gb127 24 #[.int .i64 0, .int .i64 0, .string (⟨#[]⟩ : ByteArray)] (0, 0) _ rfl (by (with_reducible repeat (first | refine blk_drewN ?_ _ | refine blk_drew ?_ | refine blk_alloc ?_ _)); refine blk_put (cs := #[.int .i64 0, .int .i64 0, .string (⟨#[]⟩ : ByteArray)]) ?_ 2 _ rfl; (with_reducible repeat (first | refine blk_drewN ?_ _ | refine blk_drew ?_ | refine blk_alloc ?_ _)); refine blk_put (cs := #[.int .i64 0, .int .i64 0, .string (⟨#[]⟩ : ByteArray)]) ?_ 1 _ rfl; (with_reducible repeat (first | refine blk_drewN ?_ _ | refine blk_drew ?_ | refine blk_alloc ?_ _)); refine blk_put (cs := #[.int .i64 0, .int .i64 0, .string (⟨#[]⟩ : ByteArray)]) ?_ 0 _ rfl; (with_reducible repeat (first | refine blk_drewN ?_ _ | refine blk_drew ?_ | refine blk_alloc ?_ _)); exact BK127.out) Try.underlying24 rfl (by kernel_rfl)) rfl ?_
         exact ⟨by first | rfl | (simp [errW_none, errW_some] <;> rfl) | (simp only [← hji76]; first | rfl | (simp [errW_none, errW_some] <;> rfl)) | (simp [*, errW_none, errW_some] <;> rfl), bT GE126.out GE127.out⟩
        rw [if_pos c80] at H
        have c80b0 : ((bt a0_2 (ji76)) == 255) = true := beq_iff_eq.mpr c80
        have c80b1 : ((bt a0_2 (ji76)) != 255) = false := bne_eq_false_iff_eq.mpr c80
        clear c80
        have H' := Aside0.mk H
        clear H
        have hnb81 := NB126_127.out
        have hnc81 := NB127_126.out
        obtain ⟨hcz82_0, hcz82_1, hcz82_2⟩ := z3 BK126.out (.int .i64 a0_0) (.int .i64 a0_1) (.string a0_2)
        obtain ⟨hfz82_0, hfz82_1, hfz82_2⟩ := f3 BK126.out
        have p79 : 0 ≤ ((ji76) : Int) := of_decide_eq_true (aA)
        have q79 : (ji76) < (a0_2.size : Int) := of_decide_eq_true (aA)
        have hx79 := bt_at a0_2 (ji76)
        replace p79 := eq_true p79
        replace q79 := eq_true q79
        go_wp2
        go_roundg k1
        case measure => have := HK1.out; omega
        case rel => exact ⟨(ji76), (by first | rfl | (simp; done) | (simp only [← hji76] <;> (first | rfl | simp)) | (simp [*]; done)), H', ⟨by have := HK1.out; omega⟩, ⟨by (with_reducible repeat (first | refine blk_drewN ?_ _ | refine blk_drew ?_ | refine blk_alloc ?_ _)); exact BK126.out⟩, ⟨by (with_reducible repeat (first | refine blk_drewN ?_ _ | refine blk_drew ?_ | refine blk_alloc ?_ _)); exact BK127.out⟩, ⟨bT GE126.out GE127.out⟩⟩
     rw [if_pos c60] at H
     have c60b0 : decide ((a0_2.size : Int) < 64) = true := decide_eq_true c60
     have c60b1 : decide (a0_2.size < 64) = true := decide_eq_true (by omega)
     clear c60
     by_cases c61 : a0_2.size + 1 ≤ 9223372036854775807
     rotate_left
     ·rw [if_neg c61] at H
      exact absurd H (by simp)
     rw [if_pos c61] at H
     have c61b0 := eq_true c61
     have c61b1 : decide (a0_2.size + 1 ≤ 9223372036854775807) = true := decide_eq_true c61
     try have c61b2 : (9223372036854775807 < a0_2.size + 1) = False := eq_false (Nat.not_lt.2 c61)
     simp only [Option.some.injEq, Prod.mk.injEq] at H
     obtain ⟨rfl, rfl, rfl, rfl⟩ := H
     go_enter Try.func27, Try.ntmps27
     go_wp2_with (first | ((with_reducible refine gate_dst (N := 1) rfl ?_); refine box_event ?hg (N := 1) ?hd (cs := #[.int .i64 a0_0, .int .i64 a0_1, .string a0_2]) (t := 24) ?hr ?_; (case hd => rfl); (case hg => rfl); (case hr => exact hR); intro gb126 hg w62 hbox hb; have n0_ := aK (below_step bO hb); have n1_ := aK (hbox); have n2_ := aK ((by rw [hg]; exact (below_size bO) : w.heap.size ≤ gb126)); have n3_ := aK ((by rw [hg]; exact (below_size bO) : w.heap.size ≤ gb126)); clear HB; have HB := n0_; have BK126 := n1_; have GW126 := n2_; have GE126 := n3_; clear n0_ n1_ n2_ n3_ hb hbox hg) | ((with_reducible refine gate_dst (N := 2) rfl ?_); refine box_event ?hg (N := 2) ?hd (cs := #[.int .i64 0, .int .i64 0, .string (⟨#[]⟩ : ByteArray)]) (t := 24) ?hr ?_; (case hd => rfl); (case hg => rfl); (case hr => exact hR); intro gb127 hg w63 hbox hb; have n0_ := aK (blk_below (bX BK126.out) hb); have n1_ := aK (below_step (bS GE126.out) hb); have n2_ := aK (hbox); have n3_ := aK ((by rw [hg]; exact (below_size (bS GE126.out)) : w.heap.size ≤ gb127)); have n4_ := aK ((by rw [hg]; exact (below_size (bS GE126.out)) : w.heap.size ≤ gb127)); have n5_ := aK ((by rw [hg]; exact Nat.ne_of_lt (blk_lt (bX BK126.out)) : gb126 ≠ gb127)); have n6_ := aK ((by rw [hg]; exact Nat.ne_of_gt (blk_lt (bX BK126.out)) : gb127 ≠ gb126)); clear BK126 HB; have BK126 := n0_; have HB := n1_; have BK127 := n2_; have GW127 := n3_; have GE127 := n4_; have NB126_127 := n5_; have NB127_126 := n6_; clear n0_ n1_ n2_ n3_ n4_ n5_ n6_ hb hbox hg; have hnb64 := NB126_127.out; have hnc64 := NB127_126.out; obtain ⟨hcz65_0, hcz65_1, hcz65_2⟩ := z3 BK126.out (.int .i64 a0_0) (.int .i64 a0_1) (.string a0_2); obtain ⟨hfz65_0, hfz65_1, hfz65_2⟩ := f3 BK126.out) | ((with_reducible refine gate_callee (f := 21) rfl ?_); refine gL (some 6) rfl Try.func21 #[.agg #[.int .i64 a0_0, .int .i64 a0_1, .string a0_2]] rfl ?_; (with_reducible refine (v_Valid.calls k a0_0 a0_1 a0_2 true _ A2.out).mono ?_); rintro e w66 ⟨rfl, hb⟩; refine ⟨_, rfl, ?_⟩; have n0_ := aK (blk_below (bX BK126.out) hb); have n1_ := aK (blk_below (bX BK127.out) hb); have n2_ := aK (below_step (bT GE126.out GE127.out) hb); clear BK126 BK127 HB; have BK126 := n0_; have BK127 := n1_; have HB := n2_; clear n0_ n1_ n2_; (try clear hb); obtain ⟨hcz67_0, hcz67_1, hcz67_2⟩ := z3 BK126.out (.int .i64 a0_0) (.int .i64 a0_1) (.string a0_2); obtain ⟨hfz67_0, hfz67_1, hfz67_2⟩ := f3 BK126.out; obtain ⟨hcz68_0, hcz68_1, hcz68_2⟩ := z3 BK127.out (.int .i64 0) (.int .i64 0) (.string (⟨#[]⟩ : ByteArray)); obtain ⟨hfz68_0, hfz68_1, hfz68_2⟩ := f3 BK127.out))
     refine bodyPost_ret (results_ct rfl _ _ gb127 24 #[.int .i64 5, .int .i64 0, .string (a0_2 ++ (⟨#[0]⟩ : ByteArray))] (0, 0) _ rfl (by (with_reducible repeat (first | refine blk_drewN ?_ _ | refine blk_drew ?_ | refine blk_alloc ?_ _)); refine blk_put (cs := #[.int .i64 5, .int .i64 0, .string (⟨#[]⟩ : ByteArray)]) ?_ 2 _ rfl; (with_reducible repeat (first | refine blk_drewN ?_ _ | refine blk_drew ?_ | refine blk_alloc ?_ _)); refine blk_put (cs := #[.int .i64 5, .int .i64 0, .string (⟨#[]⟩ : ByteArray)]) ?_ 1 _ rfl; (with_reducible repeat (first | refine blk_drewN ?_ _ | refine blk_drew ?_ | refine blk_alloc ?_ _)); refine blk_put (cs := #[.int .i64 0, .int .i64 0, .string (⟨#[]⟩ : ByteArray)]) ?_ 0 _ rfl; (with_reducible repeat (first | refine blk_drewN ?_ _ | refine blk_drew ?_ | refine blk_alloc ?_ _)); exact BK127.out) Try.underlying24 rfl (by kernel_rfl)) rfl ?_
     exact ⟨eW, bT GE126.out GE127.out⟩
    rw [if_pos c42] at H
    have c42b0 : (a0_0 == 4) = true := beq_iff_eq.mpr c42
    have c42b1 : (a0_0 != 4) = false := bne_eq_false_iff_eq.mpr c42
    clear c42
    by_cases c43 : a0_1 = 9223372036854775807
    rotate_left
    ·rw [if_neg c43] at H
     have c43b0 : (a0_1 == 9223372036854775807) = false := beq_eq_false_iff_ne.mpr c43
     have c43b1 : (a0_1 != 9223372036854775807) = true := bne_iff_ne.mpr c43
     simp only [Option.some.injEq, Prod.mk.injEq] at H
     obtain ⟨rfl, rfl, rfl, rfl⟩ := H
     go_enter Try.func27, Try.ntmps27
     go_wp2_with (first | ((with_reducible refine gate_dst (N := 1) rfl ?_); refine box_event ?hg (N := 1) ?hd (cs := #[.int .i64 a0_0, .int .i64 a0_1, .string a0_2]) (t := 24) ?hr ?_; (case hd => rfl); (case hg => rfl); (case hr => exact hR); intro gb126 hg w53 hbox hb; have n0_ := aK (below_step bO hb); have n1_ := aK (hbox); have n2_ := aK ((by rw [hg]; exact (below_size bO) : w.heap.size ≤ gb126)); have n3_ := aK ((by rw [hg]; exact (below_size bO) : w.heap.size ≤ gb126)); clear HB; have HB := n0_; have BK126 := n1_; have GW126 := n2_; have GE126 := n3_; clear n0_ n1_ n2_ n3_ hb hbox hg) | ((with_reducible refine gate_dst (N := 2) rfl ?_); refine box_event ?hg (N := 2) ?hd (cs := #[.int .i64 0, .int .i64 0, .string (⟨#[]⟩ : ByteArray)]) (t := 24) ?hr ?_; (case hd => rfl); (case hg => rfl); (case hr => exact hR); intro gb127 hg w54 hbox hb; have n0_ := aK (blk_below (bX BK126.out) hb); have n1_ := aK (below_step (bS GE126.out) hb); have n2_ := aK (hbox); have n3_ := aK ((by rw [hg]; exact (below_size (bS GE126.out)) : w.heap.size ≤ gb127)); have n4_ := aK ((by rw [hg]; exact (below_size (bS GE126.out)) : w.heap.size ≤ gb127)); have n5_ := aK ((by rw [hg]; exact Nat.ne_of_lt (blk_lt (bX BK126.out)) : gb126 ≠ gb127)); have n6_ := aK ((by rw [hg]; exact Nat.ne_of_gt (blk_lt (bX BK126.out)) : gb127 ≠ gb126)); clear BK126 HB; have BK126 := n0_; have HB := n1_; have BK127 := n2_; have GW127 := n3_; have GE127 := n4_; have NB126_127 := n5_; have NB127_126 := n6_; clear n0_ n1_ n2_ n3_ n4_ n5_ n6_ hb hbox hg; have hnb55 := NB126_127.out; have hnc55 := NB127_126.out; obtain ⟨hcz56_0, hcz56_1, hcz56_2⟩ := z3 BK126.out (.int .i64 a0_0) (.int .i64 a0_1) (.string a0_2); obtain ⟨hfz56_0, hfz56_1, hfz56_2⟩ := f3 BK126.out) | ((with_reducible refine gate_callee (f := 21) rfl ?_); refine gL (some 6) rfl Try.func21 #[.agg #[.int .i64 a0_0, .int .i64 a0_1, .string a0_2]] rfl ?_; (with_reducible refine (v_Valid.calls k a0_0 a0_1 a0_2 true _ A2.out).mono ?_); rintro e w57 ⟨rfl, hb⟩; refine ⟨_, rfl, ?_⟩; have n0_ := aK (blk_below (bX BK126.out) hb); have n1_ := aK (blk_below (bX BK127.out) hb); have n2_ := aK (below_step (bT GE126.out GE127.out) hb); clear BK126 BK127 HB; have BK126 := n0_; have BK127 := n1_; have HB := n2_; clear n0_ n1_ n2_; (try clear hb); obtain ⟨hcz58_0, hcz58_1, hcz58_2⟩ := z3 BK126.out (.int .i64 a0_0) (.int .i64 a0_1) (.string a0_2); obtain ⟨hfz58_0, hfz58_1, hfz58_2⟩ := f3 BK126.out; obtain ⟨hcz59_0, hcz59_1, hcz59_2⟩ := z3 BK127.out (.int .i64 0) (.int .i64 0) (.string (⟨#[]⟩ : ByteArray)); obtain ⟨hfz59_0, hfz59_1, hfz59_2⟩ := f3 BK127.out))
     refine bodyPost_ret (results_ct rfl _ _ gb127 24 #[.int .i64 4, .int .i64 (wrap64 (a0_1 + 1)), .string (⟨#[]⟩ : ByteArray)] (0, 0) _ rfl (by (with_reducible repeat (first | refine blk_drewN ?_ _ | refine blk_drew ?_ | refine blk_alloc ?_ _)); refine blk_put (cs := #[.int .i64 4, .int .i64 (wrap64 (a0_1 + 1)), .string (⟨#[]⟩ : ByteArray)]) ?_ 2 _ rfl; (with_reducible repeat (first | refine blk_drewN ?_ _ | refine blk_drew ?_ | refine blk_alloc ?_ _)); refine blk_put (cs := #[.int .i64 4, .int .i64 0, .string (⟨#[]⟩ : ByteArray)]) ?_ 1 _ rfl; (with_reducible repeat (first | refine blk_drewN ?_ _ | refine blk_drew ?_ | refine blk_alloc ?_ _)); refine blk_put (cs := #[.int .i64 0, .int .i64 0, .string (⟨#[]⟩ : ByteArray)]) ?_ 0 _ rfl; (with_reducible repeat (first | refine blk_drewN ?_ _ | refine blk_drew ?_ | refine blk_alloc ?_ _)); exact BK127.out) Try.underlying24 rfl (by kernel_rfl)) rfl ?_
     exact ⟨eW, bT GE126.out GE127.out⟩
    rw [if_pos c43] at H
    have c43b0 : (a0_1 == 9223372036854775807) = true := beq_iff_eq.mpr c43
    have c43b1 : (a0_1 != 9223372036854775807) = false := bne_eq_false_iff_eq.mpr c43
    clear c43
    obtain ⟨⟨t141, t142, t143, t144⟩, A44, H⟩ := oB H
    try dsimp only at H
    simp only [Option.some.injEq, Prod.mk.injEq] at H
    obtain ⟨rfl, rfl, rfl, rfl⟩ := H
    go_enter Try.func27, Try.ntmps27
    go_wp2_with (first | ((with_reducible refine gate_dst (N := 1) rfl ?_); refine box_event ?hg (N := 1) ?hd (cs := #[.int .i64 a0_0, .int .i64 a0_1, .string a0_2]) (t := 24) ?hr ?_; (case hd => rfl); (case hg => rfl); (case hr => exact hR); intro gb126 hg w45 hbox hb; have n0_ := aK (below_step bO hb); have n1_ := aK (hbox); have n2_ := aK ((by rw [hg]; exact (below_size bO) : w.heap.size ≤ gb126)); have n3_ := aK ((by rw [hg]; exact (below_size bO) : w.heap.size ≤ gb126)); clear HB; have HB := n0_; have BK126 := n1_; have GW126 := n2_; have GE126 := n3_; clear n0_ n1_ n2_ n3_ hb hbox hg) | ((with_reducible refine gate_dst (N := 2) rfl ?_); refine box_event ?hg (N := 2) ?hd (cs := #[.int .i64 0, .int .i64 0, .string (⟨#[]⟩ : ByteArray)]) (t := 24) ?hr ?_; (case hd => rfl); (case hg => rfl); (case hr => exact hR); intro gb127 hg w46 hbox hb; have n0_ := aK (blk_below (bX BK126.out) hb); have n1_ := aK (below_step (bS GE126.out) hb); have n2_ := aK (hbox); have n3_ := aK ((by rw [hg]; exact (below_size (bS GE126.out)) : w.heap.size ≤ gb127)); have n4_ := aK ((by rw [hg]; exact (below_size (bS GE126.out)) : w.heap.size ≤ gb127)); have n5_ := aK ((by rw [hg]; exact Nat.ne_of_lt (blk_lt (bX BK126.out)) : gb126 ≠ gb127)); have n6_ := aK ((by rw [hg]; exact Nat.ne_of_gt (blk_lt (bX BK126.out)) : gb127 ≠ gb126)); clear BK126 HB; have BK126 := n0_; have HB := n1_; have BK127 := n2_; have GW127 := n3_; have GE127 := n4_; have NB126_127 := n5_; have NB127_126 := n6_; clear n0_ n1_ n2_ n3_ n4_ n5_ n6_ hb hbox hg; have hnb47 := NB126_127.out; have hnc47 := NB127_126.out; obtain ⟨hcz48_0, hcz48_1, hcz48_2⟩ := z3 BK126.out (.int .i64 a0_0) (.int .i64 a0_1) (.string a0_2); obtain ⟨hfz48_0, hfz48_1, hfz48_2⟩ := f3 BK126.out) | ((with_reducible refine gate_callee (f := 21) rfl ?_); refine gL (some 6) rfl Try.func21 #[.agg #[.int .i64 a0_0, .int .i64 a0_1, .string a0_2]] rfl ?_; (with_reducible refine (v_Valid.calls k a0_0 a0_1 a0_2 true _ A2.out).mono ?_); rintro e w49 ⟨rfl, hb⟩; refine ⟨_, rfl, ?_⟩; have n0_ := aK (blk_below (bX BK126.out) hb); have n1_ := aK (blk_below (bX BK127.out) hb); have n2_ := aK (below_step (bT GE126.out GE127.out) hb); clear BK126 BK127 HB; have BK126 := n0_; have BK127 := n1_; have HB := n2_; clear n0_ n1_ n2_; (try clear hb); obtain ⟨hcz50_0, hcz50_1, hcz50_2⟩ := z3 BK126.out (.int .i64 a0_0) (.int .i64 a0_1) (.string a0_2); obtain ⟨hfz50_0, hfz50_1, hfz50_2⟩ := f3 BK126.out) | ((with_reducible refine gate_callee (f := 49) rfl ?_); refine gL (some 35) rfl Try.func49 #[.int .i64 5] rfl ?_; (with_reducible refine (v_First.calls k 5 t141 t142 t143 t144 _ A44.out).mono ?_); rintro e w51 ⟨rfl, hb⟩; refine ⟨_, rfl, ?_⟩; have n0_ := aK (blk_below (bX BK126.out) hb); have n1_ := aK (blk_below (bX BK127.out) hb); have n2_ := aK (below_step (bT GE126.out GE127.out) hb); clear BK126 BK127 HB; have BK126 := n0_; have BK127 := n1_; have HB := n2_; clear n0_ n1_ n2_; (try clear hb); obtain ⟨hcz52_0, hcz52_1, hcz52_2⟩ := z3 BK127.out (.int .i64 0) (.int .i64 0) (.string (⟨#[]⟩ : ByteArray)); obtain ⟨hfz52_0, hfz52_1, hfz52_2⟩ := f3 BK127.out))
    refine bodyPost_ret (results_ct rfl _ _ gb127 24 #[.int .i64 t141, .int .i64 t142, .string t143] (0, 0) _ rfl (by (with_reducible repeat (first | refine blk_drewN ?_ _ | refine blk_drew ?_ | refine blk_alloc ?_ _)); refine blk_put (cs := #[.int .i64 t141, .int .i64 t142, .string (⟨#[]⟩ : ByteArray)]) ?_ 2 _ rfl; (with_reducible repeat (first | refine blk_drewN ?_ _ | refine blk_drew ?_ | refine blk_alloc ?_ _)); refine blk_put (cs := #[.int .i64 t141, .int .i64 0, .string (⟨#[]⟩ : ByteArray)]) ?_ 1 _ rfl; (with_reducible repeat (first | refine blk_drewN ?_ _ | refine blk_drew ?_ | refine blk_alloc ?_ _)); refine blk_put (cs := #[.int .i64 0, .int .i64 0, .string (⟨#[]⟩ : ByteArray)]) ?_ 0 _ rfl; (with_reducible repeat (first | refine blk_drewN ?_ _ | refine blk_drew ?_ | refine blk_alloc ?_ _)); exact BK127.out) Try.underlying24 rfl (by kernel_rfl)) rfl ?_
    exact ⟨eW, bT GE126.out GE127.out⟩
   rw [if_pos c24] at H
   have c24b0 : (a0_0 == 3) = true := beq_iff_eq.mpr c24
   have c24b1 : (a0_0 != 3) = false := bne_eq_false_iff_eq.mpr c24
   clear c24
   by_cases c25 : a0_1 = 0
   rotate_left
   ·rw [if_neg c25] at H
    have c25b0 : (a0_1 == 0) = false := beq_eq_false_iff_ne.mpr c25
    have c25b1 : (a0_1 != 0) = true := bne_iff_ne.mpr c25
    obtain ⟨⟨t137, t138, t139, t140⟩, A33, H⟩ := oB H
    try dsimp only at H
    simp only [Option.some.injEq, Prod.mk.injEq] at H
    obtain ⟨rfl, rfl, rfl, rfl⟩ := H
    go_enter Try.func27, Try.ntmps27
    go_wp2_with (first | ((with_reducible refine gate_dst (N := 1) rfl ?_); refine box_event ?hg (N := 1) ?hd (cs := #[.int .i64 a0_0, .int .i64 a0_1, .string a0_2]) (t := 24) ?hr ?_; (case hd => rfl); (case hg => rfl); (case hr => exact hR); intro gb126 hg w34 hbox hb; have n0_ := aK (below_step bO hb); have n1_ := aK (hbox); have n2_ := aK ((by rw [hg]; exact (below_size bO) : w.heap.size ≤ gb126)); have n3_ := aK ((by rw [hg]; exact (below_size bO) : w.heap.size ≤ gb126)); clear HB; have HB := n0_; have BK126 := n1_; have GW126 := n2_; have GE126 := n3_; clear n0_ n1_ n2_ n3_ hb hbox hg) | ((with_reducible refine gate_dst (N := 2) rfl ?_); refine box_event ?hg (N := 2) ?hd (cs := #[.int .i64 0, .int .i64 0, .string (⟨#[]⟩ : ByteArray)]) (t := 24) ?hr ?_; (case hd => rfl); (case hg => rfl); (case hr => exact hR); intro gb127 hg w35 hbox hb; have n0_ := aK (blk_below (bX BK126.out) hb); have n1_ := aK (below_step (bS GE126.out) hb); have n2_ := aK (hbox); have n3_ := aK ((by rw [hg]; exact (below_size (bS GE126.out)) : w.heap.size ≤ gb127)); have n4_ := aK ((by rw [hg]; exact (below_size (bS GE126.out)) : w.heap.size ≤ gb127)); have n5_ := aK ((by rw [hg]; exact Nat.ne_of_lt (blk_lt (bX BK126.out)) : gb126 ≠ gb127)); have n6_ := aK ((by rw [hg]; exact Nat.ne_of_gt (blk_lt (bX BK126.out)) : gb127 ≠ gb126)); clear BK126 HB; have BK126 := n0_; have HB := n1_; have BK127 := n2_; have GW127 := n3_; have GE127 := n4_; have NB126_127 := n5_; have NB127_126 := n6_; clear n0_ n1_ n2_ n3_ n4_ n5_ n6_ hb hbox hg; have hnb36 := NB126_127.out; have hnc36 := NB127_126.out; obtain ⟨hcz37_0, hcz37_1, hcz37_2⟩ := z3 BK126.out (.int .i64 a0_0) (.int .i64 a0_1) (.string a0_2); obtain ⟨hfz37_0, hfz37_1, hfz37_2⟩ := f3 BK126.out) | ((with_reducible refine gate_callee (f := 21) rfl ?_); refine gL (some 6) rfl Try.func21 #[.agg #[.int .i64 a0_0, .int .i64 a0_1, .string a0_2]] rfl ?_; (with_reducible refine (v_Valid.calls k a0_0 a0_1 a0_2 true _ A2.out).mono ?_); rintro e w38 ⟨rfl, hb⟩; refine ⟨_, rfl, ?_⟩; have n0_ := aK (blk_below (bX BK126.out) hb); have n1_ := aK (blk_below (bX BK127.out) hb); have n2_ := aK (below_step (bT GE126.out GE127.out) hb); clear BK126 BK127 HB; have BK126 := n0_; have BK127 := n1_; have HB := n2_; clear n0_ n1_ n2_; (try clear hb); obtain ⟨hcz39_0, hcz39_1, hcz39_2⟩ := z3 BK126.out (.int .i64 a0_0) (.int .i64 a0_1) (.string a0_2); obtain ⟨hfz39_0, hfz39_1, hfz39_2⟩ := f3 BK126.out) | ((with_reducible refine gate_callee (f := 49) rfl ?_); refine gL (some 27) rfl Try.func49 #[.int .i64 4] rfl ?_; (with_reducible refine (v_First.calls k 4 t137 t138 t139 t140 _ A33.out).mono ?_); rintro e w40 ⟨rfl, hb⟩; refine ⟨_, rfl, ?_⟩; have n0_ := aK (blk_below (bX BK126.out) hb); have n1_ := aK (blk_below (bX BK127.out) hb); have n2_ := aK (below_step (bT GE126.out GE127.out) hb); clear BK126 BK127 HB; have BK126 := n0_; have BK127 := n1_; have HB := n2_; clear n0_ n1_ n2_; (try clear hb); obtain ⟨hcz41_0, hcz41_1, hcz41_2⟩ := z3 BK127.out (.int .i64 0) (.int .i64 0) (.string (⟨#[]⟩ : ByteArray)); obtain ⟨hfz41_0, hfz41_1, hfz41_2⟩ := f3 BK127.out))
    refine bodyPost_ret (results_ct rfl _ _ gb127 24 #[.int .i64 t137, .int .i64 t138, .string t139] (0, 0) _ rfl (by (with_reducible repeat (first | refine blk_drewN ?_ _ | refine blk_drew ?_ | refine blk_alloc ?_ _)); refine blk_put (cs := #[.int .i64 t137, .int .i64 t138, .string (⟨#[]⟩ : ByteArray)]) ?_ 2 _ rfl; (with_reducible repeat (first | refine blk_drewN ?_ _ | refine blk_drew ?_ | refine blk_alloc ?_ _)); refine blk_put (cs := #[.int .i64 t137, .int .i64 0, .string (⟨#[]⟩ : ByteArray)]) ?_ 1 _ rfl; (with_reducible repeat (first | refine blk_drewN ?_ _ | refine blk_drew ?_ | refine blk_alloc ?_ _)); refine blk_put (cs := #[.int .i64 0, .int .i64 0, .string (⟨#[]⟩ : ByteArray)]) ?_ 0 _ rfl; (with_reducible repeat (first | refine blk_drewN ?_ _ | refine blk_drew ?_ | refine blk_alloc ?_ _)); exact BK127.out) Try.underlying24 rfl (by kernel_rfl)) rfl ?_
    exact ⟨eW, bT GE126.out GE127.out⟩
   rw [if_pos c25] at H
   have c25b0 : (a0_1 == 0) = true := beq_iff_eq.mpr c25
   have c25b1 : (a0_1 != 0) = false := bne_eq_false_iff_eq.mpr c25
   clear c25
   simp only [Option.some.injEq, Prod.mk.injEq] at H
   obtain ⟨rfl, rfl, rfl, rfl⟩ := H
   go_enter Try.func27, Try.ntmps27
   go_wp2_with (first | ((with_reducible refine gate_dst (N := 1) rfl ?_); refine box_event ?hg (N := 1) ?hd (cs := #[.int .i64 a0_0, .int .i64 a0_1, .string a0_2]) (t := 24) ?hr ?_; (case hd => rfl); (case hg => rfl); (case hr => exact hR); intro gb126 hg w26 hbox hb; have n0_ := aK (below_step bO hb); have n1_ := aK (hbox); have n2_ := aK ((by rw [hg]; exact (below_size bO) : w.heap.size ≤ gb126)); have n3_ := aK ((by rw [hg]; exact (below_size bO) : w.heap.size ≤ gb126)); clear HB; have HB := n0_; have BK126 := n1_; have GW126 := n2_; have GE126 := n3_; clear n0_ n1_ n2_ n3_ hb hbox hg) | ((with_reducible refine gate_dst (N := 2) rfl ?_); refine box_event ?hg (N := 2) ?hd (cs := #[.int .i64 0, .int .i64 0, .string (⟨#[]⟩ : ByteArray)]) (t := 24) ?hr ?_; (case hd => rfl); (case hg => rfl); (case hr => exact hR); intro gb127 hg w27 hbox hb; have n0_ := aK (blk_below (bX BK126.out) hb); have n1_ := aK (below_step (bS GE126.out) hb); have n2_ := aK (hbox); have n3_ := aK ((by rw [hg]; exact (below_size (bS GE126.out)) : w.heap.size ≤ gb127)); have n4_ := aK ((by rw [hg]; exact (below_size (bS GE126.out)) : w.heap.size ≤ gb127)); have n5_ := aK ((by rw [hg]; exact Nat.ne_of_lt (blk_lt (bX BK126.out)) : gb126 ≠ gb127)); have n6_ := aK ((by rw [hg]; exact Nat.ne_of_gt (blk_lt (bX BK126.out)) : gb127 ≠ gb126)); clear BK126 HB; have BK126 := n0_; have HB := n1_; have BK127 := n2_; have GW127 := n3_; have GE127 := n4_; have NB126_127 := n5_; have NB127_126 := n6_; clear n0_ n1_ n2_ n3_ n4_ n5_ n6_ hb hbox hg; have hnb28 := NB126_127.out; have hnc28 := NB127_126.out; obtain ⟨hcz29_0, hcz29_1, hcz29_2⟩ := z3 BK126.out (.int .i64 a0_0) (.int .i64 a0_1) (.string a0_2); obtain ⟨hfz29_0, hfz29_1, hfz29_2⟩ := f3 BK126.out) | ((with_reducible refine gate_callee (f := 21) rfl ?_); refine gL (some 6) rfl Try.func21 #[.agg #[.int .i64 a0_0, .int .i64 a0_1, .string a0_2]] rfl ?_; (with_reducible refine (v_Valid.calls k a0_0 a0_1 a0_2 true _ A2.out).mono ?_); rintro e w30 ⟨rfl, hb⟩; refine ⟨_, rfl, ?_⟩; have n0_ := aK (blk_below (bX BK126.out) hb); have n1_ := aK (blk_below (bX BK127.out) hb); have n2_ := aK (below_step (bT GE126.out GE127.out) hb); clear BK126 BK127 HB; have BK126 := n0_; have BK127 := n1_; have HB := n2_; clear n0_ n1_ n2_; (try clear hb); obtain ⟨hcz31_0, hcz31_1, hcz31_2⟩ := z3 BK126.out (.int .i64 a0_0) (.int .i64 a0_1) (.string a0_2); obtain ⟨hfz31_0, hfz31_1, hfz31_2⟩ := f3 BK126.out; obtain ⟨hcz32_0, hcz32_1, hcz32_2⟩ := z3 BK127.out (.int .i64 0) (.int .i64 0) (.string (⟨#[]⟩ : ByteArray)); obtain ⟨hfz32_0, hfz32_1, hfz32_2⟩ := f3 BK127.out))
   refine bodyPost_ret (results_ct rfl _ _ gb127 24 #[.int .i64 3, .int .i64 1, .string (⟨#[]⟩ : ByteArray)] (0, 0) _ rfl (by (with_reducible repeat (first | refine blk_drewN ?_ _ | refine blk_drew ?_ | refine blk_alloc ?_ _)); refine blk_put (cs := #[.int .i64 3, .int .i64 1, .string (⟨#[]⟩ : ByteArray)]) ?_ 2 _ rfl; (with_reducible repeat (first | refine blk_drewN ?_ _ | refine blk_drew ?_ | refine blk_alloc ?_ _)); refine blk_put (cs := #[.int .i64 3, .int .i64 0, .string (⟨#[]⟩ : ByteArray)]) ?_ 1 _ rfl; (with_reducible repeat (first | refine blk_drewN ?_ _ | refine blk_drew ?_ | refine blk_alloc ?_ _)); refine blk_put (cs := #[.int .i64 0, .int .i64 0, .string (⟨#[]⟩ : ByteArray)]) ?_ 0 _ rfl; (with_reducible repeat (first | refine blk_drewN ?_ _ | refine blk_drew ?_ | refine blk_alloc ?_ _)); exact BK127.out) Try.underlying24 rfl (by kernel_rfl)) rfl ?_
   exact ⟨eW, bT GE126.out GE127.out⟩
  rw [if_pos c14] at H
  have c14b0 : (a0_0 == 2) = true := beq_iff_eq.mpr c14
  have c14b1 : (a0_0 != 2) = false := bne_eq_false_iff_eq.mpr c14
  clear c14
  obtain ⟨⟨t133, t134, t135, t136⟩, A15, H⟩ := oB H
  try dsimp only at H
  simp only [Option.some.injEq, Prod.mk.injEq] at H
  obtain ⟨rfl, rfl, rfl, rfl⟩ := H
  go_enter Try.func27, Try.ntmps27
  go_wp2_with (first | ((with_reducible refine gate_dst (N := 1) rfl ?_); refine box_event ?hg (N := 1) ?hd (cs := #[.int .i64 a0_0, .int .i64 a0_1, .string a0_2]) (t := 24) ?hr ?_; (case hd => rfl); (case hg => rfl); (case hr => exact hR); intro gb126 hg w16 hbox hb; have n0_ := aK (below_step bO hb); have n1_ := aK (hbox); have n2_ := aK ((by rw [hg]; exact (below_size bO) : w.heap.size ≤ gb126)); have n3_ := aK ((by rw [hg]; exact (below_size bO) : w.heap.size ≤ gb126)); clear HB; have HB := n0_; have BK126 := n1_; have GW126 := n2_; have GE126 := n3_; clear n0_ n1_ n2_ n3_ hb hbox hg) | ((with_reducible refine gate_dst (N := 2) rfl ?_); refine box_event ?hg (N := 2) ?hd (cs := #[.int .i64 0, .int .i64 0, .string (⟨#[]⟩ : ByteArray)]) (t := 24) ?hr ?_; (case hd => rfl); (case hg => rfl); (case hr => exact hR); intro gb127 hg w17 hbox hb; have n0_ := aK (blk_below (bX BK126.out) hb); have n1_ := aK (below_step (bS GE126.out) hb); have n2_ := aK (hbox); have n3_ := aK ((by rw [hg]; exact (below_size (bS GE126.out)) : w.heap.size ≤ gb127)); have n4_ := aK ((by rw [hg]; exact (below_size (bS GE126.out)) : w.heap.size ≤ gb127)); have n5_ := aK ((by rw [hg]; exact Nat.ne_of_lt (blk_lt (bX BK126.out)) : gb126 ≠ gb127)); have n6_ := aK ((by rw [hg]; exact Nat.ne_of_gt (blk_lt (bX BK126.out)) : gb127 ≠ gb126)); clear BK126 HB; have BK126 := n0_; have HB := n1_; have BK127 := n2_; have GW127 := n3_; have GE127 := n4_; have NB126_127 := n5_; have NB127_126 := n6_; clear n0_ n1_ n2_ n3_ n4_ n5_ n6_ hb hbox hg; have hnb18 := NB126_127.out; have hnc18 := NB127_126.out; obtain ⟨hcz19_0, hcz19_1, hcz19_2⟩ := z3 BK126.out (.int .i64 a0_0) (.int .i64 a0_1) (.string a0_2); obtain ⟨hfz19_0, hfz19_1, hfz19_2⟩ := f3 BK126.out) | ((with_reducible refine gate_callee (f := 21) rfl ?_); refine gL (some 6) rfl Try.func21 #[.agg #[.int .i64 a0_0, .int .i64 a0_1, .string a0_2]] rfl ?_; (with_reducible refine (v_Valid.calls k a0_0 a0_1 a0_2 true _ A2.out).mono ?_); rintro e w20 ⟨rfl, hb⟩; refine ⟨_, rfl, ?_⟩; have n0_ := aK (blk_below (bX BK126.out) hb); have n1_ := aK (blk_below (bX BK127.out) hb); have n2_ := aK (below_step (bT GE126.out GE127.out) hb); clear BK126 BK127 HB; have BK126 := n0_; have BK127 := n1_; have HB := n2_; clear n0_ n1_ n2_; (try clear hb); obtain ⟨hcz21_0, hcz21_1, hcz21_2⟩ := z3 BK126.out (.int .i64 a0_0) (.int .i64 a0_1) (.string a0_2); obtain ⟨hfz21_0, hfz21_1, hfz21_2⟩ := f3 BK126.out) | ((with_reducible refine gate_callee (f := 49) rfl ?_); refine gL (some 18) rfl Try.func49 #[.int .i64 3] rfl ?_; (with_reducible refine (v_First.calls k 3 t133 t134 t135 t136 _ A15.out).mono ?_); rintro e w22 ⟨rfl, hb⟩; refine ⟨_, rfl, ?_⟩; have n0_ := aK (blk_below (bX BK126.out) hb); have n1_ := aK (blk_below (bX BK127.out) hb); have n2_ := aK (below_step (bT GE126.out GE127.out) hb); clear BK126 BK127 HB; have BK126 := n0_; have BK127 := n1_; have HB := n2_; clear n0_ n1_ n2_; (try clear hb); obtain ⟨hcz23_0, hcz23_1, hcz23_2⟩ := z3 BK127.out (.int .i64 0) (.int .i64 0) (.string (⟨#[]⟩ : ByteArray)); obtain ⟨hfz23_0, hfz23_1, hfz23_2⟩ := f3 BK127.out))
  refine bodyPost_ret (results_ct rfl _ _ gb127 24 #[.int .i64 t133, .int .i64 t134, .string t135] (0, 0) _ rfl (by (with_reducible repeat (first | refine blk_drewN ?_ _ | refine blk_drew ?_ | refine blk_alloc ?_ _)); refine blk_put (cs := #[.int .i64 t133, .int .i64 t134, .string (⟨#[]⟩ : ByteArray)]) ?_ 2 _ rfl; (with_reducible repeat (first | refine blk_drewN ?_ _ | refine blk_drew ?_ | refine blk_alloc ?_ _)); refine blk_put (cs := #[.int .i64 t133, .int .i64 0, .string (⟨#[]⟩ : ByteArray)]) ?_ 1 _ rfl; (with_reducible repeat (first | refine blk_drewN ?_ _ | refine blk_drew ?_ | refine blk_alloc ?_ _)); refine blk_put (cs := #[.int .i64 0, .int .i64 0, .string (⟨#[]⟩ : ByteArray)]) ?_ 0 _ rfl; (with_reducible repeat (first | refine blk_drewN ?_ _ | refine blk_drew ?_ | refine blk_alloc ?_ _)); exact BK127.out) Try.underlying24 rfl (by kernel_rfl)) rfl ?_
  exact ⟨eW, bT GE126.out GE127.out⟩
 rw [if_pos c4] at H
 have c4b0 : (a0_0 == 1) = true := beq_iff_eq.mpr c4
 have c4b1 : (a0_0 != 1) = false := bne_eq_false_iff_eq.mpr c4
 clear c4
 obtain ⟨⟨t129, t130, t131, t132⟩, A5, H⟩ := oB H
 try dsimp only at H
 simp only [Option.some.injEq, Prod.mk.injEq] at H
 obtain ⟨rfl, rfl, rfl, rfl⟩ := H
 go_enter Try.func27, Try.ntmps27
 go_wp2_with (first | ((with_reducible refine gate_dst (N := 1) rfl ?_); refine box_event ?hg (N := 1) ?hd (cs := #[.int .i64 a0_0, .int .i64 a0_1, .string a0_2]) (t := 24) ?hr ?_; (case hd => rfl); (case hg => rfl); (case hr => exact hR); intro gb126 hg w6 hbox hb; have n0_ := aK (below_step bO hb); have n1_ := aK (hbox); have n2_ := aK ((by rw [hg]; exact (below_size bO) : w.heap.size ≤ gb126)); have n3_ := aK ((by rw [hg]; exact (below_size bO) : w.heap.size ≤ gb126)); clear HB; have HB := n0_; have BK126 := n1_; have GW126 := n2_; have GE126 := n3_; clear n0_ n1_ n2_ n3_ hb hbox hg) | ((with_reducible refine gate_dst (N := 2) rfl ?_); refine box_event ?hg (N := 2) ?hd (cs := #[.int .i64 0, .int .i64 0, .string (⟨#[]⟩ : ByteArray)]) (t := 24) ?hr ?_; (case hd => rfl); (case hg => rfl); (case hr => exact hR); intro gb127 hg w7 hbox hb; have n0_ := aK (blk_below (bX BK126.out) hb); have n1_ := aK (below_step (bS GE126.out) hb); have n2_ := aK (hbox); have n3_ := aK ((by rw [hg]; exact (below_size (bS GE126.out)) : w.heap.size ≤ gb127)); have n4_ := aK ((by rw [hg]; exact (below_size (bS GE126.out)) : w.heap.size ≤ gb127)); have n5_ := aK ((by rw [hg]; exact Nat.ne_of_lt (blk_lt (bX BK126.out)) : gb126 ≠ gb127)); have n6_ := aK ((by rw [hg]; exact Nat.ne_of_gt (blk_lt (bX BK126.out)) : gb127 ≠ gb126)); clear BK126 HB; have BK126 := n0_; have HB := n1_; have BK127 := n2_; have GW127 := n3_; have GE127 := n4_; have NB126_127 := n5_; have NB127_126 := n6_; clear n0_ n1_ n2_ n3_ n4_ n5_ n6_ hb hbox hg; have hnb8 := NB126_127.out; have hnc8 := NB127_126.out; obtain ⟨hcz9_0, hcz9_1, hcz9_2⟩ := z3 BK126.out (.int .i64 a0_0) (.int .i64 a0_1) (.string a0_2); obtain ⟨hfz9_0, hfz9_1, hfz9_2⟩ := f3 BK126.out) | ((with_reducible refine gate_callee (f := 21) rfl ?_); refine gL (some 6) rfl Try.func21 #[.agg #[.int .i64 a0_0, .int .i64 a0_1, .string a0_2]] rfl ?_; (with_reducible refine (v_Valid.calls k a0_0 a0_1 a0_2 true _ A2.out).mono ?_); rintro e w10 ⟨rfl, hb⟩; refine ⟨_, rfl, ?_⟩; have n0_ := aK (blk_below (bX BK126.out) hb); have n1_ := aK (blk_below (bX BK127.out) hb); have n2_ := aK (below_step (bT GE126.out GE127.out) hb); clear BK126 BK127 HB; have BK126 := n0_; have BK127 := n1_; have HB := n2_; clear n0_ n1_ n2_; (try clear hb); obtain ⟨hcz11_0, hcz11_1, hcz11_2⟩ := z3 BK126.out (.int .i64 a0_0) (.int .i64 a0_1) (.string a0_2); obtain ⟨hfz11_0, hfz11_1, hfz11_2⟩ := f3 BK126.out) | ((with_reducible refine gate_callee (f := 49) rfl ?_); refine gL (some 13) rfl Try.func49 #[.int .i64 2] rfl ?_; (with_reducible refine (v_First.calls k 2 t129 t130 t131 t132 _ A5.out).mono ?_); rintro e w12 ⟨rfl, hb⟩; refine ⟨_, rfl, ?_⟩; have n0_ := aK (blk_below (bX BK126.out) hb); have n1_ := aK (blk_below (bX BK127.out) hb); have n2_ := aK (below_step (bT GE126.out GE127.out) hb); clear BK126 BK127 HB; have BK126 := n0_; have BK127 := n1_; have HB := n2_; clear n0_ n1_ n2_; (try clear hb); obtain ⟨hcz13_0, hcz13_1, hcz13_2⟩ := z3 BK127.out (.int .i64 0) (.int .i64 0) (.string (⟨#[]⟩ : ByteArray)); obtain ⟨hfz13_0, hfz13_1, hfz13_2⟩ := f3 BK127.out))
 refine bodyPost_ret (results_ct rfl _ _ gb127 24 #[.int .i64 t129, .int .i64 t130, .string t131] (0, 0) _ rfl (by (with_reducible repeat (first | refine blk_drewN ?_ _ | refine blk_drew ?_ | refine blk_alloc ?_ _)); refine blk_put (cs := #[.int .i64 t129, .int .i64 t130, .string (⟨#[]⟩ : ByteArray)]) ?_ 2 _ rfl; (with_reducible repeat (first | refine blk_drewN ?_ _ | refine blk_drew ?_ | refine blk_alloc ?_ _)); refine blk_put (cs := #[.int .i64 t129, .int .i64 0, .string (⟨#[]⟩ : ByteArray)]) ?_ 1 _ rfl; (with_reducible repeat (first | refine blk_drewN ?_ _ | refine blk_drew ?_ | refine blk_alloc ?_ _)); refine blk_put (cs := #[.int .i64 0, .int .i64 0, .string (⟨#[]⟩ : ByteArray)]) ?_ 0 _ rfl; (with_reducible repeat (first | refine blk_drewN ?_ _ | refine blk_drew ?_ | refine blk_alloc ?_ _)); exact BK127.out) Try.underlying24 rfl (by kernel_rfl)) rfl ?_
 exact ⟨eW, bT GE126.out GE127.out⟩
end Go.Proofs.Ytpjcdacnhalclaa.Q
namespace Go.Proofs.Ytpjcdacnhalclaa.Q
open Go.RowKit Go.Proofs.YtpjcdacnhalclaaW.PrintWords Go.Proofs.YtpjcdacnhalclaaW.PrintLast Go.Proofs.YtpjcdacnhalclaaW.PrintMore
attribute [local go_sem] max2_int min2_int max_two min_two max_three min_three max_four min_four
attribute [local go_sem high] eqA24
structure BG (B : Nat) (w w' : World) : Prop extends Below B w w' where
 drawn : w.drawn ≤ w'.drawn
theorem BG.refl (B : Nat) (w : World) : BG B w w := ⟨Below.refl B w, Nat.le_refl _⟩
theorem BG.trans {B : Nat} {a b c : World} (h : BG B a b) (k : BG B b c) : BG B a c := ⟨h.toBelow.trans k.toBelow, Nat.le_trans h.drawn k.drawn⟩
theorem bg_alloc {a w : World} (h : BG a.heap.size a w) (o : Obj) : BG a.heap.size a (w.alloc o) := ⟨below_alloc h.toBelow o, h.drawn⟩
theorem bg_step {w W w2 : World} (h : BG w.heap.size w W) (k : BG W.heap.size W w2) : BG w.heap.size w w2 := ⟨below_step h.toBelow k.toBelow, Nat.le_trans h.drawn k.drawn⟩
theorem bg_drewN {B : Nat} {a w : World} (h : BG B a w) (m : Nat) : BG B a (w.drewN m) := ⟨pw_below_drewN h.toBelow m, Nat.le_trans h.drawn (Nat.le_add_right _ _)⟩
theorem bg_drew1 {B : Nat} {a w : World} (h : BG B a w) : BG B a w.drew := ⟨below_drew1 h.toBelow, Nat.le_trans h.drawn (Nat.le_add_right _ _)⟩
theorem bg2 (w : World) (o p : Obj) : BG w.heap.size w ((w.alloc o).alloc p) := ⟨((Below.refl _ _).alloc (Nat.le_refl _) _).alloc (by simp) _, Nat.le_refl _⟩
def v_Compare.f (a0_0 : Int) (a0_1 : Int) (a0_2 : ByteArray) (a1_0 : Int) (a1_1 : Int) (a1_2 : ByteArray) : Option (Int) := if (a0_0 == a1_0 && (a0_1 == a1_1 && (a0_2.toList == a1_2.toList))) = true then (some 0) else (if a0_0 = a1_0 then (if a0_1 = a1_1 then (if (Op.bytesLess a0_2.toList a1_2.toList) = true then (some (-1)) else (some 1)) else (if a0_1 < a1_1 then (some (-1)) else (some 1))) else (if a0_0 < a1_0 then (some (-1)) else (some 1)))
set_option maxHeartbeats 400000 in
theorem v_Compare.callsG (a0_0 : Int) (a0_1 : Int) (a0_2 : ByteArray) (a1_0 : Int) (a1_1 : Int) (a1_2 : ByteArray) (r : Int) (w : World) (h : v_Compare.f a0_0 a0_1 a0_2 a1_0 a1_1 a1_2 = some r) :
  Calls Try.prog 25 #[.agg #[.int .i64 a0_0, .int .i64 a0_1, .string a0_2], .agg #[.int .i64 a1_0, .int .i64 a1_1, .string a1_2]] w fun e w' => e = .returned (.int .i64 r) ∧ BG w.heap.size w w' := by
 have hu24 := Try.underlying24
 unfold v_Compare.f at h
 by_cases c3 : (a0_0 == a1_0 && (a0_1 == a1_1 && (a0_2.toList == a1_2.toList))) = true
 rotate_left
 ·rw [if_neg c3] at h
  have c3b : (a0_0 == a1_0 && (a0_1 == a1_1 && (a0_2.toList == a1_2.toList))) = false := by simpa using c3
  by_cases c9 : a0_0 = a1_0
  rotate_left
  ·rw [if_neg c9] at h
   have k1 : (a0_0 != a1_0) = true := bne_iff_ne.mpr c9
   clear c3
   by_cases c11 : a0_0 < a1_0
   rotate_left
   ·rw [if_neg c11] at h; cases h
    go_enter Try.func25, Try.ntmps25
    go_wp2
    go_ret
    exact ⟨rfl, bg2 _ _ _⟩
   rw [if_pos c11] at h; cases h
   go_enter Try.func25, Try.ntmps25
   go_wp2
   go_ret
   exact ⟨rfl, bg2 _ _ _⟩
  rw [if_pos c9] at h
  have k1 : (a0_0 != a1_0) = false := bne_eq_false_iff_eq.mpr c9
  by_cases c10 : a0_1 = a1_1
  rotate_left
  ·rw [if_neg c10] at h
   have k2 : (a0_1 != a1_1) = true := bne_iff_ne.mpr c10
   clear c3 c9
   by_cases c11 : a0_1 < a1_1
   rotate_left
   ·rw [if_neg c11] at h; cases h
    go_enter Try.func25, Try.ntmps25
    go_wp2
    go_ret
    exact ⟨rfl, bg2 _ _ _⟩
   rw [if_pos c11] at h; cases h
   go_enter Try.func25, Try.ntmps25
   go_wp2
   go_ret
   exact ⟨rfl, bg2 _ _ _⟩
  rw [if_pos c10] at h
  have k2 : (a0_1 != a1_1) = false := bne_eq_false_iff_eq.mpr c10
  have k3 : (a0_2.toList == a1_2.toList) = false := by subst c9 c10; simpa using c3b
  clear c3 c9 c10
  cases hb : Op.bytesLess a0_2.toList a1_2.toList
  all_goals
   rw [hb] at h; cases h
   go_enter Try.func25, Try.ntmps25
   go_wp2
   go_ret
   exact ⟨rfl, bg2 _ _ _⟩
 rw [if_pos c3] at h
 cases h
 go_enter Try.func25, Try.ntmps25
 go_wp2
 go_ret
 exact ⟨rfl, bg2 _ _ _⟩
end Go.Proofs.Ytpjcdacnhalclaa.Q
