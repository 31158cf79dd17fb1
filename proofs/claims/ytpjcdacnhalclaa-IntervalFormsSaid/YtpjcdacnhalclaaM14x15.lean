/- A part of a proof: facts of functions that the law calls; conditions stand in each. -/
import Derived.Test.YtpjcdacnhalclaaM14x3
import Derived.Test.YtpjcdacnhalclaaM14x13
import Derived.Test.YtpjcdacnhalclaaM14x14
import Derived.Test.YtpjcdacnhalclaaM14x12
set_option linter.unusedVariables false
set_option linter.unusedSimpArgs false
namespace Go.Proofs.Ytpjcdacnhalclaa.Q
open Go.RowKit Go.Proofs.YtpjcdacnhalclaaW.PrintWords Go.Proofs.YtpjcdacnhalclaaW.PrintLast Go.Proofs.YtpjcdacnhalclaaW.PrintMore
attribute [local go_sem] max2_int min2_int max_two min_two max_three min_three max_four min_four
def r3_One.f (k : Nat) (a0_0 : Int) (a0_1 : Int) (a0_2 : ByteArray) : Option ((List (S65)) × Int) := (r1_Valid.f k a0_0 a0_1 a0_2).bind fun t356 => (if t356 = true then ((r1_Next.f k a0_0 a0_1 a0_2).bind fun bt357 => (some ((([(⟨(⟨a0_0, a0_1, a0_2⟩ : S24), (⟨bt357.1, bt357.2.1, bt357.2.2.1⟩ : S24), !bt357.2.2.2⟩ : S65)] : List (S65))), 0))) else (some (([] : List (S65)), 10)))
set_option maxHeartbeats 8000000 in
set_option maxRecDepth 100000 in
theorem r3_One.calls (k : Nat) (a0_0 : Int) (a0_1 : Int) (a0_2 : ByteArray) (r1 : List (S65)) (r2 : Int) (w : World) (h : r3_One.f k a0_0 a0_1 a0_2 = some (r1, r2)) :
  Calls Try.prog 42 #[.agg #[.int .i64 a0_0, .int .i64 a0_1, .string a0_2]] w fun e w' => ∃ v0_ : Value, e = .returned (.tuple #[v0_, .int .i64 r2]) ∧ Kd.R k65 65 w' w.heap.size (fun _ => True) v0_ r1 ∧ Below w.heap.size w w' := by
 have hu24 := Try.underlying24
 have hu65 := Try.underlying65
 have HB := aK (Below.refl w.heap.size w)
 have H : ((r1_Valid.f k a0_0 a0_1 a0_2).bind fun t356 => (if t356 = true then ((r1_Next.f k a0_0 a0_1 a0_2).bind fun bt357 => (some ((([(⟨(⟨a0_0, a0_1, a0_2⟩ : S24), (⟨bt357.1, bt357.2.1, bt357.2.2.1⟩ : S24), !bt357.2.2.2⟩ : S65)] : List (S65))), 0))) else (some (([] : List (S65)), 10)))) = some (r1, r2) := h
 clear h
 obtain ⟨t356, A2, H⟩ := oB H
 try dsimp only at H
 by_cases c3 : t356 = true
 rotate_left
 ·replace c3 := Bool.eq_false_iff.mpr c3
  subst c3
  rw [if_neg (show ¬ (false = true) by decide)] at H
  simp only [Option.some.injEq, Prod.mk.injEq] at H
  obtain ⟨rfl, rfl⟩ := H
  go_enter Try.func42, Try.ntmps42
  go_wp2_with (first | ((with_reducible refine gate_dst (N := 1) rfl ?_); refine box_event ?hg (N := 1) ?hd (cs := #[.int .i64 a0_0, .int .i64 a0_1, .string a0_2]) (t := 24) ?hr ?_; (case hd => rfl); (case hg => rfl); (case hr => exact hR); intro gb355 hg w16 hbox hb; have n0_ := aK (below_step bO hb); have n1_ := aK (hbox); have n2_ := aK ((by rw [hg]; exact (below_size bO) : w.heap.size ≤ gb355)); have n3_ := aK ((by rw [hg]; exact (below_size bO) : w.heap.size ≤ gb355)); clear HB; have HB := n0_; have BK355 := n1_; have GW355 := n2_; have GE355 := n3_; clear n0_ n1_ n2_ n3_ hb hbox hg; obtain ⟨hcz17_0, hcz17_1, hcz17_2⟩ := z3 BK355.out (.int .i64 a0_0) (.int .i64 a0_1) (.string a0_2); obtain ⟨hfz17_0, hfz17_1, hfz17_2⟩ := f3 BK355.out) | ((with_reducible refine gate_callee (f := 23) rfl ?_); refine gL (some 7) rfl Try.func23 #[.agg #[.int .i64 a0_0, .int .i64 a0_1, .string a0_2]] rfl ?_; (with_reducible refine (r1_Valid.calls k a0_0 a0_1 a0_2 false _ A2.out).mono ?_); rintro e w18 ⟨rfl, hb⟩; refine ⟨_, rfl, ?_⟩; have n0_ := aK (blk_below (bX BK355.out) hb); have n1_ := aK (below_step (bS GE355.out) hb); clear BK355 HB; have BK355 := n0_; have HB := n1_; clear n0_ n1_; (try clear hb)))
  go_ret2
  exact ⟨_, eW, by first | exact Kd.R_nil _ _ _ _ _ | exact Kd.N_nil _ _ _ _ _ | exact Kd.V_nil _ _ _ _ _ | exact Kd.Q_nil _ _ _ _ _ | exact Kd.S_nil _ _ _ _ _, bS GE355.out⟩
 subst c3
 rw [if_pos rfl] at H
 obtain ⟨⟨t357, t358, t359, t360⟩, A4, H⟩ := oB H
 try dsimp only at H
 obtain ⟨y362, hy362⟩ : ∃ y_ : List (S65), y_ = (([(⟨(⟨a0_0, a0_1, a0_2⟩ : S24), (⟨t357, t358, t359⟩ : S24), !t360⟩ : S65)] : List (S65))) := ⟨_, rfl⟩
 replace H : (some (y362, 0)) = some (r1, r2) := by first | (rw [hy362]; with_reducible exact H) | (have H2_ := (Option.bind_some _ _).symm.trans H; rw [hy362]; with_reducible exact H2_) | (have H2_ := (Option.bind_some _ _).symm.trans H; with_reducible exact H2_) | with_reducible exact H | (rw [hy362]; exact H) | exact H
 have Ny362 := Aside0.mk hy362
 clear hy362
 simp only [Option.some.injEq, Prod.mk.injEq] at H
 obtain ⟨rfl, rfl⟩ := H
 go_enter Try.func42, Try.ntmps42
 go_wp2_with (first | ((with_reducible refine gate_dst (N := 1) rfl ?_); refine box_event ?hg (N := 1) ?hd (cs := #[.int .i64 a0_0, .int .i64 a0_1, .string a0_2]) (t := 24) ?hr ?_; (case hd => rfl); (case hg => rfl); (case hr => exact hR); intro gb355 hg w5 hbox hb; have n0_ := aK (below_step bO hb); have n1_ := aK (hbox); have n2_ := aK ((by rw [hg]; exact (below_size bO) : w.heap.size ≤ gb355)); have n3_ := aK ((by rw [hg]; exact (below_size bO) : w.heap.size ≤ gb355)); clear HB; have HB := n0_; have BK355 := n1_; have GW355 := n2_; have GE355 := n3_; clear n0_ n1_ n2_ n3_ hb hbox hg; obtain ⟨hcz6_0, hcz6_1, hcz6_2⟩ := z3 BK355.out (.int .i64 a0_0) (.int .i64 a0_1) (.string a0_2); obtain ⟨hfz6_0, hfz6_1, hfz6_2⟩ := f3 BK355.out) | ((with_reducible refine gate_callee (f := 23) rfl ?_); refine gL (some 7) rfl Try.func23 #[.agg #[.int .i64 a0_0, .int .i64 a0_1, .string a0_2]] rfl ?_; (with_reducible refine (r1_Valid.calls k a0_0 a0_1 a0_2 true _ A2.out).mono ?_); rintro e w7 ⟨rfl, hb⟩; refine ⟨_, rfl, ?_⟩; have n0_ := aK (blk_below (bX BK355.out) hb); have n1_ := aK (below_step (bS GE355.out) hb); clear BK355 HB; have BK355 := n0_; have HB := n1_; clear n0_ n1_; (try clear hb); obtain ⟨hcz8_0, hcz8_1, hcz8_2⟩ := z3 BK355.out (.int .i64 a0_0) (.int .i64 a0_1) (.string a0_2); obtain ⟨hfz8_0, hfz8_1, hfz8_2⟩ := f3 BK355.out) | ((with_reducible refine gate_callee (f := 28) rfl ?_); refine gL (some 11) rfl Try.func28 #[.agg #[.int .i64 a0_0, .int .i64 a0_1, .string a0_2]] rfl ?_; (with_reducible refine (r1_Next.calls k a0_0 a0_1 a0_2 t357 t358 t359 t360 _ A4.out).mono ?_); rintro e w9 ⟨rfl, hb⟩; refine ⟨_, rfl, ?_⟩; have n0_ := aK (blk_below (bX BK355.out) hb); have n1_ := aK (below_step (bS GE355.out) hb); clear BK355 HB; have BK355 := n0_; have HB := n1_; clear n0_ n1_; (try clear hb)) | ((with_reducible refine gate_dst (N := 4) rfl ?_); refine box_event ?hg (N := 4) ?hd (cs := #[.int .i64 0, .int .i64 0, .string (⟨#[]⟩ : ByteArray)]) (t := 24) ?hr ?_; (case hd => rfl); (case hg => rfl); (case hr => exact hR); intro gb361 hg w10 hbox hb; have n0_ := aK (blk_below (bX BK355.out) hb); have n1_ := aK (below_step (bS GE355.out) hb); have n2_ := aK (hbox); have n3_ := aK ((by rw [hg]; exact (below_size (bS GE355.out)) : w.heap.size ≤ gb361)); have n4_ := aK ((by rw [hg]; exact (below_size (bS GE355.out)) : w.heap.size ≤ gb361)); have n5_ := aK ((by rw [hg]; exact Nat.ne_of_lt (blk_lt (bX BK355.out)) : gb355 ≠ gb361)); have n6_ := aK ((by rw [hg]; exact Nat.ne_of_gt (blk_lt (bX BK355.out)) : gb361 ≠ gb355)); clear BK355 HB; have BK355 := n0_; have HB := n1_; have BK361 := n2_; have GW361 := n3_; have GE361 := n4_; have NB355_361 := n5_; have NB361_355 := n6_; clear n0_ n1_ n2_ n3_ n4_ n5_ n6_ hb hbox hg; have hnb11 := NB361_355.out; have hnc11 := NB355_361.out; obtain ⟨hcz12_0, hcz12_1, hcz12_2⟩ := z3 BK361.out (.int .i64 0) (.int .i64 0) (.string (⟨#[]⟩ : ByteArray)); obtain ⟨hfz12_0, hfz12_1, hfz12_2⟩ := f3 BK361.out; obtain ⟨hcz13_0, hcz13_1, hcz13_2⟩ := z3 BK355.out (.int .i64 a0_0) (.int .i64 a0_1) (.string a0_2); obtain ⟨hfz13_0, hfz13_1, hfz13_2⟩ := f3 BK355.out) | ((with_reducible refine gate_dst (N := 19) rfl ?_); refine Kd.R_lit k65 _ 65 ?hg (N := 19) ?hd (xs := ([(⟨(⟨a0_0, a0_1, a0_2⟩ : S24), (⟨t357, t358, t359⟩ : S24), !t360⟩ : S65)] : List (S65))) (inner := [.int .i64 a0_0, .int .i64 a0_1, .string a0_2, .int .i64 t357, .int .i64 t358, .string t359, .bool (!t360)]) (ok := fun _ => True) (okp := fun _ => True) ?hr ?hp (fun _ hk => hk) trivial (Below.refl _ _) (Nat.le_refl _) (by simp) ?_; (case hd => rfl); (case hg => rfl); (case hr => exact hR); (case hp => exact (Reps.c7 (show Kd.M k65 _ _ _ (⟨(⟨a0_0, a0_1, a0_2⟩ : S24), (⟨t357, t358, t359⟩ : S24), !t360⟩ : S65) [.int .i64 a0_0, .int .i64 a0_1, .string a0_2, .int .i64 t357, .int .i64 t358, .string t359, .bool (!t360)] from (k65_mkM _ _ _ (⟨(⟨a0_0, a0_1, a0_2⟩ : S24), (⟨t357, t358, t359⟩ : S24), !t360⟩ : S65) )) (Reps.none _ _))); intro v363 w14 ho15 hb hg_ hnew_; clear hg_ hnew_; (first | rw [← Ny362.out] at ho15 | (simp only [Int.reduceToNat] at ho15; rw [← Ny362.out] at ho15)); have n0_ := aK (Kd.R_lower ho15 (below_size (bT GE355.out GE361.out))); have n1_ := aK (blk_below (g := gb355) (o := .cells #[.int .i64 a0_0, .int .i64 a0_1, .string a0_2] 24 (0, 0)) (by (with_reducible repeat (first | refine blk_drewN ?_ _ | refine blk_drew ?_ | refine blk_alloc ?_ _)); refine blk_far ?_ NB355_361.out _; (with_reducible repeat (first | refine blk_drewN ?_ _ | refine blk_drew ?_ | refine blk_alloc ?_ _)); refine blk_far ?_ NB355_361.out _; (with_reducible repeat (first | refine blk_drewN ?_ _ | refine blk_drew ?_ | refine blk_alloc ?_ _)); refine blk_far ?_ NB355_361.out _; (with_reducible repeat (first | refine blk_drewN ?_ _ | refine blk_drew ?_ | refine blk_alloc ?_ _)); exact BK355.out) hb); have n2_ := aK (blk_below (g := gb361) (o := .cells #[.int .i64 t357, .int .i64 t358, .string t359] 24 (0, 0)) (put3 BK361.out) hb); have n3_ := aK (below_step (bT GE355.out GE361.out) hb); clear BK355 BK361 HB; have HO364 := n0_; have BK355 := n1_; have BK361 := n2_; have HB := n3_; clear n0_ n1_ n2_ n3_ hb ho15))
 go_ret2
 exact ⟨_, eW, rX HO364.out, bT GE355.out GE361.out⟩
def r3_From.f (k : Nat) (a0_0 : Int) (a0_1 : Int) (a0_2 : ByteArray) : Option ((List (S65)) × Int) := (r1_Valid.f k a0_0 a0_1 a0_2).bind fun t366 => (if t366 = true then (some ((([(⟨(⟨a0_0, a0_1, a0_2⟩ : S24), (⟨0, 0, (⟨#[]⟩ : ByteArray)⟩ : S24), true⟩ : S65)] : List (S65))), 0)) else (some (([] : List (S65)), 10)))
set_option maxHeartbeats 8000000 in
set_option maxRecDepth 100000 in
theorem r3_From.calls (k : Nat) (a0_0 : Int) (a0_1 : Int) (a0_2 : ByteArray) (r1 : List (S65)) (r2 : Int) (w : World) (h : r3_From.f k a0_0 a0_1 a0_2 = some (r1, r2)) :
  Calls Try.prog 44 #[.agg #[.int .i64 a0_0, .int .i64 a0_1, .string a0_2]] w fun e w' => ∃ v0_ : Value, e = .returned (.tuple #[v0_, .int .i64 r2]) ∧ Kd.R k65 65 w' w.heap.size (fun _ => True) v0_ r1 ∧ Below w.heap.size w w' := by
 have hu24 := Try.underlying24
 have hu65 := Try.underlying65
 have HB := aK (Below.refl w.heap.size w)
 have H : ((r1_Valid.f k a0_0 a0_1 a0_2).bind fun t366 => (if t366 = true then (some ((([(⟨(⟨a0_0, a0_1, a0_2⟩ : S24), (⟨0, 0, (⟨#[]⟩ : ByteArray)⟩ : S24), true⟩ : S65)] : List (S65))), 0)) else (some (([] : List (S65)), 10)))) = some (r1, r2) := h
 clear h
 obtain ⟨t366, A2, H⟩ := oB H
 try dsimp only at H
 by_cases c3 : t366 = true
 rotate_left
 ·replace c3 := Bool.eq_false_iff.mpr c3
  subst c3
  rw [if_neg (show ¬ (false = true) by decide)] at H
  simp only [Option.some.injEq, Prod.mk.injEq] at H
  obtain ⟨rfl, rfl⟩ := H
  go_enter Try.func44, Try.ntmps44
  go_wp2_with (first | ((with_reducible refine gate_dst (N := 1) rfl ?_); refine box_event ?hg (N := 1) ?hd (cs := #[.int .i64 a0_0, .int .i64 a0_1, .string a0_2]) (t := 24) ?hr ?_; (case hd => rfl); (case hg => rfl); (case hr => exact hR); intro gb365 hg w10 hbox hb; have n0_ := aK (below_step bO hb); have n1_ := aK (hbox); have n2_ := aK ((by rw [hg]; exact (below_size bO) : w.heap.size ≤ gb365)); have n3_ := aK ((by rw [hg]; exact (below_size bO) : w.heap.size ≤ gb365)); clear HB; have HB := n0_; have BK365 := n1_; have GW365 := n2_; have GE365 := n3_; clear n0_ n1_ n2_ n3_ hb hbox hg; obtain ⟨hcz11_0, hcz11_1, hcz11_2⟩ := z3 BK365.out (.int .i64 a0_0) (.int .i64 a0_1) (.string a0_2); obtain ⟨hfz11_0, hfz11_1, hfz11_2⟩ := f3 BK365.out) | ((with_reducible refine gate_callee (f := 23) rfl ?_); refine gL (some 5) rfl Try.func23 #[.agg #[.int .i64 a0_0, .int .i64 a0_1, .string a0_2]] rfl ?_; (with_reducible refine (r1_Valid.calls k a0_0 a0_1 a0_2 false _ A2.out).mono ?_); rintro e w12 ⟨rfl, hb⟩; refine ⟨_, rfl, ?_⟩; have n0_ := aK (blk_below (bX BK365.out) hb); have n1_ := aK (below_step (bS GE365.out) hb); clear BK365 HB; have BK365 := n0_; have HB := n1_; clear n0_ n1_; (try clear hb)))
  go_ret2
  exact ⟨_, eW, by first | exact Kd.R_nil _ _ _ _ _ | exact Kd.N_nil _ _ _ _ _ | exact Kd.V_nil _ _ _ _ _ | exact Kd.Q_nil _ _ _ _ _ | exact Kd.S_nil _ _ _ _ _, bS GE365.out⟩
 subst c3
 rw [if_pos rfl] at H
 obtain ⟨y367, hy367⟩ : ∃ y_ : List (S65), y_ = (([(⟨(⟨a0_0, a0_1, a0_2⟩ : S24), (⟨0, 0, (⟨#[]⟩ : ByteArray)⟩ : S24), true⟩ : S65)] : List (S65))) := ⟨_, rfl⟩
 replace H : (some (y367, 0)) = some (r1, r2) := by first | (rw [hy367]; with_reducible exact H) | (have H2_ := (Option.bind_some _ _).symm.trans H; rw [hy367]; with_reducible exact H2_) | (have H2_ := (Option.bind_some _ _).symm.trans H; with_reducible exact H2_) | with_reducible exact H | (rw [hy367]; exact H) | exact H
 have Ny367 := Aside0.mk hy367
 clear hy367
 simp only [Option.some.injEq, Prod.mk.injEq] at H
 obtain ⟨rfl, rfl⟩ := H
 go_enter Try.func44, Try.ntmps44
 go_wp2_with (first | ((with_reducible refine gate_dst (N := 1) rfl ?_); refine box_event ?hg (N := 1) ?hd (cs := #[.int .i64 a0_0, .int .i64 a0_1, .string a0_2]) (t := 24) ?hr ?_; (case hd => rfl); (case hg => rfl); (case hr => exact hR); intro gb365 hg w4 hbox hb; have n0_ := aK (below_step bO hb); have n1_ := aK (hbox); have n2_ := aK ((by rw [hg]; exact (below_size bO) : w.heap.size ≤ gb365)); have n3_ := aK ((by rw [hg]; exact (below_size bO) : w.heap.size ≤ gb365)); clear HB; have HB := n0_; have BK365 := n1_; have GW365 := n2_; have GE365 := n3_; clear n0_ n1_ n2_ n3_ hb hbox hg; obtain ⟨hcz5_0, hcz5_1, hcz5_2⟩ := z3 BK365.out (.int .i64 a0_0) (.int .i64 a0_1) (.string a0_2); obtain ⟨hfz5_0, hfz5_1, hfz5_2⟩ := f3 BK365.out) | ((with_reducible refine gate_callee (f := 23) rfl ?_); refine gL (some 5) rfl Try.func23 #[.agg #[.int .i64 a0_0, .int .i64 a0_1, .string a0_2]] rfl ?_; (with_reducible refine (r1_Valid.calls k a0_0 a0_1 a0_2 true _ A2.out).mono ?_); rintro e w6 ⟨rfl, hb⟩; refine ⟨_, rfl, ?_⟩; have n0_ := aK (blk_below (bX BK365.out) hb); have n1_ := aK (below_step (bS GE365.out) hb); clear BK365 HB; have BK365 := n0_; have HB := n1_; clear n0_ n1_; (try clear hb); obtain ⟨hcz7_0, hcz7_1, hcz7_2⟩ := z3 BK365.out (.int .i64 a0_0) (.int .i64 a0_1) (.string a0_2); obtain ⟨hfz7_0, hfz7_1, hfz7_2⟩ := f3 BK365.out) | ((with_reducible refine gate_dst (N := 9) rfl ?_); refine Kd.R_lit k65 _ 65 ?hg (N := 9) ?hd (xs := ([(⟨(⟨a0_0, a0_1, a0_2⟩ : S24), (⟨0, 0, (⟨#[]⟩ : ByteArray)⟩ : S24), true⟩ : S65)] : List (S65))) (inner := [.int .i64 a0_0, .int .i64 a0_1, .string a0_2, .int .i64 0, .int .i64 0, .string (⟨#[]⟩ : ByteArray), .bool true]) (ok := fun _ => True) (okp := fun _ => True) ?hr ?hp (fun _ hk => hk) trivial (Below.refl _ _) (Nat.le_refl _) (by simp) ?_; (case hd => rfl); (case hg => rfl); (case hr => exact hR); (case hp => exact (Reps.c7 (show Kd.M k65 _ _ _ (⟨(⟨a0_0, a0_1, a0_2⟩ : S24), (⟨0, 0, (⟨#[]⟩ : ByteArray)⟩ : S24), true⟩ : S65) [.int .i64 a0_0, .int .i64 a0_1, .string a0_2, .int .i64 0, .int .i64 0, .string (⟨#[]⟩ : ByteArray), .bool true] from (k65_mkM _ _ _ (⟨(⟨a0_0, a0_1, a0_2⟩ : S24), (⟨0, 0, (⟨#[]⟩ : ByteArray)⟩ : S24), true⟩ : S65) )) (Reps.none _ _))); intro v368 w8 ho9 hb hg_ hnew_; clear hg_ hnew_; (first | rw [← Ny367.out] at ho9 | (simp only [Int.reduceToNat] at ho9; rw [← Ny367.out] at ho9)); have n0_ := aK (Kd.R_lower ho9 (below_size (bS GE365.out))); have n1_ := aK (blk_below (bX BK365.out) hb); have n2_ := aK (below_step (bS GE365.out) hb); clear BK365 HB; have HO369 := n0_; have BK365 := n1_; have HB := n2_; clear n0_ n1_ n2_ hb ho9))
 go_ret2
 exact ⟨_, eW, rX HO369.out, bS GE365.out⟩
def r3_All.f  : Option ((List (S65))) := some (([(⟨(⟨1, 0, (⟨#[]⟩ : ByteArray)⟩ : S24), (⟨0, 0, (⟨#[]⟩ : ByteArray)⟩ : S24), true⟩ : S65)] : List (S65)))
set_option maxHeartbeats 8000000 in
set_option maxRecDepth 100000 in
theorem r3_All.calls  (r : List (S65)) (w : World) (h : r3_All.f  = some r) :
  Calls Try.prog 48 #[] w fun e w' => ∃ v0_ : Value, e = .returned (v0_) ∧ Kd.R k65 65 w' w.heap.size (fun _ => True) v0_ r ∧ Below w.heap.size w w' := by
 have hu24 := Try.underlying24
 have hu65 := Try.underlying65
 have HB := aK (Below.refl w.heap.size w)
 have H : (some (([(⟨(⟨1, 0, (⟨#[]⟩ : ByteArray)⟩ : S24), (⟨0, 0, (⟨#[]⟩ : ByteArray)⟩ : S24), true⟩ : S65)] : List (S65)))) = some r := h
 clear h
 obtain ⟨y370, hy370⟩ : ∃ y_ : List (S65), y_ = (([(⟨(⟨1, 0, (⟨#[]⟩ : ByteArray)⟩ : S24), (⟨0, 0, (⟨#[]⟩ : ByteArray)⟩ : S24), true⟩ : S65)] : List (S65))) := ⟨_, rfl⟩
 replace H : (some y370) = some r := by first | (rw [hy370]; with_reducible exact H) | (have H2_ := (Option.bind_some _ _).symm.trans H; rw [hy370]; with_reducible exact H2_) | (have H2_ := (Option.bind_some _ _).symm.trans H; with_reducible exact H2_) | with_reducible exact H | (rw [hy370]; exact H) | exact H
 have Ny370 := Aside0.mk hy370
 clear hy370
 obtain rfl := Option.some.inj H
 go_enter Try.func48, Try.ntmps48
 go_wp2_with (first | ((with_reducible refine gate_dst (N := 3) rfl ?_); refine Kd.R_lit k65 _ 65 ?hg (N := 3) ?hd (xs := ([(⟨(⟨1, 0, (⟨#[]⟩ : ByteArray)⟩ : S24), (⟨0, 0, (⟨#[]⟩ : ByteArray)⟩ : S24), true⟩ : S65)] : List (S65))) (inner := [.int .i64 1, .int .i64 0, .string (⟨#[]⟩ : ByteArray), .int .i64 0, .int .i64 0, .string (⟨#[]⟩ : ByteArray), .bool true]) (ok := fun _ => True) (okp := fun _ => True) ?hr ?hp (fun _ hk => hk) trivial (Below.refl _ _) (Nat.le_refl _) (by simp) ?_; (case hd => rfl); (case hg => rfl); (case hr => exact hR); (case hp => exact (Reps.c7 (show Kd.M k65 _ _ _ (⟨(⟨1, 0, (⟨#[]⟩ : ByteArray)⟩ : S24), (⟨0, 0, (⟨#[]⟩ : ByteArray)⟩ : S24), true⟩ : S65) [.int .i64 1, .int .i64 0, .string (⟨#[]⟩ : ByteArray), .int .i64 0, .int .i64 0, .string (⟨#[]⟩ : ByteArray), .bool true] from (k65_mkM _ _ _ (⟨(⟨1, 0, (⟨#[]⟩ : ByteArray)⟩ : S24), (⟨0, 0, (⟨#[]⟩ : ByteArray)⟩ : S24), true⟩ : S65) )) (Reps.none _ _))); intro v371 w1 ho2 hb hg_ hnew_; clear hg_ hnew_; (first | rw [← Ny370.out] at ho2 | (simp only [Int.reduceToNat] at ho2; rw [← Ny370.out] at ho2)); have n0_ := aK (Kd.R_lower ho2 (below_size bO)); have n1_ := aK (below_step bO hb); clear HB; have HO372 := n0_; have HB := n1_; clear n0_ n1_ hb ho2))
 go_ret
 exact ⟨_, eW, rX HO372.out, bO⟩
def r3_In.l0 : Nat → List (S65) → Int → Int → Int → Int → ByteArray → Option (Bool)
 | 0, _, _, _, _, _, _ => none
 | k + 1, x7, x8, x9, x374000, x374001, x374002 => if x9 < x8 then (if 0 ≤ x9 then (if x9 < (x7.length : Int) then ((r1_Compare.f ((rd_T65 x7 x9).f0.f0) ((rd_T65 x7 x9).f0.f1) ((rd_T65 x7 x9).f0.f2) x374000 x374001 x374002).bind fun t376 => (if t376 ≤ 0 then (if (rd_T65 x7 x9).f2 = true then (some true) else ((r1_Compare.f x374000 x374001 x374002 ((rd_T65 x7 x9).f1.f0) ((rd_T65 x7 x9).f1.f1) ((rd_T65 x7 x9).f1.f2)).bind fun t377 => (if t377 < 0 then (some true) else (r3_In.l0 k x7 x8 (wrap64 (x9 + 1)) x374000 x374001 x374002)))) else (r3_In.l0 k x7 x8 (wrap64 (x9 + 1)) x374000 x374001 x374002))) else (none)) else (none)) else (some false)
def r3_In.f (k : Nat) (l0 : List (S65)) (a1_0 : Int) (a1_1 : Int) (a1_2 : ByteArray) : Option (Bool) := r3_In.l0 k l0 (l0.length : Int) 0 a1_0 a1_1 a1_2
set_option maxHeartbeats 8000000 in
set_option maxRecDepth 100000 in
theorem r3_In.calls (k : Nat) (A0 : Option Addr) (c0 : Nat) (l0 : List (S65)) (a1_0 : Int) (a1_1 : Int) (a1_2 : ByteArray) (r : Bool) (w : World) (hr0 : Kd.C k65 w A0 l0.length l0) (hc0 : l0.length ≤ c0) (h : r3_In.f k l0 a1_0 a1_1 a1_2 = some r) :
  Calls Try.prog 92 #[.slice A0 l0.length c0, .agg #[.int .i64 a1_0, .int .i64 a1_1, .string a1_2]] w fun e w' => e = .returned (.bool r) ∧ Below w.heap.size w w' := by
 have hu24 := Try.underlying24
 have hu65 := Try.underlying65
 have HR0 := Aside0.mk hr0
 have HC0 := Aside0.mk hc0
 clear hr0 hc0
 have HB := aK (Below.refl w.heap.size w)
 have H : (r3_In.l0 k l0 (l0.length : Int) 0 a1_0 a1_1 a1_2) = some r := h
 clear h
 have H' := Aside0.mk H
 clear H
 go_enter Try.func92, Try.ntmps92
 go_wp2_with (first | ((with_reducible refine gate_dst (N := 3) rfl ?_); refine box_event ?hg (N := 3) ?hd (cs := #[.int .i64 a1_0, .int .i64 a1_1, .string a1_2]) (t := 24) ?hr ?_; (case hd => rfl); (case hg => rfl); (case hr => exact hR); intro gb373 hg w3 hbox hb; have n0_ := aK (below_step bO hb); have n1_ := aK (hbox); have n2_ := aK ((by rw [hg]; exact (below_size bO) : w.heap.size ≤ gb373)); have n3_ := aK ((by rw [hg]; exact (below_size bO) : w.heap.size ≤ gb373)); clear HB; have HB := n0_; have BK373 := n1_; have GW373 := n2_; have GE373 := n3_; clear n0_ n1_ n2_ n3_ hb hbox hg))
 go_loopg [9] k (fun kq v9 w' => ∃ (x9_1 : Int), v9 = .int .i64 x9_1 ∧ Aside0 (r3_In.l0 kq l0 (l0.length : Int) x9_1 a1_0 a1_1 a1_2 = some r) ∧ Aside0 (kq ≤ k) ∧ Aside0 (w'.heap[gb373]? = some (.cells #[.int .i64 a1_0, .int .i64 a1_1, .string a1_2] 24 (0, 0))) ∧ Aside0 (Below w.heap.size w w'))
 case atStart => exact ⟨(0), (by first | rfl | (simp; done) | (simp [*]; done)), H', ⟨Nat.le_refl _⟩, ⟨bX BK373.out⟩, ⟨bS GE373.out⟩⟩
 case round =>
  clear H'
  try clear p2
  obtain ⟨x9_1, rfl, HA, HK1, BK373, HB⟩ := hrel
  cases gk with
  | zero => exact absurd HA.out (by simp [r3_In.l0])
  | succ k1 =>
   have H := HA.out
   clear HA
   simp only [r3_In.l0] at H
   by_cases c4 : x9_1 < (l0.length : Int)
   rotate_left
   ·rw [if_neg c4] at H
    have c4b0 : decide (x9_1 < (l0.length : Int)) = false := decide_eq_false c4
    clear c4
    obtain rfl := Option.some.inj H
    go_wp2
    go_ret
    exact ⟨eW, bS GE373.out⟩
   rw [if_pos c4] at H
   have c4b0 : decide (x9_1 < (l0.length : Int)) = true := decide_eq_true c4
   clear c4
   by_cases c5 : 0 ≤ x9_1
   rotate_left
   ·rw [if_neg c5] at H
    exact absurd H (by simp)
   rw [if_pos c5] at H
   have c5b0 : decide (0 ≤ x9_1) = true := decide_eq_true c5
   clear c5
   by_cases c6 : x9_1 < (l0.length : Int)
   rotate_left
   ·rw [if_neg c6] at H
    exact absurd H (by simp)
   rw [if_pos c6] at H
   have c6b0 : decide (x9_1 < (l0.length : Int)) = true := decide_eq_true c6
   clear c6
   obtain ⟨t376, A7, H⟩ := oB H
   try dsimp only at H
   by_cases c8 : t376 ≤ 0
   rotate_left
   ·rw [if_neg c8] at H
    have c8b0 : decide (t376 ≤ 0) = false := decide_eq_false c8
    clear c8
    have H' := Aside0.mk H
    clear H
    have p374 : 0 ≤ (x9_1 : Int) := of_decide_eq_true (aA)
    have q374 : x9_1 < (l0.length : Int) := of_decide_eq_true (aA)
    obtain ⟨ad374, e374, hx374_0, hx374_1, hx374_2, hx374_3, hx374_4, hx374_5, hx374_6⟩ := at_T65 HR0.out x9_1 p374 q374
    cases e374
    replace hx374_0 := hW HB.out hx374_0
    replace hx374_1 := hW HB.out hx374_1
    replace hx374_2 := hW HB.out hx374_2
    replace hx374_3 := hW HB.out hx374_3
    replace hx374_4 := hW HB.out hx374_4
    replace hx374_5 := hW HB.out hx374_5
    replace hx374_6 := hW HB.out hx374_6
    replace p374 := eq_true p374
    replace q374 := eq_true q374
    go_wp2_with (first | ((with_reducible refine gate_dst (N := 6) rfl ?_); refine box_event ?hg (N := 6) ?hd (cs := #[.int .i64 0, .int .i64 0, .string (⟨#[]⟩ : ByteArray), .int .i64 0, .int .i64 0, .string (⟨#[]⟩ : ByteArray), .bool false]) (t := 65) ?hr ?_; (case hd => rfl); (case hg => rfl); (case hr => exact hR); intro gb375 hg w35 hbox hb; have n0_ := aK (blk_below (bX BK373.out) hb); have n1_ := aK (below_step (bS GE373.out) hb); have n2_ := aK (hbox); have n3_ := aK ((by rw [hg]; exact (below_size (bS GE373.out)) : w.heap.size ≤ gb375)); have n4_ := aK ((by rw [hg]; exact (below_size (bS GE373.out)) : w.heap.size ≤ gb375)); have n5_ := aK ((by rw [hg]; exact Nat.ne_of_lt (blk_lt (bX BK373.out)) : gb373 ≠ gb375)); have n6_ := aK ((by rw [hg]; exact Nat.ne_of_gt (blk_lt (bX BK373.out)) : gb375 ≠ gb373)); clear BK373 HB; have BK373 := n0_; have HB := n1_; have BK375 := n2_; have GW375 := n3_; have GE375 := n4_; have NB373_375 := n5_; have NB375_373 := n6_; clear n0_ n1_ n2_ n3_ n4_ n5_ n6_ hb hbox hg; have hnb36 := NB375_373.out; have hnc36 := NB373_375.out; obtain ⟨hcz37_0, hcz37_1, hcz37_2, hcz37_3, hcz37_4, hcz37_5, hcz37_6⟩ := z7 BK375.out (.int .i64 0) (.int .i64 0) (.string (⟨#[]⟩ : ByteArray)) (.int .i64 0) (.int .i64 0) (.string (⟨#[]⟩ : ByteArray)) (.bool false); obtain ⟨hfz37_0, hfz37_1, hfz37_2, hfz37_3, hfz37_4, hfz37_5, hfz37_6⟩ := f7 BK375.out; obtain ⟨hcz38_0, hcz38_1, hcz38_2⟩ := z3 BK373.out (.int .i64 a1_0) (.int .i64 a1_1) (.string a1_2); obtain ⟨hfz38_0, hfz38_1, hfz38_2⟩ := f3 BK373.out) | ((with_reducible refine gate_callee (f := 26) rfl ?_); refine gL (some 16) rfl Try.func26 #[.agg #[.int .i64 ((rd_T65 l0 x9_1).f0.f0), .int .i64 ((rd_T65 l0 x9_1).f0.f1), .string ((rd_T65 l0 x9_1).f0.f2)], .agg #[.int .i64 a1_0, .int .i64 a1_1, .string a1_2]] rfl ?_; (with_reducible refine (r1_Compare.calls ((rd_T65 l0 x9_1).f0.f0) ((rd_T65 l0 x9_1).f0.f1) ((rd_T65 l0 x9_1).f0.f2) a1_0 a1_1 a1_2 t376 _ A7.out).mono ?_); rintro e w39 ⟨rfl, hb⟩; refine ⟨_, rfl, ?_⟩; have n0_ := aK (blk_below (g := gb373) (o := .cells #[.int .i64 a1_0, .int .i64 a1_1, .string a1_2] 24 (0, 0)) (by (with_reducible repeat (first | refine blk_drewN ?_ _ | refine blk_drew ?_ | refine blk_alloc ?_ _)); refine blk_far ?_ NB373_375.out _; (with_reducible repeat (first | refine blk_drewN ?_ _ | refine blk_drew ?_ | refine blk_alloc ?_ _)); refine blk_far ?_ NB373_375.out _; (with_reducible repeat (first | refine blk_drewN ?_ _ | refine blk_drew ?_ | refine blk_alloc ?_ _)); refine blk_far ?_ NB373_375.out _; (with_reducible repeat (first | refine blk_drewN ?_ _ | refine blk_drew ?_ | refine blk_alloc ?_ _)); refine blk_far ?_ NB373_375.out _; (with_reducible repeat (first | refine blk_drewN ?_ _ | refine blk_drew ?_ | refine blk_alloc ?_ _)); refine blk_far ?_ NB373_375.out _; (with_reducible repeat (first | refine blk_drewN ?_ _ | refine blk_drew ?_ | refine blk_alloc ?_ _)); refine blk_far ?_ NB373_375.out _; (with_reducible repeat (first | refine blk_drewN ?_ _ | refine blk_drew ?_ | refine blk_alloc ?_ _)); refine blk_far ?_ NB373_375.out _; (with_reducible repeat (first | refine blk_drewN ?_ _ | refine blk_drew ?_ | refine blk_alloc ?_ _)); exact BK373.out) hb); have n1_ := aK (blk_below (g := gb375) (o := .cells #[.int .i64 ((rd_T65 l0 x9_1).f0.f0), .int .i64 ((rd_T65 l0 x9_1).f0.f1), .string ((rd_T65 l0 x9_1).f0.f2), .int .i64 ((rd_T65 l0 x9_1).f1.f0), .int .i64 ((rd_T65 l0 x9_1).f1.f1), .string ((rd_T65 l0 x9_1).f1.f2), .bool ((rd_T65 l0 x9_1).f2)] 65 (0, 0)) (put7 BK375.out) hb); have n2_ := aK (below_step (bT GE373.out GE375.out) hb); clear BK373 BK375 HB; have BK373 := n0_; have BK375 := n1_; have HB := n2_; clear n0_ n1_ n2_; (try clear hb)))
    go_roundg k1
    case measure => have := HK1.out; omega
    case rel => exact ⟨(wrap64 (x9_1 + 1)), (by first | rfl | (simp; done) | (simp [*]; done)), H', ⟨by have := HK1.out; omega⟩, ⟨bX BK373.out⟩, ⟨bT GE373.out GE375.out⟩⟩
   rw [if_pos c8] at H
   have c8b0 : decide (t376 ≤ 0) = true := decide_eq_true c8
   clear c8
   obtain ⟨bq9, hbq9⟩ : ∃ b_ : Bool, b_ = ((rd_T65 l0 x9_1).f2) := ⟨_, rfl⟩
   replace H : (if bq9 = true then (some true) else ((r1_Compare.f a1_0 a1_1 a1_2 ((rd_T65 l0 x9_1).f1.f0) ((rd_T65 l0 x9_1).f1.f1) ((rd_T65 l0 x9_1).f1.f2)).bind fun t377 => (if t377 < 0 then (some true) else (r3_In.l0 k1 l0 (l0.length : Int) (wrap64 (x9_1 + 1)) a1_0 a1_1 a1_2)))) = some r := by rw [← hbq9] at H; exact H
   have Nbq9 := Aside0.mk hbq9
   clear hbq9
   by_cases c10 : bq9 = true
   rotate_left
   ·replace c10 := Bool.eq_false_iff.mpr c10
    subst c10
    rw [if_neg (show ¬ (false = true) by decide)] at H
    obtain ⟨t377, A17, H⟩ := oB H
    try dsimp only at H
    by_cases c18 : t377 < 0
    rotate_left
    ·rw [if_neg c18] at H
     have c18b0 : decide (t377 < 0) = false := decide_eq_false c18
     clear c18
     have H' := Aside0.mk H
     clear H
     have p374 : 0 ≤ (x9_1 : Int) := of_decide_eq_true (aA)
     have q374 : x9_1 < (l0.length : Int) := of_decide_eq_true (aA)
     obtain ⟨ad374, e374, hx374_0, hx374_1, hx374_2, hx374_3, hx374_4, hx374_5, hx374_6⟩ := at_T65 HR0.out x9_1 p374 q374
     (try rw [← Nbq9.out] at hx374_6)
     cases e374
     replace hx374_0 := hW HB.out hx374_0
     replace hx374_1 := hW HB.out hx374_1
     replace hx374_2 := hW HB.out hx374_2
     replace hx374_3 := hW HB.out hx374_3
     replace hx374_4 := hW HB.out hx374_4
     replace hx374_5 := hW HB.out hx374_5
     replace hx374_6 := hW HB.out hx374_6
     replace p374 := eq_true p374
     replace q374 := eq_true q374
     go_wp2_with (first | ((with_reducible refine gate_dst (N := 6) rfl ?_); refine box_event ?hg (N := 6) ?hd (cs := #[.int .i64 0, .int .i64 0, .string (⟨#[]⟩ : ByteArray), .int .i64 0, .int .i64 0, .string (⟨#[]⟩ : ByteArray), .bool false]) (t := 65) ?hr ?_; (case hd => rfl); (case hg => rfl); (case hr => exact hR); intro gb375 hg w27 hbox hb; have n0_ := aK (blk_below (bX BK373.out) hb); have n1_ := aK (below_step (bS GE373.out) hb); have n2_ := aK (hbox); have n3_ := aK ((by rw [hg]; exact (below_size (bS GE373.out)) : w.heap.size ≤ gb375)); have n4_ := aK ((by rw [hg]; exact (below_size (bS GE373.out)) : w.heap.size ≤ gb375)); have n5_ := aK ((by rw [hg]; exact Nat.ne_of_lt (blk_lt (bX BK373.out)) : gb373 ≠ gb375)); have n6_ := aK ((by rw [hg]; exact Nat.ne_of_gt (blk_lt (bX BK373.out)) : gb375 ≠ gb373)); clear BK373 HB; have BK373 := n0_; have HB := n1_; have BK375 := n2_; have GW375 := n3_; have GE375 := n4_; have NB373_375 := n5_; have NB375_373 := n6_; clear n0_ n1_ n2_ n3_ n4_ n5_ n6_ hb hbox hg; have hnb28 := NB375_373.out; have hnc28 := NB373_375.out; obtain ⟨hcz29_0, hcz29_1, hcz29_2, hcz29_3, hcz29_4, hcz29_5, hcz29_6⟩ := z7 BK375.out (.int .i64 0) (.int .i64 0) (.string (⟨#[]⟩ : ByteArray)) (.int .i64 0) (.int .i64 0) (.string (⟨#[]⟩ : ByteArray)) (.bool false); obtain ⟨hfz29_0, hfz29_1, hfz29_2, hfz29_3, hfz29_4, hfz29_5, hfz29_6⟩ := f7 BK375.out; obtain ⟨hcz30_0, hcz30_1, hcz30_2⟩ := z3 BK373.out (.int .i64 a1_0) (.int .i64 a1_1) (.string a1_2); obtain ⟨hfz30_0, hfz30_1, hfz30_2⟩ := f3 BK373.out) | ((with_reducible refine gate_callee (f := 26) rfl ?_); refine gL (some 16) rfl Try.func26 #[.agg #[.int .i64 ((rd_T65 l0 x9_1).f0.f0), .int .i64 ((rd_T65 l0 x9_1).f0.f1), .string ((rd_T65 l0 x9_1).f0.f2)], .agg #[.int .i64 a1_0, .int .i64 a1_1, .string a1_2]] rfl ?_; (with_reducible refine (r1_Compare.calls ((rd_T65 l0 x9_1).f0.f0) ((rd_T65 l0 x9_1).f0.f1) ((rd_T65 l0 x9_1).f0.f2) a1_0 a1_1 a1_2 t376 _ A7.out).mono ?_); rintro e w31 ⟨rfl, hb⟩; refine ⟨_, rfl, ?_⟩; have n0_ := aK (blk_below (g := gb373) (o := .cells #[.int .i64 a1_0, .int .i64 a1_1, .string a1_2] 24 (0, 0)) (by (with_reducible repeat (first | refine blk_drewN ?_ _ | refine blk_drew ?_ | refine blk_alloc ?_ _)); refine blk_far ?_ NB373_375.out _; (with_reducible repeat (first | refine blk_drewN ?_ _ | refine blk_drew ?_ | refine blk_alloc ?_ _)); refine blk_far ?_ NB373_375.out _; (with_reducible repeat (first | refine blk_drewN ?_ _ | refine blk_drew ?_ | refine blk_alloc ?_ _)); refine blk_far ?_ NB373_375.out _; (with_reducible repeat (first | refine blk_drewN ?_ _ | refine blk_drew ?_ | refine blk_alloc ?_ _)); refine blk_far ?_ NB373_375.out _; (with_reducible repeat (first | refine blk_drewN ?_ _ | refine blk_drew ?_ | refine blk_alloc ?_ _)); refine blk_far ?_ NB373_375.out _; (with_reducible repeat (first | refine blk_drewN ?_ _ | refine blk_drew ?_ | refine blk_alloc ?_ _)); refine blk_far ?_ NB373_375.out _; (with_reducible repeat (first | refine blk_drewN ?_ _ | refine blk_drew ?_ | refine blk_alloc ?_ _)); refine blk_far ?_ NB373_375.out _; (with_reducible repeat (first | refine blk_drewN ?_ _ | refine blk_drew ?_ | refine blk_alloc ?_ _)); exact BK373.out) hb); have n1_ := aK (blk_below (g := gb375) (o := .cells #[.int .i64 ((rd_T65 l0 x9_1).f0.f0), .int .i64 ((rd_T65 l0 x9_1).f0.f1), .string ((rd_T65 l0 x9_1).f0.f2), .int .i64 ((rd_T65 l0 x9_1).f1.f0), .int .i64 ((rd_T65 l0 x9_1).f1.f1), .string ((rd_T65 l0 x9_1).f1.f2), .bool false] 65 (0, 0)) (put7 BK375.out) hb); have n2_ := aK (below_step (bT GE373.out GE375.out) hb); clear BK373 BK375 HB; have BK373 := n0_; have BK375 := n1_; have HB := n2_; clear n0_ n1_ n2_; (try clear hb); obtain ⟨hcz32_0, hcz32_1, hcz32_2, hcz32_3, hcz32_4, hcz32_5, hcz32_6⟩ := z7 BK375.out (.int .i64 ((rd_T65 l0 x9_1).f0.f0)) (.int .i64 ((rd_T65 l0 x9_1).f0.f1)) (.string ((rd_T65 l0 x9_1).f0.f2)) (.int .i64 ((rd_T65 l0 x9_1).f1.f0)) (.int .i64 ((rd_T65 l0 x9_1).f1.f1)) (.string ((rd_T65 l0 x9_1).f1.f2)) (.bool false); obtain ⟨hfz32_0, hfz32_1, hfz32_2, hfz32_3, hfz32_4, hfz32_5, hfz32_6⟩ := f7 BK375.out; obtain ⟨hcz33_0, hcz33_1, hcz33_2⟩ := z3 BK373.out (.int .i64 a1_0) (.int .i64 a1_1) (.string a1_2); obtain ⟨hfz33_0, hfz33_1, hfz33_2⟩ := f3 BK373.out) | (go_at_call 26; (with_reducible refine (r1_Compare.calls a1_0 a1_1 a1_2 ((rd_T65 l0 x9_1).f1.f0) ((rd_T65 l0 x9_1).f1.f1) ((rd_T65 l0 x9_1).f1.f2) t377 _ A17.out).mono ?_); rintro e w34 ⟨rfl, hb⟩; have n0_ := aK (blk_below (bX BK373.out) hb); have n1_ := aK (blk_below (bX BK375.out) hb); have n2_ := aK (below_step (bT GE373.out GE375.out) hb); clear BK373 BK375 HB; have BK373 := n0_; have BK375 := n1_; have HB := n2_; clear n0_ n1_ n2_; (try clear hb)))
     go_roundg k1
     case measure => have := HK1.out; omega
     case rel => exact ⟨(wrap64 (x9_1 + 1)), (by first | rfl | (simp; done) | (simp [*]; done)), H', ⟨by have := HK1.out; omega⟩, ⟨bX BK373.out⟩, ⟨bT GE373.out GE375.out⟩⟩
    rw [if_pos c18] at H
    have c18b0 : decide (t377 < 0) = true := decide_eq_true c18
    clear c18
    obtain rfl := Option.some.inj H
    have p374 : 0 ≤ (x9_1 : Int) := of_decide_eq_true (aA)
    have q374 : x9_1 < (l0.length : Int) := of_decide_eq_true (aA)
    obtain ⟨ad374, e374, hx374_0, hx374_1, hx374_2, hx374_3, hx374_4, hx374_5, hx374_6⟩ := at_T65 HR0.out x9_1 p374 q374
    (try rw [← Nbq9.out] at hx374_6)
    cases e374
    replace hx374_0 := hW HB.out hx374_0
    replace hx374_1 := hW HB.out hx374_1
    replace hx374_2 := hW HB.out hx374_2
    replace hx374_3 := hW HB.out hx374_3
    replace hx374_4 := hW HB.out hx374_4
    replace hx374_5 := hW HB.out hx374_5
    replace hx374_6 := hW HB.out hx374_6
    replace p374 := eq_true p374
    replace q374 := eq_true q374
    go_wp2_with (first | ((with_reducible refine gate_dst (N := 6) rfl ?_); refine box_event ?hg (N := 6) ?hd (cs := #[.int .i64 0, .int .i64 0, .string (⟨#[]⟩ : ByteArray), .int .i64 0, .int .i64 0, .string (⟨#[]⟩ : ByteArray), .bool false]) (t := 65) ?hr ?_; (case hd => rfl); (case hg => rfl); (case hr => exact hR); intro gb375 hg w19 hbox hb; have n0_ := aK (blk_below (bX BK373.out) hb); have n1_ := aK (below_step (bS GE373.out) hb); have n2_ := aK (hbox); have n3_ := aK ((by rw [hg]; exact (below_size (bS GE373.out)) : w.heap.size ≤ gb375)); have n4_ := aK ((by rw [hg]; exact (below_size (bS GE373.out)) : w.heap.size ≤ gb375)); have n5_ := aK ((by rw [hg]; exact Nat.ne_of_lt (blk_lt (bX BK373.out)) : gb373 ≠ gb375)); have n6_ := aK ((by rw [hg]; exact Nat.ne_of_gt (blk_lt (bX BK373.out)) : gb375 ≠ gb373)); clear BK373 HB; have BK373 := n0_; have HB := n1_; have BK375 := n2_; have GW375 := n3_; have GE375 := n4_; have NB373_375 := n5_; have NB375_373 := n6_; clear n0_ n1_ n2_ n3_ n4_ n5_ n6_ hb hbox hg; have hnb20 := NB375_373.out; have hnc20 := NB373_375.out; obtain ⟨hcz21_0, hcz21_1, hcz21_2, hcz21_3, hcz21_4, hcz21_5, hcz21_6⟩ := z7 BK375.out (.int .i64 0) (.int .i64 0) (.string (⟨#[]⟩ : ByteArray)) (.int .i64 0) (.int .i64 0) (.string (⟨#[]⟩ : ByteArray)) (.bool false); obtain ⟨hfz21_0, hfz21_1, hfz21_2, hfz21_3, hfz21_4, hfz21_5, hfz21_6⟩ := f7 BK375.out; obtain ⟨hcz22_0, hcz22_1, hcz22_2⟩ := z3 BK373.out (.int .i64 a1_0) (.int .i64 a1_1) (.string a1_2); obtain ⟨hfz22_0, hfz22_1, hfz22_2⟩ := f3 BK373.out) | ((with_reducible refine gate_callee (f := 26) rfl ?_); refine gL (some 16) rfl Try.func26 #[.agg #[.int .i64 ((rd_T65 l0 x9_1).f0.f0), .int .i64 ((rd_T65 l0 x9_1).f0.f1), .string ((rd_T65 l0 x9_1).f0.f2)], .agg #[.int .i64 a1_0, .int .i64 a1_1, .string a1_2]] rfl ?_; (with_reducible refine (r1_Compare.calls ((rd_T65 l0 x9_1).f0.f0) ((rd_T65 l0 x9_1).f0.f1) ((rd_T65 l0 x9_1).f0.f2) a1_0 a1_1 a1_2 t376 _ A7.out).mono ?_); rintro e w23 ⟨rfl, hb⟩; refine ⟨_, rfl, ?_⟩; have n0_ := aK (blk_below (g := gb373) (o := .cells #[.int .i64 a1_0, .int .i64 a1_1, .string a1_2] 24 (0, 0)) (by (with_reducible repeat (first | refine blk_drewN ?_ _ | refine blk_drew ?_ | refine blk_alloc ?_ _)); refine blk_far ?_ NB373_375.out _; (with_reducible repeat (first | refine blk_drewN ?_ _ | refine blk_drew ?_ | refine blk_alloc ?_ _)); refine blk_far ?_ NB373_375.out _; (with_reducible repeat (first | refine blk_drewN ?_ _ | refine blk_drew ?_ | refine blk_alloc ?_ _)); refine blk_far ?_ NB373_375.out _; (with_reducible repeat (first | refine blk_drewN ?_ _ | refine blk_drew ?_ | refine blk_alloc ?_ _)); refine blk_far ?_ NB373_375.out _; (with_reducible repeat (first | refine blk_drewN ?_ _ | refine blk_drew ?_ | refine blk_alloc ?_ _)); refine blk_far ?_ NB373_375.out _; (with_reducible repeat (first | refine blk_drewN ?_ _ | refine blk_drew ?_ | refine blk_alloc ?_ _)); refine blk_far ?_ NB373_375.out _; (with_reducible repeat (first | refine blk_drewN ?_ _ | refine blk_drew ?_ | refine blk_alloc ?_ _)); refine blk_far ?_ NB373_375.out _; (with_reducible repeat (first | refine blk_drewN ?_ _ | refine blk_drew ?_ | refine blk_alloc ?_ _)); exact BK373.out) hb); have n1_ := aK (blk_below (g := gb375) (o := .cells #[.int .i64 ((rd_T65 l0 x9_1).f0.f0), .int .i64 ((rd_T65 l0 x9_1).f0.f1), .string ((rd_T65 l0 x9_1).f0.f2), .int .i64 ((rd_T65 l0 x9_1).f1.f0), .int .i64 ((rd_T65 l0 x9_1).f1.f1), .string ((rd_T65 l0 x9_1).f1.f2), .bool false] 65 (0, 0)) (put7 BK375.out) hb); have n2_ := aK (below_step (bT GE373.out GE375.out) hb); clear BK373 BK375 HB; have BK373 := n0_; have BK375 := n1_; have HB := n2_; clear n0_ n1_ n2_; (try clear hb); obtain ⟨hcz24_0, hcz24_1, hcz24_2, hcz24_3, hcz24_4, hcz24_5, hcz24_6⟩ := z7 BK375.out (.int .i64 ((rd_T65 l0 x9_1).f0.f0)) (.int .i64 ((rd_T65 l0 x9_1).f0.f1)) (.string ((rd_T65 l0 x9_1).f0.f2)) (.int .i64 ((rd_T65 l0 x9_1).f1.f0)) (.int .i64 ((rd_T65 l0 x9_1).f1.f1)) (.string ((rd_T65 l0 x9_1).f1.f2)) (.bool false); obtain ⟨hfz24_0, hfz24_1, hfz24_2, hfz24_3, hfz24_4, hfz24_5, hfz24_6⟩ := f7 BK375.out; obtain ⟨hcz25_0, hcz25_1, hcz25_2⟩ := z3 BK373.out (.int .i64 a1_0) (.int .i64 a1_1) (.string a1_2); obtain ⟨hfz25_0, hfz25_1, hfz25_2⟩ := f3 BK373.out) | (go_at_call 26; (with_reducible refine (r1_Compare.calls a1_0 a1_1 a1_2 ((rd_T65 l0 x9_1).f1.f0) ((rd_T65 l0 x9_1).f1.f1) ((rd_T65 l0 x9_1).f1.f2) t377 _ A17.out).mono ?_); rintro e w26 ⟨rfl, hb⟩; have n0_ := aK (blk_below (bX BK373.out) hb); have n1_ := aK (blk_below (bX BK375.out) hb); have n2_ := aK (below_step (bT GE373.out GE375.out) hb); clear BK373 BK375 HB; have BK373 := n0_; have BK375 := n1_; have HB := n2_; clear n0_ n1_ n2_; (try clear hb)))
    go_ret
    exact ⟨eW, bT GE373.out GE375.out⟩
   subst c10
   rw [if_pos rfl] at H
   obtain rfl := Option.some.inj H
   have p374 : 0 ≤ (x9_1 : Int) := of_decide_eq_true (aA)
   have q374 : x9_1 < (l0.length : Int) := of_decide_eq_true (aA)
   obtain ⟨ad374, e374, hx374_0, hx374_1, hx374_2, hx374_3, hx374_4, hx374_5, hx374_6⟩ := at_T65 HR0.out x9_1 p374 q374
   (try rw [← Nbq9.out] at hx374_6)
   cases e374
   replace hx374_0 := hW HB.out hx374_0
   replace hx374_1 := hW HB.out hx374_1
   replace hx374_2 := hW HB.out hx374_2
   replace hx374_3 := hW HB.out hx374_3
   replace hx374_4 := hW HB.out hx374_4
   replace hx374_5 := hW HB.out hx374_5
   replace hx374_6 := hW HB.out hx374_6
   replace p374 := eq_true p374
   replace q374 := eq_true q374
   go_wp2_with (first | ((with_reducible refine gate_dst (N := 6) rfl ?_); refine box_event ?hg (N := 6) ?hd (cs := #[.int .i64 0, .int .i64 0, .string (⟨#[]⟩ : ByteArray), .int .i64 0, .int .i64 0, .string (⟨#[]⟩ : ByteArray), .bool false]) (t := 65) ?hr ?_; (case hd => rfl); (case hg => rfl); (case hr => exact hR); intro gb375 hg w11 hbox hb; have n0_ := aK (blk_below (bX BK373.out) hb); have n1_ := aK (below_step (bS GE373.out) hb); have n2_ := aK (hbox); have n3_ := aK ((by rw [hg]; exact (below_size (bS GE373.out)) : w.heap.size ≤ gb375)); have n4_ := aK ((by rw [hg]; exact (below_size (bS GE373.out)) : w.heap.size ≤ gb375)); have n5_ := aK ((by rw [hg]; exact Nat.ne_of_lt (blk_lt (bX BK373.out)) : gb373 ≠ gb375)); have n6_ := aK ((by rw [hg]; exact Nat.ne_of_gt (blk_lt (bX BK373.out)) : gb375 ≠ gb373)); clear BK373 HB; have BK373 := n0_; have HB := n1_; have BK375 := n2_; have GW375 := n3_; have GE375 := n4_; have NB373_375 := n5_; have NB375_373 := n6_; clear n0_ n1_ n2_ n3_ n4_ n5_ n6_ hb hbox hg; have hnb12 := NB375_373.out; have hnc12 := NB373_375.out; obtain ⟨hcz13_0, hcz13_1, hcz13_2, hcz13_3, hcz13_4, hcz13_5, hcz13_6⟩ := z7 BK375.out (.int .i64 0) (.int .i64 0) (.string (⟨#[]⟩ : ByteArray)) (.int .i64 0) (.int .i64 0) (.string (⟨#[]⟩ : ByteArray)) (.bool false); obtain ⟨hfz13_0, hfz13_1, hfz13_2, hfz13_3, hfz13_4, hfz13_5, hfz13_6⟩ := f7 BK375.out; obtain ⟨hcz14_0, hcz14_1, hcz14_2⟩ := z3 BK373.out (.int .i64 a1_0) (.int .i64 a1_1) (.string a1_2); obtain ⟨hfz14_0, hfz14_1, hfz14_2⟩ := f3 BK373.out) | ((with_reducible refine gate_callee (f := 26) rfl ?_); refine gL (some 16) rfl Try.func26 #[.agg #[.int .i64 ((rd_T65 l0 x9_1).f0.f0), .int .i64 ((rd_T65 l0 x9_1).f0.f1), .string ((rd_T65 l0 x9_1).f0.f2)], .agg #[.int .i64 a1_0, .int .i64 a1_1, .string a1_2]] rfl ?_; (with_reducible refine (r1_Compare.calls ((rd_T65 l0 x9_1).f0.f0) ((rd_T65 l0 x9_1).f0.f1) ((rd_T65 l0 x9_1).f0.f2) a1_0 a1_1 a1_2 t376 _ A7.out).mono ?_); rintro e w15 ⟨rfl, hb⟩; refine ⟨_, rfl, ?_⟩; have n0_ := aK (blk_below (g := gb373) (o := .cells #[.int .i64 a1_0, .int .i64 a1_1, .string a1_2] 24 (0, 0)) (by (with_reducible repeat (first | refine blk_drewN ?_ _ | refine blk_drew ?_ | refine blk_alloc ?_ _)); refine blk_far ?_ NB373_375.out _; (with_reducible repeat (first | refine blk_drewN ?_ _ | refine blk_drew ?_ | refine blk_alloc ?_ _)); refine blk_far ?_ NB373_375.out _; (with_reducible repeat (first | refine blk_drewN ?_ _ | refine blk_drew ?_ | refine blk_alloc ?_ _)); refine blk_far ?_ NB373_375.out _; (with_reducible repeat (first | refine blk_drewN ?_ _ | refine blk_drew ?_ | refine blk_alloc ?_ _)); refine blk_far ?_ NB373_375.out _; (with_reducible repeat (first | refine blk_drewN ?_ _ | refine blk_drew ?_ | refine blk_alloc ?_ _)); refine blk_far ?_ NB373_375.out _; (with_reducible repeat (first | refine blk_drewN ?_ _ | refine blk_drew ?_ | refine blk_alloc ?_ _)); refine blk_far ?_ NB373_375.out _; (with_reducible repeat (first | refine blk_drewN ?_ _ | refine blk_drew ?_ | refine blk_alloc ?_ _)); refine blk_far ?_ NB373_375.out _; (with_reducible repeat (first | refine blk_drewN ?_ _ | refine blk_drew ?_ | refine blk_alloc ?_ _)); exact BK373.out) hb); have n1_ := aK (blk_below (g := gb375) (o := .cells #[.int .i64 ((rd_T65 l0 x9_1).f0.f0), .int .i64 ((rd_T65 l0 x9_1).f0.f1), .string ((rd_T65 l0 x9_1).f0.f2), .int .i64 ((rd_T65 l0 x9_1).f1.f0), .int .i64 ((rd_T65 l0 x9_1).f1.f1), .string ((rd_T65 l0 x9_1).f1.f2), .bool true] 65 (0, 0)) (put7 BK375.out) hb); have n2_ := aK (below_step (bT GE373.out GE375.out) hb); clear BK373 BK375 HB; have BK373 := n0_; have BK375 := n1_; have HB := n2_; clear n0_ n1_ n2_; (try clear hb); obtain ⟨hcz16_0, hcz16_1, hcz16_2, hcz16_3, hcz16_4, hcz16_5, hcz16_6⟩ := z7 BK375.out (.int .i64 ((rd_T65 l0 x9_1).f0.f0)) (.int .i64 ((rd_T65 l0 x9_1).f0.f1)) (.string ((rd_T65 l0 x9_1).f0.f2)) (.int .i64 ((rd_T65 l0 x9_1).f1.f0)) (.int .i64 ((rd_T65 l0 x9_1).f1.f1)) (.string ((rd_T65 l0 x9_1).f1.f2)) (.bool true); obtain ⟨hfz16_0, hfz16_1, hfz16_2, hfz16_3, hfz16_4, hfz16_5, hfz16_6⟩ := f7 BK375.out))
   go_ret
   exact ⟨eW, bT GE373.out GE375.out⟩
end Go.Proofs.Ytpjcdacnhalclaa.Q
