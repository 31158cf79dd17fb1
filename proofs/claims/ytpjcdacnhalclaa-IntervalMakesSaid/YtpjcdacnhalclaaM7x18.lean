/- A part of the proof of the law that the last part names: facts of the functions that the law calls. No condition beyond those that stand in them. -/
import Derived.Test.YtpjcdacnhalclaaM7x3
import Derived.Test.YtpjcdacnhalclaaM7x5
import Derived.Test.YtpjcdacnhalclaaM7x17
import Derived.Test.YtpjcdacnhalclaaM7x13
import Derived.Test.YtpjcdacnhalclaaM7x12
import Derived.Test.YtpjcdacnhalclaaM7x16
import Derived.Lib.Bytes
import Derived.Test.YtpjcdacnhalclaaM7x8
import Derived.Test.YtpjcdacnhalclaaM7x7
namespace Go.Proofs.Ytpjcdacnhalclaa.Q
open Go.RowKit Go.Proofs.YtpjcdacnhalclaaW.PrintWords Go.Proofs.YtpjcdacnhalclaaW.PrintLast Go.Proofs.YtpjcdacnhalclaaW.PrintMore
attribute [local go_sem] max2_int min2_int max_two min_two max_three min_three max_four min_four
set_option linter.unusedVariables false
set_option linter.unusedSimpArgs false
def interval_One.f (k : Nat) (a0_0 : Int) (a0_1 : Int) (a0_2 : ByteArray) : Option ((List (S65)) × Int) := (value_Valid.f k a0_0 a0_1 a0_2).bind fun t677 => (if t677 = true then ((value_Next.f k a0_0 a0_1 a0_2).bind fun bt678 => (if bt678.2.2.2 = true then (some ((([(⟨(⟨a0_0, a0_1, a0_2⟩ : S24), (⟨bt678.1, bt678.2.1, bt678.2.2.1⟩ : S24), false⟩ : S65)] : List (S65))), 0)) else (some ((([(⟨(⟨a0_0, a0_1, a0_2⟩ : S24), (⟨0, 0, (⟨#[]⟩ : ByteArray)⟩ : S24), true⟩ : S65)] : List (S65))), 0)))) else (some (([] : List (S65)), 10)))
set_option maxHeartbeats 8000000 in
set_option maxRecDepth 100000 in
theorem interval_One.calls (k : Nat) (a0_0 : Int) (a0_1 : Int) (a0_2 : ByteArray) (r1 : List (S65)) (r2 : Int) (w : World) (h : interval_One.f k a0_0 a0_1 a0_2 = some (r1, r2)) :
  Calls Try.prog 41 #[.agg #[.int .i64 a0_0, .int .i64 a0_1, .string a0_2]] w fun e w' => ∃ v0_ : Value, e = .returned (.tuple #[v0_, .int .i64 r2]) ∧ Kd.R k65 65 w' w.heap.size (fun _ => True) v0_ r1 ∧ Below w.heap.size w w' := by
 have hu24 := Try.underlying24
 have hu65 := Try.underlying65
 have HB := Aside0.mk (Below.refl w.heap.size w)
 have H : ((value_Valid.f k a0_0 a0_1 a0_2).bind fun t677 => (if t677 = true then ((value_Next.f k a0_0 a0_1 a0_2).bind fun bt678 => (if bt678.2.2.2 = true then (some ((([(⟨(⟨a0_0, a0_1, a0_2⟩ : S24), (⟨bt678.1, bt678.2.1, bt678.2.2.1⟩ : S24), false⟩ : S65)] : List (S65))), 0)) else (some ((([(⟨(⟨a0_0, a0_1, a0_2⟩ : S24), (⟨0, 0, (⟨#[]⟩ : ByteArray)⟩ : S24), true⟩ : S65)] : List (S65))), 0)))) else (some (([] : List (S65)), 10)))) = some (r1, r2) := h
 clear h
 replace H := Option.bind_eq_some_iff.mp H
 obtain ⟨t677, A20, H⟩ := H
 replace H : (if t677 = true then ((value_Next.f k a0_0 a0_1 a0_2).bind fun bt678 => (if bt678.2.2.2 = true then (some ((([(⟨(⟨a0_0, a0_1, a0_2⟩ : S24), (⟨bt678.1, bt678.2.1, bt678.2.2.1⟩ : S24), false⟩ : S65)] : List (S65))), 0)) else (some ((([(⟨(⟨a0_0, a0_1, a0_2⟩ : S24), (⟨0, 0, (⟨#[]⟩ : ByteArray)⟩ : S24), true⟩ : S65)] : List (S65))), 0)))) else (some (([] : List (S65)), 10))) = some (r1, r2) := H
 have A2 := Aside0.mk A20
 clear A20
 by_cases c3 : t677 = true
 ·subst c3
  have H1 : ((value_Next.f k a0_0 a0_1 a0_2).bind fun bt678 => (if bt678.2.2.2 = true then (some ((([(⟨(⟨a0_0, a0_1, a0_2⟩ : S24), (⟨bt678.1, bt678.2.1, bt678.2.2.1⟩ : S24), false⟩ : S65)] : List (S65))), 0)) else (some ((([(⟨(⟨a0_0, a0_1, a0_2⟩ : S24), (⟨0, 0, (⟨#[]⟩ : ByteArray)⟩ : S24), true⟩ : S65)] : List (S65))), 0)))) = some (r1, r2) := by rw [if_pos rfl] at H; exact H
  clear H
  have H := H1
  clear H1
  replace H := Option.bind_eq_some_iff.mp H
  obtain ⟨⟨t678, t679, t680, t681⟩, A40, H⟩ := H
  replace H : (if t681 = true then (some ((([(⟨(⟨a0_0, a0_1, a0_2⟩ : S24), (⟨t678, t679, t680⟩ : S24), false⟩ : S65)] : List (S65))), 0)) else (some ((([(⟨(⟨a0_0, a0_1, a0_2⟩ : S24), (⟨0, 0, (⟨#[]⟩ : ByteArray)⟩ : S24), true⟩ : S65)] : List (S65))), 0))) = some (r1, r2) := H
  have A4 := Aside0.mk A40
  clear A40
  by_cases c5 : t681 = true
  ·subst c5
   have H1 : (some ((([(⟨(⟨a0_0, a0_1, a0_2⟩ : S24), (⟨t678, t679, t680⟩ : S24), false⟩ : S65)] : List (S65))), 0)) = some (r1, r2) := by rw [if_pos rfl] at H; exact H
   clear H
   have H := H1
   clear H1
   obtain ⟨y683, hy683⟩ : ∃ y_ : List (S65), y_ = (([(⟨(⟨a0_0, a0_1, a0_2⟩ : S24), (⟨t678, t679, t680⟩ : S24), false⟩ : S65)] : List (S65))) := ⟨_, rfl⟩
   replace H : (some (y683, 0)) = some (r1, r2) := by first | (rw [hy683]; with_reducible exact H) | (have H2_ := (Option.bind_some _ _).symm.trans H; rw [hy683]; with_reducible exact H2_) | (have H2_ := (Option.bind_some _ _).symm.trans H; with_reducible exact H2_) | with_reducible exact H | (rw [hy683]; exact H) | exact H
   have Ny683 := Aside0.mk hy683
   clear hy683
   simp only [Option.some.injEq, Prod.mk.injEq] at H
   obtain ⟨rfl, rfl⟩ := H
   go_enter Try.func41, Try.ntmps41
   go_wp2_with (first | ((with_reducible refine gate_dst (N := 1) rfl ?_); refine box_event ?hg (N := 1) ?hd (cs := #[.int .i64 a0_0, .int .i64 a0_1, .string a0_2]) (t := 24) ?hr ?_; (case hd => rfl); (case hg => rfl); (case hr => first | (go_simp; done) | (go_simp; rfl)); intro gb676 hg w6 hbox hb; have n0_ := Aside0.mk (below_step bO hb); have n1_ := Aside0.mk (hbox); have n2_ := Aside0.mk ((by rw [hg]; exact (below_size bO) : w.heap.size ≤ gb676)); have n3_ := Aside0.mk ((by rw [hg]; exact (below_size bO) : w.heap.size ≤ gb676)); clear HB; have HB := n0_; have BK676 := n1_; have GW676 := n2_; have GE676 := n3_; clear n0_ n1_ n2_ n3_; clear hb hbox hg; have hcz7_0 : w6.cell? ⟨gb676, 0, none⟩ = some (.int .i64 a0_0) := (blk_cell BK676.out 0).trans rfl; have hcz7_1 : w6.cell? ⟨gb676, 1, none⟩ = some (.int .i64 a0_1) := (blk_cell BK676.out 1).trans rfl; have hcz7_2 : w6.cell? ⟨gb676, 2, none⟩ = some (.string a0_2) := (blk_cell BK676.out 2).trans rfl; have hfz7_0 := blk_frozen BK676.out 0; have hfz7_1 := blk_frozen BK676.out 1; have hfz7_2 := blk_frozen BK676.out 2) | ((with_reducible refine gate_callee (f := 21) rfl ?_); refine gL (some 7) rfl Try.func21 #[.agg #[.int .i64 a0_0, .int .i64 a0_1, .string a0_2]] rfl ?_; (with_reducible refine (value_Valid.calls k a0_0 a0_1 a0_2 true _ A2.out).mono ?_); rintro e w8 ⟨rfl, hb⟩; refine ⟨_, rfl, ?_⟩; have n0_ := Aside0.mk (blk_below (g := gb676) (o := .cells #[.int .i64 a0_0, .int .i64 a0_1, .string a0_2] 24 (0, 0)) (bX BK676.out) hb); have n1_ := Aside0.mk (below_step (bS GE676.out) hb); clear BK676; clear HB; have BK676 := n0_; have HB := n1_; clear n0_ n1_; (try clear hb); (try clear hb2); (try clear hk); (try clear hi); have hcz9_0 : w8.cell? ⟨gb676, 0, none⟩ = some (.int .i64 a0_0) := (blk_cell BK676.out 0).trans rfl; have hcz9_1 : w8.cell? ⟨gb676, 1, none⟩ = some (.int .i64 a0_1) := (blk_cell BK676.out 1).trans rfl; have hcz9_2 : w8.cell? ⟨gb676, 2, none⟩ = some (.string a0_2) := (blk_cell BK676.out 2).trans rfl; have hfz9_0 := blk_frozen BK676.out 0; have hfz9_1 := blk_frozen BK676.out 1; have hfz9_2 := blk_frozen BK676.out 2) | ((with_reducible refine gate_callee (f := 27) rfl ?_); refine gL (some 11) rfl Try.func27 #[.agg #[.int .i64 a0_0, .int .i64 a0_1, .string a0_2]] rfl ?_; (with_reducible refine (value_Next.calls k a0_0 a0_1 a0_2 t678 t679 t680 true _ A4.out).mono ?_); rintro e w10 ⟨rfl, hb⟩; refine ⟨_, rfl, ?_⟩; have n0_ := Aside0.mk (blk_below (g := gb676) (o := .cells #[.int .i64 a0_0, .int .i64 a0_1, .string a0_2] 24 (0, 0)) (bX BK676.out) hb); have n1_ := Aside0.mk (below_step (bS GE676.out) hb); clear BK676; clear HB; have BK676 := n0_; have HB := n1_; clear n0_ n1_; (try clear hb); (try clear hb2); (try clear hk); (try clear hi)) | ((with_reducible refine gate_dst (N := 4) rfl ?_); refine box_event ?hg (N := 4) ?hd (cs := #[.int .i64 0, .int .i64 0, .string (⟨#[]⟩ : ByteArray)]) (t := 24) ?hr ?_; (case hd => rfl); (case hg => rfl); (case hr => first | (go_simp; done) | (go_simp; rfl)); intro gb682 hg w11 hbox hb; have n0_ := Aside0.mk (blk_below (g := gb676) (o := .cells #[.int .i64 a0_0, .int .i64 a0_1, .string a0_2] 24 (0, 0)) (bX BK676.out) hb); have n1_ := Aside0.mk (below_step (bS GE676.out) hb); have n2_ := Aside0.mk (hbox); have n3_ := Aside0.mk ((by rw [hg]; exact (below_size (bS GE676.out)) : w.heap.size ≤ gb682)); have n4_ := Aside0.mk ((by rw [hg]; exact (below_size (bS GE676.out)) : w.heap.size ≤ gb682)); have n5_ := Aside0.mk ((by rw [hg]; exact Nat.ne_of_lt (blk_lt (g := gb676) (o := .cells #[.int .i64 a0_0, .int .i64 a0_1, .string a0_2] 24 (0, 0)) (bX BK676.out)) : gb676 ≠ gb682)); have n6_ := Aside0.mk ((by rw [hg]; exact Nat.ne_of_gt (blk_lt (g := gb676) (o := .cells #[.int .i64 a0_0, .int .i64 a0_1, .string a0_2] 24 (0, 0)) (bX BK676.out)) : gb682 ≠ gb676)); clear BK676; clear HB; have BK676 := n0_; have HB := n1_; have BK682 := n2_; have GW682 := n3_; have GE682 := n4_; have NB676_682 := n5_; have NB682_676 := n6_; clear n0_ n1_ n2_ n3_ n4_ n5_ n6_; clear hb hbox hg; have hnb12 := NB682_676.out; have hnc12 := NB676_682.out; have hcz13_0 : w11.cell? ⟨gb682, 0, none⟩ = some (.int .i64 0) := (blk_cell BK682.out 0).trans rfl; have hcz13_1 : w11.cell? ⟨gb682, 1, none⟩ = some (.int .i64 0) := (blk_cell BK682.out 1).trans rfl; have hcz13_2 : w11.cell? ⟨gb682, 2, none⟩ = some (.string (⟨#[]⟩ : ByteArray)) := (blk_cell BK682.out 2).trans rfl; have hfz13_0 := blk_frozen BK682.out 0; have hfz13_1 := blk_frozen BK682.out 1; have hfz13_2 := blk_frozen BK682.out 2; have hcz14_0 : w11.cell? ⟨gb676, 0, none⟩ = some (.int .i64 a0_0) := (blk_cell BK676.out 0).trans rfl; have hcz14_1 : w11.cell? ⟨gb676, 1, none⟩ = some (.int .i64 a0_1) := (blk_cell BK676.out 1).trans rfl; have hcz14_2 : w11.cell? ⟨gb676, 2, none⟩ = some (.string a0_2) := (blk_cell BK676.out 2).trans rfl; have hfz14_0 := blk_frozen BK676.out 0; have hfz14_1 := blk_frozen BK676.out 1; have hfz14_2 := blk_frozen BK676.out 2) | ((with_reducible refine gate_dst (N := 18) rfl ?_); refine Kd.R_lit k65 _ 65 ?hg (N := 18) ?hd (xs := ([(⟨(⟨a0_0, a0_1, a0_2⟩ : S24), (⟨t678, t679, t680⟩ : S24), false⟩ : S65)] : List (S65))) (inner := [.int .i64 a0_0, .int .i64 a0_1, .string a0_2, .int .i64 t678, .int .i64 t679, .string t680, .bool false]) (ok := fun _ => True) (okp := fun _ => True) ?hr ?hp (fun _ hk => hk) trivial (Below.refl _ _) (Nat.le_refl _) (by simp) ?_; (case hd => rfl); (case hg => rfl); (case hr => first | (go_simp; done) | (go_simp; rfl)); (case hp => exact (Reps.c7 (show Kd.M k65 _ _ _ (⟨(⟨a0_0, a0_1, a0_2⟩ : S24), (⟨t678, t679, t680⟩ : S24), false⟩ : S65) [.int .i64 a0_0, .int .i64 a0_1, .string a0_2, .int .i64 t678, .int .i64 t679, .string t680, .bool false] from (k65_mkM _ _ _ (⟨(⟨a0_0, a0_1, a0_2⟩ : S24), (⟨t678, t679, t680⟩ : S24), false⟩ : S65) )) (Reps.none _ _))); intro v684 w15 ho16 hb hg_ hnew_; clear hg_ hnew_; (first | rw [← Ny683.out] at ho16 | (simp only [Int.reduceToNat] at ho16; rw [← Ny683.out] at ho16)); have n0_ := Aside0.mk (Kd.R_lower ho16 (below_size (bT GE676.out GE682.out))); have n1_ := Aside0.mk (blk_below (g := gb676) (o := .cells #[.int .i64 a0_0, .int .i64 a0_1, .string a0_2] 24 (0, 0)) (by (with_reducible repeat (first | refine blk_drewN ?_ _ | refine blk_drew ?_ | refine blk_alloc ?_ _)); refine blk_far ?_ NB676_682.out _; (with_reducible repeat (first | refine blk_drewN ?_ _ | refine blk_drew ?_ | refine blk_alloc ?_ _)); refine blk_far ?_ NB676_682.out _; (with_reducible repeat (first | refine blk_drewN ?_ _ | refine blk_drew ?_ | refine blk_alloc ?_ _)); refine blk_far ?_ NB676_682.out _; (with_reducible repeat (first | refine blk_drewN ?_ _ | refine blk_drew ?_ | refine blk_alloc ?_ _)); exact BK676.out) hb); have n2_ := Aside0.mk (blk_below (g := gb682) (o := .cells #[.int .i64 t678, .int .i64 t679, .string t680] 24 (0, 0)) (by (with_reducible repeat (first | refine blk_drewN ?_ _ | refine blk_drew ?_ | refine blk_alloc ?_ _)); refine blk_put (cs := #[.int .i64 t678, .int .i64 t679, .string (⟨#[]⟩ : ByteArray)]) ?_ 2 _ rfl; (with_reducible repeat (first | refine blk_drewN ?_ _ | refine blk_drew ?_ | refine blk_alloc ?_ _)); refine blk_put (cs := #[.int .i64 t678, .int .i64 0, .string (⟨#[]⟩ : ByteArray)]) ?_ 1 _ rfl; (with_reducible repeat (first | refine blk_drewN ?_ _ | refine blk_drew ?_ | refine blk_alloc ?_ _)); refine blk_put (cs := #[.int .i64 0, .int .i64 0, .string (⟨#[]⟩ : ByteArray)]) ?_ 0 _ rfl; (with_reducible repeat (first | refine blk_drewN ?_ _ | refine blk_drew ?_ | refine blk_alloc ?_ _)); exact BK682.out) hb); have n3_ := Aside0.mk (below_step (bT GE676.out GE682.out) hb); clear BK676; clear BK682; clear HB; have HO685 := n0_; have BK676 := n1_; have BK682 := n2_; have HB := n3_; clear n0_ n1_ n2_ n3_; clear hb ho16))
   go_ret2
   exact ⟨_, by first | rfl | (simp [errW_none, errW_some] <;> rfl) | (simp [*, errW_none, errW_some] <;> rfl), by (with_reducible repeat (first | apply Kd.R_alloc | apply Kd.R_drewN | apply Kd.R_drew)); exact HO685.out, by repeat (first | (with_reducible first | exact HB.out | apply below_alloc | apply pw_below_drewN | apply below_drew1 | refine below_set ?_ GE676.out | refine below_set ?_ GE682.out) | exact HB.out)⟩
  ·replace c5 := Bool.eq_false_iff.mpr c5
   subst c5
   have H1 : (some ((([(⟨(⟨a0_0, a0_1, a0_2⟩ : S24), (⟨0, 0, (⟨#[]⟩ : ByteArray)⟩ : S24), true⟩ : S65)] : List (S65))), 0)) = some (r1, r2) := by rw [if_neg (show ¬ (false = true) by decide)] at H; exact H
   clear H
   have H := H1
   clear H1
   obtain ⟨y686, hy686⟩ : ∃ y_ : List (S65), y_ = (([(⟨(⟨a0_0, a0_1, a0_2⟩ : S24), (⟨0, 0, (⟨#[]⟩ : ByteArray)⟩ : S24), true⟩ : S65)] : List (S65))) := ⟨_, rfl⟩
   replace H : (some (y686, 0)) = some (r1, r2) := by first | (rw [hy686]; with_reducible exact H) | (have H2_ := (Option.bind_some _ _).symm.trans H; rw [hy686]; with_reducible exact H2_) | (have H2_ := (Option.bind_some _ _).symm.trans H; with_reducible exact H2_) | with_reducible exact H | (rw [hy686]; exact H) | exact H
   have Ny686 := Aside0.mk hy686
   clear hy686
   simp only [Option.some.injEq, Prod.mk.injEq] at H
   obtain ⟨rfl, rfl⟩ := H
   go_enter Try.func41, Try.ntmps41
   go_wp2_with (first | ((with_reducible refine gate_dst (N := 1) rfl ?_); refine box_event ?hg (N := 1) ?hd (cs := #[.int .i64 a0_0, .int .i64 a0_1, .string a0_2]) (t := 24) ?hr ?_; (case hd => rfl); (case hg => rfl); (case hr => first | (go_simp; done) | (go_simp; rfl)); intro gb676 hg w17 hbox hb; have n0_ := Aside0.mk (below_step bO hb); have n1_ := Aside0.mk (hbox); have n2_ := Aside0.mk ((by rw [hg]; exact (below_size bO) : w.heap.size ≤ gb676)); have n3_ := Aside0.mk ((by rw [hg]; exact (below_size bO) : w.heap.size ≤ gb676)); clear HB; have HB := n0_; have BK676 := n1_; have GW676 := n2_; have GE676 := n3_; clear n0_ n1_ n2_ n3_; clear hb hbox hg; have hcz18_0 : w17.cell? ⟨gb676, 0, none⟩ = some (.int .i64 a0_0) := (blk_cell BK676.out 0).trans rfl; have hcz18_1 : w17.cell? ⟨gb676, 1, none⟩ = some (.int .i64 a0_1) := (blk_cell BK676.out 1).trans rfl; have hcz18_2 : w17.cell? ⟨gb676, 2, none⟩ = some (.string a0_2) := (blk_cell BK676.out 2).trans rfl; have hfz18_0 := blk_frozen BK676.out 0; have hfz18_1 := blk_frozen BK676.out 1; have hfz18_2 := blk_frozen BK676.out 2) | ((with_reducible refine gate_callee (f := 21) rfl ?_); refine gL (some 7) rfl Try.func21 #[.agg #[.int .i64 a0_0, .int .i64 a0_1, .string a0_2]] rfl ?_; (with_reducible refine (value_Valid.calls k a0_0 a0_1 a0_2 true _ A2.out).mono ?_); rintro e w19 ⟨rfl, hb⟩; refine ⟨_, rfl, ?_⟩; have n0_ := Aside0.mk (blk_below (g := gb676) (o := .cells #[.int .i64 a0_0, .int .i64 a0_1, .string a0_2] 24 (0, 0)) (bX BK676.out) hb); have n1_ := Aside0.mk (below_step (bS GE676.out) hb); clear BK676; clear HB; have BK676 := n0_; have HB := n1_; clear n0_ n1_; (try clear hb); (try clear hb2); (try clear hk); (try clear hi); have hcz20_0 : w19.cell? ⟨gb676, 0, none⟩ = some (.int .i64 a0_0) := (blk_cell BK676.out 0).trans rfl; have hcz20_1 : w19.cell? ⟨gb676, 1, none⟩ = some (.int .i64 a0_1) := (blk_cell BK676.out 1).trans rfl; have hcz20_2 : w19.cell? ⟨gb676, 2, none⟩ = some (.string a0_2) := (blk_cell BK676.out 2).trans rfl; have hfz20_0 := blk_frozen BK676.out 0; have hfz20_1 := blk_frozen BK676.out 1; have hfz20_2 := blk_frozen BK676.out 2) | ((with_reducible refine gate_callee (f := 27) rfl ?_); refine gL (some 11) rfl Try.func27 #[.agg #[.int .i64 a0_0, .int .i64 a0_1, .string a0_2]] rfl ?_; (with_reducible refine (value_Next.calls k a0_0 a0_1 a0_2 t678 t679 t680 false _ A4.out).mono ?_); rintro e w21 ⟨rfl, hb⟩; refine ⟨_, rfl, ?_⟩; have n0_ := Aside0.mk (blk_below (g := gb676) (o := .cells #[.int .i64 a0_0, .int .i64 a0_1, .string a0_2] 24 (0, 0)) (bX BK676.out) hb); have n1_ := Aside0.mk (below_step (bS GE676.out) hb); clear BK676; clear HB; have BK676 := n0_; have HB := n1_; clear n0_ n1_; (try clear hb); (try clear hb2); (try clear hk); (try clear hi)) | ((with_reducible refine gate_dst (N := 4) rfl ?_); refine box_event ?hg (N := 4) ?hd (cs := #[.int .i64 0, .int .i64 0, .string (⟨#[]⟩ : ByteArray)]) (t := 24) ?hr ?_; (case hd => rfl); (case hg => rfl); (case hr => first | (go_simp; done) | (go_simp; rfl)); intro gb682 hg w22 hbox hb; have n0_ := Aside0.mk (blk_below (g := gb676) (o := .cells #[.int .i64 a0_0, .int .i64 a0_1, .string a0_2] 24 (0, 0)) (bX BK676.out) hb); have n1_ := Aside0.mk (below_step (bS GE676.out) hb); have n2_ := Aside0.mk (hbox); have n3_ := Aside0.mk ((by rw [hg]; exact (below_size (bS GE676.out)) : w.heap.size ≤ gb682)); have n4_ := Aside0.mk ((by rw [hg]; exact (below_size (bS GE676.out)) : w.heap.size ≤ gb682)); have n5_ := Aside0.mk ((by rw [hg]; exact Nat.ne_of_lt (blk_lt (g := gb676) (o := .cells #[.int .i64 a0_0, .int .i64 a0_1, .string a0_2] 24 (0, 0)) (bX BK676.out)) : gb676 ≠ gb682)); have n6_ := Aside0.mk ((by rw [hg]; exact Nat.ne_of_gt (blk_lt (g := gb676) (o := .cells #[.int .i64 a0_0, .int .i64 a0_1, .string a0_2] 24 (0, 0)) (bX BK676.out)) : gb682 ≠ gb676)); clear BK676; clear HB; have BK676 := n0_; have HB := n1_; have BK682 := n2_; have GW682 := n3_; have GE682 := n4_; have NB676_682 := n5_; have NB682_676 := n6_; clear n0_ n1_ n2_ n3_ n4_ n5_ n6_; clear hb hbox hg; have hnb23 := NB682_676.out; have hnc23 := NB676_682.out; have hcz24_0 : w22.cell? ⟨gb682, 0, none⟩ = some (.int .i64 0) := (blk_cell BK682.out 0).trans rfl; have hcz24_1 : w22.cell? ⟨gb682, 1, none⟩ = some (.int .i64 0) := (blk_cell BK682.out 1).trans rfl; have hcz24_2 : w22.cell? ⟨gb682, 2, none⟩ = some (.string (⟨#[]⟩ : ByteArray)) := (blk_cell BK682.out 2).trans rfl; have hfz24_0 := blk_frozen BK682.out 0; have hfz24_1 := blk_frozen BK682.out 1; have hfz24_2 := blk_frozen BK682.out 2; have hcz25_0 : w22.cell? ⟨gb676, 0, none⟩ = some (.int .i64 a0_0) := (blk_cell BK676.out 0).trans rfl; have hcz25_1 : w22.cell? ⟨gb676, 1, none⟩ = some (.int .i64 a0_1) := (blk_cell BK676.out 1).trans rfl; have hcz25_2 : w22.cell? ⟨gb676, 2, none⟩ = some (.string a0_2) := (blk_cell BK676.out 2).trans rfl; have hfz25_0 := blk_frozen BK676.out 0; have hfz25_1 := blk_frozen BK676.out 1; have hfz25_2 := blk_frozen BK676.out 2) | ((with_reducible refine gate_dst (N := 21) rfl ?_); refine Kd.R_lit k65 _ 65 ?hg (N := 21) ?hd (xs := ([(⟨(⟨a0_0, a0_1, a0_2⟩ : S24), (⟨0, 0, (⟨#[]⟩ : ByteArray)⟩ : S24), true⟩ : S65)] : List (S65))) (inner := [.int .i64 a0_0, .int .i64 a0_1, .string a0_2, .int .i64 0, .int .i64 0, .string (⟨#[]⟩ : ByteArray), .bool true]) (ok := fun _ => True) (okp := fun _ => True) ?hr ?hp (fun _ hk => hk) trivial (Below.refl _ _) (Nat.le_refl _) (by simp) ?_; (case hd => rfl); (case hg => rfl); (case hr => first | (go_simp; done) | (go_simp; rfl)); (case hp => exact (Reps.c7 (show Kd.M k65 _ _ _ (⟨(⟨a0_0, a0_1, a0_2⟩ : S24), (⟨0, 0, (⟨#[]⟩ : ByteArray)⟩ : S24), true⟩ : S65) [.int .i64 a0_0, .int .i64 a0_1, .string a0_2, .int .i64 0, .int .i64 0, .string (⟨#[]⟩ : ByteArray), .bool true] from (k65_mkM _ _ _ (⟨(⟨a0_0, a0_1, a0_2⟩ : S24), (⟨0, 0, (⟨#[]⟩ : ByteArray)⟩ : S24), true⟩ : S65) )) (Reps.none _ _))); intro v687 w26 ho27 hb hg_ hnew_; clear hg_ hnew_; (first | rw [← Ny686.out] at ho27 | (simp only [Int.reduceToNat] at ho27; rw [← Ny686.out] at ho27)); have n0_ := Aside0.mk (Kd.R_lower ho27 (below_size (bT GE676.out GE682.out))); have n1_ := Aside0.mk (blk_below (g := gb676) (o := .cells #[.int .i64 a0_0, .int .i64 a0_1, .string a0_2] 24 (0, 0)) (by (with_reducible repeat (first | refine blk_drewN ?_ _ | refine blk_drew ?_ | refine blk_alloc ?_ _)); refine blk_far ?_ NB676_682.out _; (with_reducible repeat (first | refine blk_drewN ?_ _ | refine blk_drew ?_ | refine blk_alloc ?_ _)); refine blk_far ?_ NB676_682.out _; (with_reducible repeat (first | refine blk_drewN ?_ _ | refine blk_drew ?_ | refine blk_alloc ?_ _)); refine blk_far ?_ NB676_682.out _; (with_reducible repeat (first | refine blk_drewN ?_ _ | refine blk_drew ?_ | refine blk_alloc ?_ _)); exact BK676.out) hb); have n2_ := Aside0.mk (blk_below (g := gb682) (o := .cells #[.int .i64 t678, .int .i64 t679, .string t680] 24 (0, 0)) (by (with_reducible repeat (first | refine blk_drewN ?_ _ | refine blk_drew ?_ | refine blk_alloc ?_ _)); refine blk_put (cs := #[.int .i64 t678, .int .i64 t679, .string (⟨#[]⟩ : ByteArray)]) ?_ 2 _ rfl; (with_reducible repeat (first | refine blk_drewN ?_ _ | refine blk_drew ?_ | refine blk_alloc ?_ _)); refine blk_put (cs := #[.int .i64 t678, .int .i64 0, .string (⟨#[]⟩ : ByteArray)]) ?_ 1 _ rfl; (with_reducible repeat (first | refine blk_drewN ?_ _ | refine blk_drew ?_ | refine blk_alloc ?_ _)); refine blk_put (cs := #[.int .i64 0, .int .i64 0, .string (⟨#[]⟩ : ByteArray)]) ?_ 0 _ rfl; (with_reducible repeat (first | refine blk_drewN ?_ _ | refine blk_drew ?_ | refine blk_alloc ?_ _)); exact BK682.out) hb); have n3_ := Aside0.mk (below_step (bT GE676.out GE682.out) hb); clear BK676; clear BK682; clear HB; have HO688 := n0_; have BK676 := n1_; have BK682 := n2_; have HB := n3_; clear n0_ n1_ n2_ n3_; clear hb ho27))
   go_ret2
   exact ⟨_, by first | rfl | (simp [errW_none, errW_some] <;> rfl) | (simp [*, errW_none, errW_some] <;> rfl), by (with_reducible repeat (first | apply Kd.R_alloc | apply Kd.R_drewN | apply Kd.R_drew)); exact HO688.out, by repeat (first | (with_reducible first | exact HB.out | apply below_alloc | apply pw_below_drewN | apply below_drew1 | refine below_set ?_ GE676.out | refine below_set ?_ GE682.out) | exact HB.out)⟩
 ·replace c3 := Bool.eq_false_iff.mpr c3
  subst c3
  have H1 : (some (([] : List (S65)), 10)) = some (r1, r2) := by rw [if_neg (show ¬ (false = true) by decide)] at H; exact H
  clear H
  have H := H1
  clear H1
  simp only [Option.some.injEq, Prod.mk.injEq] at H
  obtain ⟨rfl, rfl⟩ := H
  go_enter Try.func41, Try.ntmps41
  go_wp2_with (first | ((with_reducible refine gate_dst (N := 1) rfl ?_); refine box_event ?hg (N := 1) ?hd (cs := #[.int .i64 a0_0, .int .i64 a0_1, .string a0_2]) (t := 24) ?hr ?_; (case hd => rfl); (case hg => rfl); (case hr => first | (go_simp; done) | (go_simp; rfl)); intro gb676 hg w28 hbox hb; have n0_ := Aside0.mk (below_step bO hb); have n1_ := Aside0.mk (hbox); have n2_ := Aside0.mk ((by rw [hg]; exact (below_size bO) : w.heap.size ≤ gb676)); have n3_ := Aside0.mk ((by rw [hg]; exact (below_size bO) : w.heap.size ≤ gb676)); clear HB; have HB := n0_; have BK676 := n1_; have GW676 := n2_; have GE676 := n3_; clear n0_ n1_ n2_ n3_; clear hb hbox hg; have hcz29_0 : w28.cell? ⟨gb676, 0, none⟩ = some (.int .i64 a0_0) := (blk_cell BK676.out 0).trans rfl; have hcz29_1 : w28.cell? ⟨gb676, 1, none⟩ = some (.int .i64 a0_1) := (blk_cell BK676.out 1).trans rfl; have hcz29_2 : w28.cell? ⟨gb676, 2, none⟩ = some (.string a0_2) := (blk_cell BK676.out 2).trans rfl; have hfz29_0 := blk_frozen BK676.out 0; have hfz29_1 := blk_frozen BK676.out 1; have hfz29_2 := blk_frozen BK676.out 2) | ((with_reducible refine gate_callee (f := 21) rfl ?_); refine gL (some 7) rfl Try.func21 #[.agg #[.int .i64 a0_0, .int .i64 a0_1, .string a0_2]] rfl ?_; (with_reducible refine (value_Valid.calls k a0_0 a0_1 a0_2 false _ A2.out).mono ?_); rintro e w30 ⟨rfl, hb⟩; refine ⟨_, rfl, ?_⟩; have n0_ := Aside0.mk (blk_below (g := gb676) (o := .cells #[.int .i64 a0_0, .int .i64 a0_1, .string a0_2] 24 (0, 0)) (bX BK676.out) hb); have n1_ := Aside0.mk (below_step (bS GE676.out) hb); clear BK676; clear HB; have BK676 := n0_; have HB := n1_; clear n0_ n1_; (try clear hb); (try clear hb2); (try clear hk); (try clear hi)))
  go_ret2
  exact ⟨_, by first | rfl | (simp [errW_none, errW_some] <;> rfl) | (simp [*, errW_none, errW_some] <;> rfl), by first | exact Kd.R_nil _ _ _ _ _ | exact Kd.N_nil _ _ _ _ _ | exact Kd.V_nil _ _ _ _ _ | exact Kd.Q_nil _ _ _ _ _ | exact Kd.S_nil _ _ _ _ _, by repeat (first | (with_reducible first | exact HB.out | apply below_alloc | apply pw_below_drewN | apply below_drew1 | refine below_set ?_ GE676.out) | exact HB.out)⟩
end Go.Proofs.Ytpjcdacnhalclaa.Q
namespace Go.Proofs.Ytpjcdacnhalclaa.Q
open Go.RowKit Go.Proofs.YtpjcdacnhalclaaW.PrintWords Go.Proofs.YtpjcdacnhalclaaW.PrintLast Go.Proofs.YtpjcdacnhalclaaW.PrintMore
attribute [local go_sem] max2_int min2_int max_two min_two max_three min_three max_four min_four
set_option linter.unusedVariables false
set_option linter.unusedSimpArgs false
def interval_From.f (k : Nat) (a0_0 : Int) (a0_1 : Int) (a0_2 : ByteArray) : Option ((List (S65)) × Int) := (value_Valid.f k a0_0 a0_1 a0_2).bind fun t690 => (if t690 = true then (some ((([(⟨(⟨a0_0, a0_1, a0_2⟩ : S24), (⟨0, 0, (⟨#[]⟩ : ByteArray)⟩ : S24), true⟩ : S65)] : List (S65))), 0)) else (some (([] : List (S65)), 10)))
set_option maxHeartbeats 8000000 in
set_option maxRecDepth 100000 in
theorem interval_From.calls (k : Nat) (a0_0 : Int) (a0_1 : Int) (a0_2 : ByteArray) (r1 : List (S65)) (r2 : Int) (w : World) (h : interval_From.f k a0_0 a0_1 a0_2 = some (r1, r2)) :
  Calls Try.prog 43 #[.agg #[.int .i64 a0_0, .int .i64 a0_1, .string a0_2]] w fun e w' => ∃ v0_ : Value, e = .returned (.tuple #[v0_, .int .i64 r2]) ∧ Kd.R k65 65 w' w.heap.size (fun _ => True) v0_ r1 ∧ Below w.heap.size w w' := by
 have hu24 := Try.underlying24
 have hu65 := Try.underlying65
 have HB := Aside0.mk (Below.refl w.heap.size w)
 have H : ((value_Valid.f k a0_0 a0_1 a0_2).bind fun t690 => (if t690 = true then (some ((([(⟨(⟨a0_0, a0_1, a0_2⟩ : S24), (⟨0, 0, (⟨#[]⟩ : ByteArray)⟩ : S24), true⟩ : S65)] : List (S65))), 0)) else (some (([] : List (S65)), 10)))) = some (r1, r2) := h
 clear h
 replace H := Option.bind_eq_some_iff.mp H
 obtain ⟨t690, A20, H⟩ := H
 replace H : (if t690 = true then (some ((([(⟨(⟨a0_0, a0_1, a0_2⟩ : S24), (⟨0, 0, (⟨#[]⟩ : ByteArray)⟩ : S24), true⟩ : S65)] : List (S65))), 0)) else (some (([] : List (S65)), 10))) = some (r1, r2) := H
 have A2 := Aside0.mk A20
 clear A20
 by_cases c3 : t690 = true
 ·subst c3
  have H1 : (some ((([(⟨(⟨a0_0, a0_1, a0_2⟩ : S24), (⟨0, 0, (⟨#[]⟩ : ByteArray)⟩ : S24), true⟩ : S65)] : List (S65))), 0)) = some (r1, r2) := by rw [if_pos rfl] at H; exact H
  clear H
  have H := H1
  clear H1
  obtain ⟨y691, hy691⟩ : ∃ y_ : List (S65), y_ = (([(⟨(⟨a0_0, a0_1, a0_2⟩ : S24), (⟨0, 0, (⟨#[]⟩ : ByteArray)⟩ : S24), true⟩ : S65)] : List (S65))) := ⟨_, rfl⟩
  replace H : (some (y691, 0)) = some (r1, r2) := by first | (rw [hy691]; with_reducible exact H) | (have H2_ := (Option.bind_some _ _).symm.trans H; rw [hy691]; with_reducible exact H2_) | (have H2_ := (Option.bind_some _ _).symm.trans H; with_reducible exact H2_) | with_reducible exact H | (rw [hy691]; exact H) | exact H
  have Ny691 := Aside0.mk hy691
  clear hy691
  simp only [Option.some.injEq, Prod.mk.injEq] at H
  obtain ⟨rfl, rfl⟩ := H
  go_enter Try.func43, Try.ntmps43
  go_wp2_with (first | ((with_reducible refine gate_dst (N := 1) rfl ?_); refine box_event ?hg (N := 1) ?hd (cs := #[.int .i64 a0_0, .int .i64 a0_1, .string a0_2]) (t := 24) ?hr ?_; (case hd => rfl); (case hg => rfl); (case hr => first | (go_simp; done) | (go_simp; rfl)); intro gb689 hg w4 hbox hb; have n0_ := Aside0.mk (below_step bO hb); have n1_ := Aside0.mk (hbox); have n2_ := Aside0.mk ((by rw [hg]; exact (below_size bO) : w.heap.size ≤ gb689)); have n3_ := Aside0.mk ((by rw [hg]; exact (below_size bO) : w.heap.size ≤ gb689)); clear HB; have HB := n0_; have BK689 := n1_; have GW689 := n2_; have GE689 := n3_; clear n0_ n1_ n2_ n3_; clear hb hbox hg; have hcz5_0 : w4.cell? ⟨gb689, 0, none⟩ = some (.int .i64 a0_0) := (blk_cell BK689.out 0).trans rfl; have hcz5_1 : w4.cell? ⟨gb689, 1, none⟩ = some (.int .i64 a0_1) := (blk_cell BK689.out 1).trans rfl; have hcz5_2 : w4.cell? ⟨gb689, 2, none⟩ = some (.string a0_2) := (blk_cell BK689.out 2).trans rfl; have hfz5_0 := blk_frozen BK689.out 0; have hfz5_1 := blk_frozen BK689.out 1; have hfz5_2 := blk_frozen BK689.out 2) | ((with_reducible refine gate_callee (f := 21) rfl ?_); refine gL (some 5) rfl Try.func21 #[.agg #[.int .i64 a0_0, .int .i64 a0_1, .string a0_2]] rfl ?_; (with_reducible refine (value_Valid.calls k a0_0 a0_1 a0_2 true _ A2.out).mono ?_); rintro e w6 ⟨rfl, hb⟩; refine ⟨_, rfl, ?_⟩; have n0_ := Aside0.mk (blk_below (g := gb689) (o := .cells #[.int .i64 a0_0, .int .i64 a0_1, .string a0_2] 24 (0, 0)) (bX BK689.out) hb); have n1_ := Aside0.mk (below_step (bS GE689.out) hb); clear BK689; clear HB; have BK689 := n0_; have HB := n1_; clear n0_ n1_; (try clear hb); (try clear hb2); (try clear hk); (try clear hi); have hcz7_0 : w6.cell? ⟨gb689, 0, none⟩ = some (.int .i64 a0_0) := (blk_cell BK689.out 0).trans rfl; have hcz7_1 : w6.cell? ⟨gb689, 1, none⟩ = some (.int .i64 a0_1) := (blk_cell BK689.out 1).trans rfl; have hcz7_2 : w6.cell? ⟨gb689, 2, none⟩ = some (.string a0_2) := (blk_cell BK689.out 2).trans rfl; have hfz7_0 := blk_frozen BK689.out 0; have hfz7_1 := blk_frozen BK689.out 1; have hfz7_2 := blk_frozen BK689.out 2) | ((with_reducible refine gate_dst (N := 9) rfl ?_); refine Kd.R_lit k65 _ 65 ?hg (N := 9) ?hd (xs := ([(⟨(⟨a0_0, a0_1, a0_2⟩ : S24), (⟨0, 0, (⟨#[]⟩ : ByteArray)⟩ : S24), true⟩ : S65)] : List (S65))) (inner := [.int .i64 a0_0, .int .i64 a0_1, .string a0_2, .int .i64 0, .int .i64 0, .string (⟨#[]⟩ : ByteArray), .bool true]) (ok := fun _ => True) (okp := fun _ => True) ?hr ?hp (fun _ hk => hk) trivial (Below.refl _ _) (Nat.le_refl _) (by simp) ?_; (case hd => rfl); (case hg => rfl); (case hr => first | (go_simp; done) | (go_simp; rfl)); (case hp => exact (Reps.c7 (show Kd.M k65 _ _ _ (⟨(⟨a0_0, a0_1, a0_2⟩ : S24), (⟨0, 0, (⟨#[]⟩ : ByteArray)⟩ : S24), true⟩ : S65) [.int .i64 a0_0, .int .i64 a0_1, .string a0_2, .int .i64 0, .int .i64 0, .string (⟨#[]⟩ : ByteArray), .bool true] from (k65_mkM _ _ _ (⟨(⟨a0_0, a0_1, a0_2⟩ : S24), (⟨0, 0, (⟨#[]⟩ : ByteArray)⟩ : S24), true⟩ : S65) )) (Reps.none _ _))); intro v692 w8 ho9 hb hg_ hnew_; clear hg_ hnew_; (first | rw [← Ny691.out] at ho9 | (simp only [Int.reduceToNat] at ho9; rw [← Ny691.out] at ho9)); have n0_ := Aside0.mk (Kd.R_lower ho9 (below_size (bS GE689.out))); have n1_ := Aside0.mk (blk_below (g := gb689) (o := .cells #[.int .i64 a0_0, .int .i64 a0_1, .string a0_2] 24 (0, 0)) (bX BK689.out) hb); have n2_ := Aside0.mk (below_step (bS GE689.out) hb); clear BK689; clear HB; have HO693 := n0_; have BK689 := n1_; have HB := n2_; clear n0_ n1_ n2_; clear hb ho9))
  go_ret2
  exact ⟨_, by first | rfl | (simp [errW_none, errW_some] <;> rfl) | (simp [*, errW_none, errW_some] <;> rfl), by (with_reducible repeat (first | apply Kd.R_alloc | apply Kd.R_drewN | apply Kd.R_drew)); exact HO693.out, by repeat (first | (with_reducible first | exact HB.out | apply below_alloc | apply pw_below_drewN | apply below_drew1 | refine below_set ?_ GE689.out) | exact HB.out)⟩
 ·replace c3 := Bool.eq_false_iff.mpr c3
  subst c3
  have H1 : (some (([] : List (S65)), 10)) = some (r1, r2) := by rw [if_neg (show ¬ (false = true) by decide)] at H; exact H
  clear H
  have H := H1
  clear H1
  simp only [Option.some.injEq, Prod.mk.injEq] at H
  obtain ⟨rfl, rfl⟩ := H
  go_enter Try.func43, Try.ntmps43
  go_wp2_with (first | ((with_reducible refine gate_dst (N := 1) rfl ?_); refine box_event ?hg (N := 1) ?hd (cs := #[.int .i64 a0_0, .int .i64 a0_1, .string a0_2]) (t := 24) ?hr ?_; (case hd => rfl); (case hg => rfl); (case hr => first | (go_simp; done) | (go_simp; rfl)); intro gb689 hg w10 hbox hb; have n0_ := Aside0.mk (below_step bO hb); have n1_ := Aside0.mk (hbox); have n2_ := Aside0.mk ((by rw [hg]; exact (below_size bO) : w.heap.size ≤ gb689)); have n3_ := Aside0.mk ((by rw [hg]; exact (below_size bO) : w.heap.size ≤ gb689)); clear HB; have HB := n0_; have BK689 := n1_; have GW689 := n2_; have GE689 := n3_; clear n0_ n1_ n2_ n3_; clear hb hbox hg; have hcz11_0 : w10.cell? ⟨gb689, 0, none⟩ = some (.int .i64 a0_0) := (blk_cell BK689.out 0).trans rfl; have hcz11_1 : w10.cell? ⟨gb689, 1, none⟩ = some (.int .i64 a0_1) := (blk_cell BK689.out 1).trans rfl; have hcz11_2 : w10.cell? ⟨gb689, 2, none⟩ = some (.string a0_2) := (blk_cell BK689.out 2).trans rfl; have hfz11_0 := blk_frozen BK689.out 0; have hfz11_1 := blk_frozen BK689.out 1; have hfz11_2 := blk_frozen BK689.out 2) | ((with_reducible refine gate_callee (f := 21) rfl ?_); refine gL (some 5) rfl Try.func21 #[.agg #[.int .i64 a0_0, .int .i64 a0_1, .string a0_2]] rfl ?_; (with_reducible refine (value_Valid.calls k a0_0 a0_1 a0_2 false _ A2.out).mono ?_); rintro e w12 ⟨rfl, hb⟩; refine ⟨_, rfl, ?_⟩; have n0_ := Aside0.mk (blk_below (g := gb689) (o := .cells #[.int .i64 a0_0, .int .i64 a0_1, .string a0_2] 24 (0, 0)) (bX BK689.out) hb); have n1_ := Aside0.mk (below_step (bS GE689.out) hb); clear BK689; clear HB; have BK689 := n0_; have HB := n1_; clear n0_ n1_; (try clear hb); (try clear hb2); (try clear hk); (try clear hi)))
  go_ret2
  exact ⟨_, by first | rfl | (simp [errW_none, errW_some] <;> rfl) | (simp [*, errW_none, errW_some] <;> rfl), by first | exact Kd.R_nil _ _ _ _ _ | exact Kd.N_nil _ _ _ _ _ | exact Kd.V_nil _ _ _ _ _ | exact Kd.Q_nil _ _ _ _ _ | exact Kd.S_nil _ _ _ _ _, by repeat (first | (with_reducible first | exact HB.out | apply below_alloc | apply pw_below_drewN | apply below_drew1 | refine below_set ?_ GE689.out) | exact HB.out)⟩
end Go.Proofs.Ytpjcdacnhalclaa.Q
namespace Go.Proofs.Ytpjcdacnhalclaa.Q
open Go.RowKit Go.Proofs.YtpjcdacnhalclaaW.PrintWords Go.Proofs.YtpjcdacnhalclaaW.PrintLast Go.Proofs.YtpjcdacnhalclaaW.PrintMore
attribute [local go_sem] max2_int min2_int max_two min_two max_three min_three max_four min_four
set_option linter.unusedVariables false
set_option linter.unusedSimpArgs false
def validV (a b : Int) (c : ByteArray) : Bool := if a = 1 ∨ a = 2 then (b == 0 && (c.toList == ([] : List UInt8))) else if a = 3 then ((b == 0 || b == 1) && (c.toList == ([] : List UInt8))) else if a = 4 then (c.toList == ([] : List UInt8)) else if a = 5 then (b == 0 && decide ((c.size : Int) ≤ 64)) else false
theorem value_Valid.some_ (k : Nat) (a b : Int) (c : ByteArray) : value_Valid.f (k + 1) a b c = some (validV a b c) := by
  unfold value_Valid.f validV
  by_cases h1 : a = 1
  · subst h1; simp [value_Valid.j0]
  · rw [if_neg h1]
    by_cases h2 : a = 2
    · subst h2; simp [value_Valid.j0]
    · have h2b : (a == 2) = false := beq_eq_false_iff_ne.2 h2
      simp only [value_Valid.j0, h2b, h1, h2, or_self, if_false]
      by_cases h3 : a = 3
      · subst h3
        by_cases hb : b = 0
        · simp [hb]
        · by_cases hb1 : b = 1
          · simp [hb1]
          · simp [hb, hb1]
      · by_cases h4 : a = 4
        · subst h4; simp
        · by_cases h5 : a = 5
          · subst h5
            by_cases hb : b = 0
            · simp [hb]
            · simp [hb]
          · simp [h3, h4, h5]
theorem partsyncref01_Valid.some_ (k : Nat) (a b : Int) (c : ByteArray) : partsyncref01_Valid.f (k + 1) a b c = some (validV a b c) := by
  unfold partsyncref01_Valid.f validV
  by_cases h1 : a = 1
  · subst h1
    by_cases hb : b = 0
    · simp [partsyncref01_Valid.j0, hb]
    · simp [partsyncref01_Valid.j0, hb]
  · rw [if_neg h1]
    by_cases h2 : a = 2
    · subst h2
      by_cases hb : b = 0
      · simp [partsyncref01_Valid.j0, hb]
      · simp [partsyncref01_Valid.j0, hb]
    · have h2b : (a == 2) = false := beq_eq_false_iff_ne.2 h2
      simp only [partsyncref01_Valid.j0, h2b, h1, h2, or_self, if_false]
      by_cases h3 : a = 3
      · subst h3
        by_cases hb : b = 0
        · simp [hb]
        · by_cases hb1 : b = 1
          · simp [hb1]
          · simp [hb, hb1]
      · by_cases h4 : a = 4
        · subst h4; simp
        · by_cases h5 : a = 5
          · subst h5
            by_cases hb : b = 0
            · simp [hb]
            · simp [hb]
          · simp [h3, h4, h5]
theorem ev_of_succ {α : Type} {g : Nat → Option α} {r : α} (h : ∀ k, g (k + 1) = some r) : Ev g r := ⟨1, fun k hk => by obtain ⟨j, rfl⟩ : ∃ j, k = j + 1 := ⟨k - 1, by omega⟩; exact h j⟩
theorem value_Valid.ev (a b : Int) (c : ByteArray) : Ev (fun k => value_Valid.f k a b c) (validV a b c) := ev_of_succ fun k => value_Valid.some_ k a b c
theorem partsyncref01_Valid.ev (a b : Int) (c : ByteArray) : Ev (fun k => partsyncref01_Valid.f k a b c) (validV a b c) := ev_of_succ fun k => partsyncref01_Valid.some_ k a b c
def firstV (a : Int) : Int × Int × ByteArray × Bool := if a = 1 ∨ a = 2 ∨ a = 3 ∨ a = 5 then (a, 0, ⟨#[]⟩, true) else if a = 4 then (a, -9223372036854775808, ⟨#[]⟩, true) else (0, 0, ⟨#[]⟩, false)
theorem value_First.some_ (k : Nat) (a : Int) : value_First.f (k + 1) a = some (firstV a) := by
  unfold value_First.f firstV
  by_cases h1 : a = 1
  · subst h1; simp [value_First.j0]
  · by_cases h2 : a = 2
    · subst h2; simp [value_First.j0]
    · by_cases h3 : a = 3
      · subst h3; simp [value_First.j0]
      · by_cases h5 : a = 5
        · subst h5; simp [value_First.j0]
        · have h5b : (a == 5) = false := beq_eq_false_iff_ne.2 h5
          by_cases h4 : a = 4
          · subst h4; simp [value_First.j0]
          · simp [value_First.j0, h1, h2, h3, h4, h5, h5b]
theorem value_First.ev (a : Int) : Ev (fun k => value_First.f k a) (firstV a) := ev_of_succ fun k => value_First.some_ k a
structure StOk (l : List Int) (i : Int) : Prop where
  byte : ∀ x ∈ l, 0 ≤ x ∧ x ≤ 255
  len : l.length ≤ 4096
  lo : 0 ≤ i
  hi : i ≤ l.length
theorem rd_byte {l : List Int} (h : ∀ x ∈ l, 0 ≤ x ∧ x ≤ 255) (i : Int) : 0 ≤ rd l i ∧ rd l i ≤ 255 := by
  unfold rd
  rw [List.getD_eq_getElem?_getD]
  cases he : l[i.toNat]? with
  | none => simp
  | some x => exact h x (List.mem_of_getElem? he)
theorem partsynccase_Case_Int.ok {l : List Int} {i : Int} (h : StOk l i) (n : Int) (hn : n ≤ 4096) : ∃ r j, partsynccase_Case_Int.f l i n = some (r, j) ∧ StOk l j ∧ 0 ≤ r ∧ r ≤ 4096 ∧ (1 ≤ n → r < n) := by
  obtain ⟨hb, hl, h0, h1⟩ := h
  unfold partsynccase_Case_Int.f
  by_cases c1 : i ≥ (l.length : Int)
  · rw [if_pos c1]; exact ⟨0, i, rfl, ⟨hb, hl, h0, h1⟩, by omega, by omega, by omega⟩
  · rw [if_neg c1]
    by_cases c2 : n < 1
    · rw [if_pos c2]; exact ⟨0, i, rfl, ⟨hb, hl, h0, h1⟩, by omega, by omega, by omega⟩
    · rw [if_neg c2]
      have e1 : wrap64 (i + 1) = i + 1 := by unfold wrap64; omega
      have e2 : wrap64 (i + 1 - 1) = i := by unfold wrap64; omega
      obtain ⟨b0, b1⟩ := rd_byte hb i
      have e3 : wrap64 (rd l i) = rd l i := by unfold wrap64; omega
      rw [e1, e2, if_pos h0, if_pos (by omega), if_neg (by omega), e3]
      have e4 : Int.tmod (rd l i) n = rd l i % n := Int.tmod_eq_emod_of_nonneg b0
      have m0 := Int.emod_nonneg (rd l i) (show n ≠ 0 by omega)
      have m1 := Int.emod_lt_of_pos (rd l i) (show 0 < n by omega)
      exact ⟨_, _, rfl, ⟨hb, hl, by omega, by omega⟩, by rw [e4]; exact m0, by rw [e4]; omega, fun _ => by rw [e4]; exact m1⟩
theorem partsynccase_Case_Number.ok {l : List Int} {i : Int} (h : StOk l i) : ∃ r j, partsynccase_Case_Number.f l i = some (r, j) ∧ StOk l j ∧ -9223372036854775808 ≤ r ∧ r ≤ 9223372036854775807 := by
  obtain ⟨r, j, hf, hj, h0, h1, h2⟩ := partsynccase_Case_Int.ok h 12 (by omega)
  unfold partsynccase_Case_Number.f
  rw [hf, Option.bind_some]
  have e4 : Int.tmod r 4 = r % 4 := Int.tmod_eq_emod_of_nonneg h0
  dsimp only
  split
  · exact ⟨_, _, rfl, hj, by omega, by omega⟩
  · split
    · exact ⟨_, _, rfl, hj, by omega, by omega⟩
    · split
      · exact ⟨_, _, rfl, hj, by omega, by omega⟩
      · exact ⟨_, _, rfl, hj, by omega, by omega⟩
theorem size_push_ (x : ByteArray) (b : UInt8) : (x ++ (⟨#[b]⟩ : ByteArray)).size = x.size + 1 := by rw [ByteArray.size_append]; rfl
theorem partsynccase_Case_Text.l0_ok (l : List Int) (j : Int) : ∀ (m : Nat) (i : Int) (x : ByteArray) (k : Nat), 0 ≤ i → 64 - i = m → x.size = i → m < k → ∃ t, partsynccase_Case_Text.l0 k x i l j = some (t, j) ∧ t.size = 64 := by
  intro m
  induction m with
  | zero =>
    intro i x k h0 h1 h2 hk
    obtain ⟨k, rfl⟩ : ∃ q, k = q + 1 := ⟨k - 1, by omega⟩
    simp only [partsynccase_Case_Text.l0]
    rw [if_neg (by omega)]
    exact ⟨_, rfl, by omega⟩
  | succ m ih =>
    intro i x k h0 h1 h2 hk
    obtain ⟨k, rfl⟩ : ∃ q, k = q + 1 := ⟨k - 1, by omega⟩
    simp only [partsynccase_Case_Text.l0]
    have e : wrap64 (i + 1) = i + 1 := by unfold wrap64; omega
    rw [if_pos (by omega), if_pos (by omega), e]
    exact ih (i + 1) _ k (by omega) (by omega) (by rw [size_push_]; omega) (by omega)
theorem partsynccase_Case_Text.l1_ok (l : List Int) (j : Int) : ∀ (m : Nat) (i : Int) (x : ByteArray) (k : Nat), 0 ≤ i → 64 - i = m → x.size = i → m < k → ∃ t, partsynccase_Case_Text.l1 k x i l j = some (t, j) ∧ t.size = 64 := by
  intro m
  induction m with
  | zero =>
    intro i x k h0 h1 h2 hk
    obtain ⟨k, rfl⟩ : ∃ q, k = q + 1 := ⟨k - 1, by omega⟩
    simp only [partsynccase_Case_Text.l1]
    rw [if_neg (by omega)]
    exact ⟨_, rfl, by omega⟩
  | succ m ih =>
    intro i x k h0 h1 h2 hk
    obtain ⟨k, rfl⟩ : ∃ q, k = q + 1 := ⟨k - 1, by omega⟩
    simp only [partsynccase_Case_Text.l1]
    have e : wrap64 (i + 1) = i + 1 := by unfold wrap64; omega
    rw [if_pos (by omega), if_pos (by omega), e]
    exact ih (i + 1) _ k (by omega) (by omega) (by rw [size_push_]; omega) (by omega)
theorem partsynccase_Case_Text.j1_ok (l : List Int) (j : Int) (q : Int) (b : Bool) : ∃ t, partsynccase_Case_Text.j1 70 ⟨#[]⟩ q b l j = some (t, j) ∧ t.size ≤ 64 := by
  simp only [partsynccase_Case_Text.j1]
  split
  · exact ⟨_, rfl, by decide⟩
  · split
    · exact ⟨_, rfl, by decide⟩
    · split
      · exact ⟨_, rfl, by decide⟩
      · split
        · exact ⟨_, rfl, by decide⟩
        · split
          · obtain ⟨t, h1, h2⟩ := partsynccase_Case_Text.l0_ok l j 64 0 ⟨#[]⟩ 69 (by omega) (by omega) rfl (by omega)
            exact ⟨t, h1, by omega⟩
          · obtain ⟨t, h1, h2⟩ := partsynccase_Case_Text.l1_ok l j 64 0 ⟨#[]⟩ 69 (by omega) (by omega) rfl (by omega)
            exact ⟨t, h1, by omega⟩
theorem partsynccase_Case_Text.j0_ok (l : List Int) (j : Int) (q : Int) (b : Bool) : ∃ t, partsynccase_Case_Text.j0 71 ⟨#[]⟩ q b l j = some (t, j) ∧ t.size ≤ 64 := by
  simp only [partsynccase_Case_Text.j0]
  split
  · exact ⟨_, rfl, by decide⟩
  · split
    · exact partsynccase_Case_Text.j1_ok _ _ _ _
    · exact partsynccase_Case_Text.j1_ok _ _ _ _
theorem partsynccase_Case_Text.ok {l : List Int} {i : Int} (h : StOk l i) : ∃ t j, Ev (fun k => partsynccase_Case_Text.f k l i) (t, j) ∧ StOk l j ∧ t.size ≤ 64 := by
  obtain ⟨r, j, hf, hj, _⟩ := partsynccase_Case_Int.ok h 10 (by omega)
  have hm : ∀ k, LeO (partsynccase_Case_Text.f k l i) (partsynccase_Case_Text.f (k + 1) l i) := fun k => partsynccase_Case_Text.mono _ _ _
  have hx : ∃ t, partsynccase_Case_Text.f 71 l i = some (t, j) ∧ t.size ≤ 64 := by
    unfold partsynccase_Case_Text.f
    rw [hf, Option.bind_some]
    dsimp only
    split
    · exact partsynccase_Case_Text.j0_ok _ _ _ _
    · split
      · exact partsynccase_Case_Text.j0_ok _ _ _ _
      · exact partsynccase_Case_Text.j0_ok _ _ _ _
  obtain ⟨t, h1, h2⟩ := hx
  exact ⟨t, j, Ev.of hm h1, hj, h2⟩
theorem toListE : (⟨#[]⟩ : ByteArray).toList = [] := by rw [Go.Lib.toList_data]
theorem partsynccase_Case_Any.ok {l : List Int} {i : Int} (h : StOk l i) : ∃ a b c j, Ev (fun k => partsynccase_Case_Any.f k l i) (a, b, c, j) ∧ StOk l j ∧ validV a b c = true ∧ -9223372036854775808 ≤ b ∧ b ≤ 9223372036854775807 := by
  obtain ⟨r, j, hf, hj, h0, _, h2⟩ := partsynccase_Case_Int.ok h 5 (by omega)
  have h2 := h2 (by omega)
  have e : wrap64 (1 + r) = 1 + r := by unfold wrap64; omega
  unfold partsynccase_Case_Any.f
  rw [hf]
  simp only [Option.bind_some, e]
  by_cases c1 : 1 + r < 3
  · simp only [if_pos c1]
    refine ⟨_, _, _, _, Ev.now _, hj, ?_, by omega, by omega⟩
    have : 1 + r = 1 ∨ 1 + r = 2 := by omega
    unfold validV
    rw [if_pos this, toListE]
    decide
  · simp only [if_neg c1]
    unfold partsynccase_Case_Value.f
    by_cases c3 : 1 + r = 3
    · simp only [if_pos c3]
      obtain ⟨r2, j2, hf2, hj2, h20, _, h22⟩ := partsynccase_Case_Int.ok hj 2 (by omega)
      have h22 := h22 (by omega)
      rw [hf2]
      simp only [Option.bind_some]
      refine ⟨_, _, _, _, Ev.now _, hj2, ?_, by omega, by omega⟩
      rw [c3]
      have : r2 = 0 ∨ r2 = 1 := by omega
      rcases this with rfl | rfl <;> simp [validV, toListE]
    · simp only [if_neg c3]
      by_cases c4 : 1 + r = 4
      · simp only [if_pos c4]
        obtain ⟨r2, j2, hf2, hj2, h20, h21⟩ := partsynccase_Case_Number.ok hj
        rw [hf2]
        simp only [Option.bind_some]
        refine ⟨_, _, _, _, Ev.now _, hj2, ?_, h20, h21⟩
        rw [c4]
        simp [validV, toListE]
      · simp only [if_neg c4]
        obtain ⟨t, j2, hev, hj2, ht⟩ := partsynccase_Case_Text.ok hj
        refine ⟨5, 0, t, j2, ?_, hj2, ?_, by omega, by omega⟩
        · refine Ev.bind (f := fun _ (bt118 : Int × Int × ByteArray × Int) => some (bt118.1, bt118.2.1, bt118.2.2.1, bt118.2.2.2)) (a := ((5 : Int), (0 : Int), t, j2)) (r := (5, 0, t, j2)) ?_ ⟨0, fun _ _ => rfl⟩
          exact Ev.bind (f := fun _ (bt113 : ByteArray × Int) => some ((5 : Int), (0 : Int), bt113.1, bt113.2)) (r := (5, 0, t, j2)) hev ⟨0, fun _ _ => rfl⟩
        · unfold validV
          simp
          omega
theorem partsynccase_New.ok {l : List Int} (h : ∀ x ∈ l, 0 ≤ x ∧ x ≤ 255) (n : Int) (h0 : 0 ≤ n) (h1 : n ≤ 4096) : partsynccase_New.f l n = some (l.take n.toNat, 0) ∧ StOk (l.take n.toNat) 0 := by
  unfold partsynccase_New.f
  rw [if_pos h0, if_pos h1]
  exact ⟨rfl, fun x hx => h x (List.mem_of_mem_take hx), by rw [List.length_take]; omega, by omega, by omega⟩
end Go.Proofs.Ytpjcdacnhalclaa.Q
namespace Go.Proofs.Ytpjcdacnhalclaa.Q
open Go.RowKit Go.Proofs.YtpjcdacnhalclaaW.PrintWords Go.Proofs.YtpjcdacnhalclaaW.PrintLast Go.Proofs.YtpjcdacnhalclaaW.PrintMore
attribute [local go_sem] max2_int min2_int max_two min_two max_three min_three max_four min_four
set_option linter.unusedVariables false
set_option linter.unusedSimpArgs false
theorem rd_T65_nat (x : List S65) (i : Nat) (h : i < x.length) : rd_T65 x (i : Int) = x[i] := by
  unfold rd_T65
  rw [List.getD_eq_getElem?_getD, Int.toNat_natCast, List.getElem?_eq_getElem h]
  rfl
def validS (x : S24) : Bool := validV x.f0 x.f1 x.f2
/-- v is in the interval. -/
def oneI (x : S65) (v : S24) : Bool := decide (cmpV x.f0 v ≤ 0) && (x.f2 || decide (cmpV v x.f1 < 0))
/-- v is in one of the intervals. -/
def inI (l : List S65) (v : S24) : Bool := l.any fun x => oneI x v
theorem interval_contains.at_ (l : List S65) (hl : l.length < 4611686018427387904) (v : S24) : ∀ (m i : Nat), l.length - i = m → i ≤ l.length → Ev (fun k => interval_contains.l0 k l l.length i v.f0 v.f1 v.f2) (inI (l.drop i) v) := by
  intro m
  induction m with
  | zero =>
    intro i hm hi
    have : l.drop i = [] := List.drop_eq_nil_iff.2 (by omega)
    rw [this]
    exact Ev.step (f := fun _ => some false) (fun k => by rw [interval_contains.l0, if_neg (by omega)]) (Ev.now _)
  | succ m ih =>
    intro i hm hi
    have hil : i < l.length := by omega
    have hw : wrap64 ((i : Int) + 1) = ((i + 1 : Nat) : Int) := wrap64_succ (by omega)
    have hd : inI (l.drop i) v = (oneI l[i] v || inI (l.drop (i + 1)) v) := by rw [List.drop_eq_getElem_cons hil]; rfl
    have ih' := ih (i + 1) (by omega) (by omega)
    rw [hd]
    have hst : ∀ k, interval_contains.l0 (k + 1) l l.length i v.f0 v.f1 v.f2 = if cmpV l[i].f0 v ≤ 0 then (if l[i].f2 = true then some true else if cmpV v l[i].f1 < 0 then some true else interval_contains.l0 k l l.length ((i + 1 : Nat) : Int) v.f0 v.f1 v.f2) else interval_contains.l0 k l l.length ((i + 1 : Nat) : Int) v.f0 v.f1 v.f2 := by
      intro k
      rw [interval_contains.l0, if_pos (by omega), if_pos (by omega), if_pos (by omega), rd_T65_nat l i hil, hw]
      simp only [value_Compare.some_, Option.bind_some]
    refine Ev.step hst ?_
    unfold oneI
    by_cases h1 : cmpV l[i].f0 v ≤ 0
    · by_cases h2 : l[i].f2 = true
      · simp only [h1, h2, if_true, decide_true, Bool.true_or, Bool.and_self]
        exact Ev.now _
      · have h2 := Bool.eq_false_iff.2 h2
        by_cases h3 : cmpV v l[i].f1 < 0
        · simp only [h1, h2, h3, if_true, decide_true, Bool.false_or, Bool.and_self, Bool.true_or, Bool.false_eq_true, if_false]
          exact Ev.now _
        · simp only [h1, h2, h3, if_true, decide_true, decide_false, Bool.false_or, Bool.and_false, Bool.false_eq_true, if_false]
          exact ih'
    · simp only [h1, if_false, decide_false, Bool.false_and, Bool.false_or]
      exact ih'
theorem interval_contains.ev (l : List S65) (hl : l.length < 4611686018427387904) (v : S24) : Ev (fun k => interval_contains.f k l v.f0 v.f1 v.f2) (inI l v) := by
  have := interval_contains.at_ l hl v l.length 0 rfl (Nat.zero_le _)
  exact this
/-- What an interval before others must be. -/
def headOk (x : S65) (rest : List S65) : Bool := validS x.f0 && (if x.f2 = true then rest.isEmpty && (x.f1.f0 == 0 && (x.f1.f1 == 0 && (x.f1.f2.toList == ([] : List UInt8)))) else validS x.f1 && decide (cmpV x.f0 x.f1 < 0))
def gapOk (x : S65) : List S65 → Bool
  | [] => true
  | y :: _ => decide (cmpV x.f1 y.f0 < 0)
/-- Canonical, but for its length. -/
def ordI : List S65 → Bool
  | [] => true
  | x :: rest => headOk x rest && (if x.f2 = true then true else gapOk x rest) && ordI rest
end Go.Proofs.Ytpjcdacnhalclaa.Q
