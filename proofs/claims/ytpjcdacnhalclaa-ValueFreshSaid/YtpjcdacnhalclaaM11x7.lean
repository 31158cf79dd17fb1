/- A part of a proof: facts of functions that the law calls; conditions stand in each. -/
import Derived.Test.YtpjcdacnhalclaaM11x2
import Derived.Test.YtpjcdacnhalclaaM11x4
import Derived.Test.YtpjcdacnhalclaaM11x5
import Derived.Test.YtpjcdacnhalclaaM11x6
set_option linter.unusedVariables false
set_option linter.unusedSimpArgs false
namespace Go.Proofs.Ytpjcdacnhalclaa.Q
open Go.RowKit Go.Proofs.YtpjcdacnhalclaaW.PrintWords Go.Proofs.YtpjcdacnhalclaaW.PrintLast Go.Proofs.YtpjcdacnhalclaaW.PrintMore
attribute [local go_sem] max2_int min2_int max_two min_two max_three min_three max_four min_four
def l1_begun.f (k : Nat)  : Option (Bool) := (v_Next.f k 5 0 (⟨#[97]⟩ : ByteArray)).bind fun bt228 => ((v_Set.f k (([(([(⟨4, 2, (⟨#[]⟩ : ByteArray)⟩ : S24)] : List (S24))), (([(⟨4, 1, (⟨#[]⟩ : ByteArray)⟩ : S24)] : List (S24))), (([(⟨4, 2, (⟨#[]⟩ : ByteArray)⟩ : S24)] : List (S24)))] : List (List (S24))))).bind fun t245 => (if bt228.2.2.2 = true then (if bt228.2.2.1.toList = ([97, 0] : List UInt8) then ((v_Valid.f k bt228.1 bt228.2.1 bt228.2.2.1).bind fun t248 => (if t248 = true then ((v_Real.f k bt228.1 bt228.2.1 bt228.2.2.1).bind fun t249 => (if t249 = true then (if (t245.length : Int) = 2 then (if 0 < (t245.length : Int) then (if 1 < (t245.length : Int) then ((v_CompareRows.f k (rd_L4 t245 0) (rd_L4 t245 1)).bind fun t252 => (some (t252 == (-1)))) else (none)) else (none)) else (some false)) else (some false))) else (some false))) else (some false)) else (some false)))
theorem l1_begun.mono : ∀ k, LeO (l1_begun.f k ) (l1_begun.f (k + 1) ) := by
 intro  k
 unfold l1_begun.f
 repeat' first
   | (with_reducible exact v_CompareRows.mono _ _ _)
   | (with_reducible exact v_Next.mono _ _ _ _)
   | (with_reducible exact v_Real.mono _ _ _ _)
   | (with_reducible exact v_Set.mono _ _)
   | (with_reducible exact v_Valid.mono _ _ _ _)
   | (with_reducible exact LeO.refl _)
   | (with_reducible exact LeO.none _)
   | (with_reducible refine LeO.ite ?_ ?_)
   | (with_reducible refine LeO.bind ?_ (fun _ => ?_))
   | exact v_CompareRows.mono _ _ _
   | exact v_Next.mono _ _ _ _
   | exact v_Real.mono _ _ _ _
   | exact v_Set.mono _ _
   | exact v_Valid.mono _ _ _ _
   | exact LeO.none _
   | refine LeO.ite ?_ ?_
   | refine LeO.bind ?_ (fun _ => ?_)
def l1_begun.T3 : Bool × List (List Nat × List Nat) := (true, [([], []), ([0], [0]), ([1], [1]), ([2, 1], [1, 2]), ([3, 1], [1, 3]), ([1, 4], [1, 4]), ([5, 1], [5]), ([6], [6]), ([7, 6, 6], [6, 7]), ([6, 8], [6, 8]), ([9, 8], [9]), ([10], [10]), ([11, 10, 10], [10, 11]), ([10, 12], [10, 12]), ([13, 12], [13]), ([14], [14]), ([15, 14], [14, 15]), ([16, 14], [14, 16]), ([14, 17], [14, 17]), ([18, 14], [18]), ([19], [19]), ([20, 19], [19, 20]), ([21, 19], [19, 21]), ([19], [19]), ([23, 19], [19, 23]), ([24, 19], [19, 24]), ([22, 25, 19, 19], [19, 22, 25]), ([26, 19], [19, 26]), ([19, 27], [19, 27]), ([28, 26, 0, 1, 2, 3, 4, 5, 6, 7, 8, 9, 10, 11, 12, 13, 14, 15, 16, 17, 18, 19, 20, 21, 22, 23, 24, 25, 26, 27, 28], [28])])
def l1_begun.B3 : List Nat := [0, 1, 3, 7, 15, 31, 63, 127, 255, 511, 1023, 2047, 4095, 8191, 16383, 32767, 65535, 131071, 262143, 524287, 1048575, 2097151, 4194303, 1048575, 9437183, 26214399, 67108863, 134217727, 268435455, 536870911]
theorem l1_begun.tab3 : rtab .any (opsOf Try.f20 3) = l1_begun.T3 := by kernel_rfl
theorem l1_begun.bits3 : waitsOk l1_begun.T3.2 l1_begun.B3 = true := by kernel_rfl
set_option maxHeartbeats 8000000 in
set_option maxRecDepth 100000 in
theorem l1_begun.callsT (k : Nat)  (r : Bool) (w : World) (h : l1_begun.f k  = some r) (HRT : Aside0 (r = true)) :
  Calls Try.prog 20 #[] w fun e w' => e = .returned (.bool r) ∧ Below w.heap.size w w' := by
 have hu24 := Try.underlying24
 have HB := aK (Below.refl w.heap.size w)
 have H : ((v_Next.f k 5 0 (⟨#[97]⟩ : ByteArray)).bind fun bt228 => ((v_Set.f k (([(([(⟨4, 2, (⟨#[]⟩ : ByteArray)⟩ : S24)] : List (S24))), (([(⟨4, 1, (⟨#[]⟩ : ByteArray)⟩ : S24)] : List (S24))), (([(⟨4, 2, (⟨#[]⟩ : ByteArray)⟩ : S24)] : List (S24)))] : List (List (S24))))).bind fun t245 => (if bt228.2.2.2 = true then (if bt228.2.2.1.toList = ([97, 0] : List UInt8) then ((v_Valid.f k bt228.1 bt228.2.1 bt228.2.2.1).bind fun t248 => (if t248 = true then ((v_Real.f k bt228.1 bt228.2.1 bt228.2.2.1).bind fun t249 => (if t249 = true then (if (t245.length : Int) = 2 then (if 0 < (t245.length : Int) then (if 1 < (t245.length : Int) then ((v_CompareRows.f k (rd_L4 t245 0) (rd_L4 t245 1)).bind fun t252 => (some (t252 == (-1)))) else (none)) else (none)) else (some false)) else (some false))) else (some false))) else (some false)) else (some false)))) = some r := h
 clear h
 obtain ⟨⟨t228, t229, t230, t231⟩, A1, H⟩ := oB H
 try dsimp only at H
 obtain ⟨y233, hy233⟩ : ∃ y_ : List (S24), y_ = (([(⟨4, 2, (⟨#[]⟩ : ByteArray)⟩ : S24)] : List (S24))) := ⟨_, rfl⟩
 replace H : ((v_Set.f k (([y233, (([(⟨4, 1, (⟨#[]⟩ : ByteArray)⟩ : S24)] : List (S24))), (([(⟨4, 2, (⟨#[]⟩ : ByteArray)⟩ : S24)] : List (S24)))] : List (List (S24))))).bind fun t245 => (if t231 = true then (if t230.toList = ([97, 0] : List UInt8) then ((v_Valid.f k t228 t229 t230).bind fun t248 => (if t248 = true then ((v_Real.f k t228 t229 t230).bind fun t249 => (if t249 = true then (if (t245.length : Int) = 2 then (if 0 < (t245.length : Int) then (if 1 < (t245.length : Int) then ((v_CompareRows.f k (rd_L4 t245 0) (rd_L4 t245 1)).bind fun t252 => (some (t252 == (-1)))) else (none)) else (none)) else (some false)) else (some false))) else (some false))) else (some false)) else (some false))) = some r := by first | (rw [hy233]; with_reducible exact H) | (have H2_ := (Option.bind_some _ _).symm.trans H; rw [hy233]; with_reducible exact H2_) | (have H2_ := (Option.bind_some _ _).symm.trans H; with_reducible exact H2_) | with_reducible exact H | (rw [hy233]; exact H) | exact H
 have Ny233 := Aside0.mk hy233
 clear hy233
 obtain ⟨y236, hy236⟩ : ∃ y_ : List (S24), y_ = (([(⟨4, 1, (⟨#[]⟩ : ByteArray)⟩ : S24)] : List (S24))) := ⟨_, rfl⟩
 replace H : ((v_Set.f k (([y233, y236, (([(⟨4, 2, (⟨#[]⟩ : ByteArray)⟩ : S24)] : List (S24)))] : List (List (S24))))).bind fun t245 => (if t231 = true then (if t230.toList = ([97, 0] : List UInt8) then ((v_Valid.f k t228 t229 t230).bind fun t248 => (if t248 = true then ((v_Real.f k t228 t229 t230).bind fun t249 => (if t249 = true then (if (t245.length : Int) = 2 then (if 0 < (t245.length : Int) then (if 1 < (t245.length : Int) then ((v_CompareRows.f k (rd_L4 t245 0) (rd_L4 t245 1)).bind fun t252 => (some (t252 == (-1)))) else (none)) else (none)) else (some false)) else (some false))) else (some false))) else (some false)) else (some false))) = some r := by first | (rw [hy236]; with_reducible exact H) | (have H2_ := (Option.bind_some _ _).symm.trans H; rw [hy236]; with_reducible exact H2_) | (have H2_ := (Option.bind_some _ _).symm.trans H; with_reducible exact H2_) | with_reducible exact H | (rw [hy236]; exact H) | exact H
 have Ny236 := Aside0.mk hy236
 clear hy236
 obtain ⟨y239, hy239⟩ : ∃ y_ : List (S24), y_ = (([(⟨4, 2, (⟨#[]⟩ : ByteArray)⟩ : S24)] : List (S24))) := ⟨_, rfl⟩
 replace H : ((v_Set.f k (([y233, y236, y239] : List (List (S24))))).bind fun t245 => (if t231 = true then (if t230.toList = ([97, 0] : List UInt8) then ((v_Valid.f k t228 t229 t230).bind fun t248 => (if t248 = true then ((v_Real.f k t228 t229 t230).bind fun t249 => (if t249 = true then (if (t245.length : Int) = 2 then (if 0 < (t245.length : Int) then (if 1 < (t245.length : Int) then ((v_CompareRows.f k (rd_L4 t245 0) (rd_L4 t245 1)).bind fun t252 => (some (t252 == (-1)))) else (none)) else (none)) else (some false)) else (some false))) else (some false))) else (some false)) else (some false))) = some r := by first | (rw [hy239]; with_reducible exact H) | (have H2_ := (Option.bind_some _ _).symm.trans H; rw [hy239]; with_reducible exact H2_) | (have H2_ := (Option.bind_some _ _).symm.trans H; with_reducible exact H2_) | with_reducible exact H | (rw [hy239]; exact H) | exact H
 have Ny239 := Aside0.mk hy239
 clear hy239
 obtain ⟨y242, hy242⟩ : ∃ y_ : List (List (S24)), y_ = (([y233, y236, y239] : List (List (S24)))) := ⟨_, rfl⟩
 replace H : ((v_Set.f k y242).bind fun t245 => (if t231 = true then (if t230.toList = ([97, 0] : List UInt8) then ((v_Valid.f k t228 t229 t230).bind fun t248 => (if t248 = true then ((v_Real.f k t228 t229 t230).bind fun t249 => (if t249 = true then (if (t245.length : Int) = 2 then (if 0 < (t245.length : Int) then (if 1 < (t245.length : Int) then ((v_CompareRows.f k (rd_L4 t245 0) (rd_L4 t245 1)).bind fun t252 => (some (t252 == (-1)))) else (none)) else (none)) else (some false)) else (some false))) else (some false))) else (some false)) else (some false))) = some r := by first | (rw [hy242]; with_reducible exact H) | (have H2_ := (Option.bind_some _ _).symm.trans H; rw [hy242]; with_reducible exact H2_) | (have H2_ := (Option.bind_some _ _).symm.trans H; with_reducible exact H2_) | with_reducible exact H | (rw [hy242]; exact H) | exact H
 have Ny242 := Aside0.mk hy242
 clear hy242
 obtain ⟨t245, A2, H⟩ := oB H
 try dsimp only at H
 by_cases c3 : t231 = true
 rotate_left
 ·replace c3 := Bool.eq_false_iff.mpr c3
  subst c3
  rw [if_neg (show ¬ (false = true) by decide)] at H
  exact absurd (H.trans (congrArg some HRT.out)) (by simp)
 subst c3
 rw [if_pos rfl] at H
 by_cases c4 : t230.toList = ([97, 0] : List UInt8)
 rotate_left
 ·rw [if_neg c4] at H
  have c4b0 : (t230.toList == ([97, 0] : List UInt8)) = false := beq_eq_false_iff_ne.mpr c4
  have c4b1 : (t230.toList != ([97, 0] : List UInt8)) = true := bne_iff_ne.mpr c4
  exact absurd (H.trans (congrArg some HRT.out)) (by simp)
 rw [if_pos c4] at H
 have c4b0 : (t230.toList == ([97, 0] : List UInt8)) = true := beq_iff_eq.mpr c4
 have c4b1 : (t230.toList != ([97, 0] : List UInt8)) = false := bne_eq_false_iff_eq.mpr c4
 clear c4
 obtain ⟨t248, A5, H⟩ := oB H
 try dsimp only at H
 by_cases c6 : t248 = true
 rotate_left
 ·replace c6 := Bool.eq_false_iff.mpr c6
  subst c6
  rw [if_neg (show ¬ (false = true) by decide)] at H
  exact absurd (H.trans (congrArg some HRT.out)) (by simp)
 subst c6
 rw [if_pos rfl] at H
 obtain ⟨t249, A7, H⟩ := oB H
 try dsimp only at H
 by_cases c8 : t249 = true
 rotate_left
 ·replace c8 := Bool.eq_false_iff.mpr c8
  subst c8
  rw [if_neg (show ¬ (false = true) by decide)] at H
  exact absurd (H.trans (congrArg some HRT.out)) (by simp)
 subst c8
 rw [if_pos rfl] at H
 by_cases c9 : (t245.length : Int) = 2
 rotate_left
 ·rw [if_neg c9] at H
  have c9b0 : ((t245.length : Int) == 2) = false := beq_eq_false_iff_ne.mpr c9
  have c9b1 : ((t245.length : Int) != 2) = true := bne_iff_ne.mpr c9
  exact absurd (H.trans (congrArg some HRT.out)) (by simp)
 rw [if_pos c9] at H
 have c9b0 : ((t245.length : Int) == 2) = true := beq_iff_eq.mpr c9
 have c9b1 : ((t245.length : Int) != 2) = false := bne_eq_false_iff_eq.mpr c9
 clear c9
 by_cases c10 : 0 < (t245.length : Int)
 rotate_left
 ·rw [if_neg c10] at H
  exact absurd H (by simp)
 rw [if_pos c10] at H
 have c10b0 : decide (0 < (t245.length : Int)) = true := decide_eq_true c10
 have c10b1 : decide (0 < t245.length) = true := decide_eq_true (by omega)
 clear c10
 by_cases c11 : 1 < (t245.length : Int)
 rotate_left
 ·rw [if_neg c11] at H
  exact absurd H (by simp)
 rw [if_pos c11] at H
 have c11b0 : decide (1 < (t245.length : Int)) = true := decide_eq_true c11
 have c11b1 : decide (1 < t245.length) = true := decide_eq_true (by omega)
 clear c11
 obtain ⟨t252, A12, H⟩ := oB H
 try dsimp only at H
 obtain rfl := Option.some.inj H
 go_enter Try.func20, Try.ntmps20
 try go_wp2_with (first | ((with_reducible refine gate_callee (f := 27) rfl ?_); refine gL (some 6) rfl Try.func27 #[.agg #[.int .i64 5, .int .i64 0, .string (⟨#[97]⟩ : ByteArray)]] rfl ?_; (with_reducible refine (v_Next.calls k 5 0 (⟨#[97]⟩ : ByteArray) t228 t229 t230 true _ A1.out).mono ?_); rintro e w13 ⟨rfl, hb⟩; refine ⟨_, rfl, ?_⟩; have n0_ := aK (below_step bO hb); clear HB; have HB := n0_; clear n0_; (try clear hb)) | ((with_reducible refine gate_dst (N := 1) rfl ?_); (try (refine gate_guard (by rfl) ?_; dsimp only)); refine box_event ?hg (N := 1) ?hd (cs := #[.int .i64 0, .int .i64 0, .string (⟨#[]⟩ : ByteArray)]) (t := 24) ?hr ?_; (case hd => rfl); (case hg => rfl); (case hr => exact hR); intro gb232 hg w14 hbox hb; have n0_ := aK (below_step bO hb); have n1_ := aK (hbox); have n2_ := aK ((by rw [hg]; exact (below_size bO) : w.heap.size ≤ gb232)); have n3_ := aK ((by rw [hg]; exact (below_size bO) : w.heap.size ≤ gb232)); clear HB; have HB := n0_; have BK232 := n1_; have GW232 := n2_; have GE232 := n3_; clear n0_ n1_ n2_ n3_ hb hbox hg; obtain ⟨hcz15_0, hcz15_1, hcz15_2⟩ := z3 BK232.out (.int .i64 0) (.int .i64 0) (.string (⟨#[]⟩ : ByteArray)); obtain ⟨hfz15_0, hfz15_1, hfz15_2⟩ := f3 BK232.out) | ((with_reducible refine gate_dst (N := 10) rfl ?_); (try (refine gate_guard (by rfl) ?_; dsimp only)); refine Kd.R_lit k24 _ 24 ?hg (N := 10) ?hd (xs := ([(⟨4, 2, (⟨#[]⟩ : ByteArray)⟩ : S24)] : List (S24))) (inner := [.int .i64 4, .int .i64 2, .string (⟨#[]⟩ : ByteArray)]) (ok := fun _ => True) (okp := fun _ => True) ?hr ?hp (fun _ hk => hk) trivial (Below.refl _ _) (Nat.le_refl _) (by simp) ?_; (case hd => rfl); (case hg => rfl); (case hr => exact hR); (case hp => exact (Reps.c3 (show Kd.M k24 _ _ _ (⟨4, 2, (⟨#[]⟩ : ByteArray)⟩ : S24) [.int .i64 4, .int .i64 2, .string (⟨#[]⟩ : ByteArray)] from (k24_mkM _ _ _ (⟨4, 2, (⟨#[]⟩ : ByteArray)⟩ : S24) )) (Reps.none _ _))); intro v234 w16 ho17 hb hg_ hnew_; clear hg_ hnew_; (first | rw [← Ny233.out] at ho17 | (simp only [Int.reduceToNat] at ho17; rw [← Ny233.out] at ho17)); have n0_ := aK (Kd.R_lower (Kd.R_newB ho17 (g := gb232) (o := .cells #[.int .i64 t228, .int .i64 t229, .string t230] 24 (0, 0)) (by (with_reducible repeat (first | refine blk_drewN ?_ _ | refine blk_drew ?_ | refine blk_alloc ?_ _)); refine blk_put (cs := #[.int .i64 t228, .int .i64 t229, .string (⟨#[]⟩ : ByteArray)]) ?_ 2 _ rfl; (with_reducible repeat (first | refine blk_drewN ?_ _ | refine blk_drew ?_ | refine blk_alloc ?_ _)); refine blk_put (cs := #[.int .i64 t228, .int .i64 0, .string (⟨#[]⟩ : ByteArray)]) ?_ 1 _ rfl; (with_reducible repeat (first | refine blk_drewN ?_ _ | refine blk_drew ?_ | refine blk_alloc ?_ _)); refine blk_put (cs := #[.int .i64 0, .int .i64 0, .string (⟨#[]⟩ : ByteArray)]) ?_ 0 _ rfl; (with_reducible repeat (first | refine blk_drewN ?_ _ | refine blk_drew ?_ | refine blk_alloc ?_ _)); exact BK232.out)) (below_size (bS GE232.out))); have n1_ := aK (blk_below (g := gb232) (o := .cells #[.int .i64 t228, .int .i64 t229, .string t230] 24 (0, 0)) (by (with_reducible repeat (first | refine blk_drewN ?_ _ | refine blk_drew ?_ | refine blk_alloc ?_ _)); refine blk_put (cs := #[.int .i64 t228, .int .i64 t229, .string (⟨#[]⟩ : ByteArray)]) ?_ 2 _ rfl; (with_reducible repeat (first | refine blk_drewN ?_ _ | refine blk_drew ?_ | refine blk_alloc ?_ _)); refine blk_put (cs := #[.int .i64 t228, .int .i64 0, .string (⟨#[]⟩ : ByteArray)]) ?_ 1 _ rfl; (with_reducible repeat (first | refine blk_drewN ?_ _ | refine blk_drew ?_ | refine blk_alloc ?_ _)); refine blk_put (cs := #[.int .i64 0, .int .i64 0, .string (⟨#[]⟩ : ByteArray)]) ?_ 0 _ rfl; (with_reducible repeat (first | refine blk_drewN ?_ _ | refine blk_drew ?_ | refine blk_alloc ?_ _)); exact BK232.out) hb); have n2_ := aK (below_step (bS GE232.out) hb); clear BK232 HB; have HO235 := n0_; have BK232 := n1_; have HB := n2_; clear n0_ n1_ n2_ hb ho17) | ((with_reducible refine gate_dst (N := 12) rfl ?_); (try (refine gate_guard (by rfl) ?_; dsimp only)); refine Kd.R_lit k24 _ 24 ?hg (N := 12) ?hd (xs := ([(⟨4, 1, (⟨#[]⟩ : ByteArray)⟩ : S24)] : List (S24))) (inner := [.int .i64 4, .int .i64 1, .string (⟨#[]⟩ : ByteArray)]) (ok := fun _ => True) (okp := fun _ => True) ?hr ?hp (fun _ hk => hk) trivial (Below.refl _ _) (Nat.le_refl _) (by simp) ?_; (case hd => rfl); (case hg => rfl); (case hr => exact hR); (case hp => exact (Reps.c3 (show Kd.M k24 _ _ _ (⟨4, 1, (⟨#[]⟩ : ByteArray)⟩ : S24) [.int .i64 4, .int .i64 1, .string (⟨#[]⟩ : ByteArray)] from (k24_mkM _ _ _ (⟨4, 1, (⟨#[]⟩ : ByteArray)⟩ : S24) )) (Reps.none _ _))); intro v237 w18 ho19 hb hg_ hnew_; clear hg_ hnew_; (first | rw [← Ny236.out] at ho19 | (simp only [Int.reduceToNat] at ho19; rw [← Ny236.out] at ho19)); have n0_ := aK (Kd.R_elder' (rX HO235.out) (Kd.R_base ho19) hb); have n1_ := aK (Kd.R_lower (Kd.R_newB (Kd.R_new' ho19 (Kd.R_lt (rX HO235.out))) (g := gb232) (o := .cells #[.int .i64 t228, .int .i64 t229, .string t230] 24 (0, 0)) (bX BK232.out)) (below_size (bS GE232.out))); have n2_ := aK (blk_below (bX BK232.out) hb); have n3_ := aK (below_step (bS GE232.out) hb); clear HO235 BK232 HB; have HO235 := n0_; have HO238 := n1_; have BK232 := n2_; have HB := n3_; clear n0_ n1_ n2_ n3_ hb ho19) | ((with_reducible refine gate_dst (N := 14) rfl ?_); (try (refine gate_guard (by rfl) ?_; dsimp only)); refine Kd.R_lit k24 _ 24 ?hg (N := 14) ?hd (xs := ([(⟨4, 2, (⟨#[]⟩ : ByteArray)⟩ : S24)] : List (S24))) (inner := [.int .i64 4, .int .i64 2, .string (⟨#[]⟩ : ByteArray)]) (ok := fun _ => True) (okp := fun _ => True) ?hr ?hp (fun _ hk => hk) trivial (Below.refl _ _) (Nat.le_refl _) (by simp) ?_; (case hd => rfl); (case hg => rfl); (case hr => exact hR); (case hp => exact (Reps.c3 (show Kd.M k24 _ _ _ (⟨4, 2, (⟨#[]⟩ : ByteArray)⟩ : S24) [.int .i64 4, .int .i64 2, .string (⟨#[]⟩ : ByteArray)] from (k24_mkM _ _ _ (⟨4, 2, (⟨#[]⟩ : ByteArray)⟩ : S24) )) (Reps.none _ _))); intro v240 w20 ho21 hb hg_ hnew_; clear hg_ hnew_; (first | rw [← Ny239.out] at ho21 | (simp only [Int.reduceToNat] at ho21; rw [← Ny239.out] at ho21)); have n0_ := aK (Kd.R_elder' (rX HO235.out) (Kd.R_base ho21) hb); have n1_ := aK (Kd.R_elder' (rX HO238.out) (Kd.R_base ho21) hb); have n2_ := aK (Kd.R_lower (Kd.R_newB (Kd.R_new' (Kd.R_new' ho21 (Kd.R_lt (rX HO235.out))) (Kd.R_lt (rX HO238.out))) (g := gb232) (o := .cells #[.int .i64 t228, .int .i64 t229, .string t230] 24 (0, 0)) (bX BK232.out)) (below_size (bS GE232.out))); have n3_ := aK (blk_below (bX BK232.out) hb); have n4_ := aK (below_step (bS GE232.out) hb); clear HO235 HO238 BK232 HB; have HO235 := n0_; have HO238 := n1_; have HO241 := n2_; have BK232 := n3_; have HB := n4_; clear n0_ n1_ n2_ n3_ n4_ hb ho21; obtain ⟨Ao22, co22, eo22⟩ := Kd.R_slice HO235.out; subst eo22; obtain ⟨Ao23, co23, eo23⟩ := Kd.R_slice HO238.out; subst eo23; obtain ⟨Ao24, co24, eo24⟩ := Kd.R_slice HO241.out; subst eo24) | ((with_reducible refine gate_dst (N := 15) rfl ?_); (try (refine gate_guard (by rfl) ?_; dsimp only)); refine Kd.N_lit (Kd.slice 24 k24) _ 54 ?hg (N' := 15) ?hd (xs := ([y233, y236, y239] : List (List (S24)))) (inner := [.slice Ao22 y233.length co22, .slice Ao23 y236.length co23, .slice Ao24 y239.length co24]) (ok := (fun k_ => k_ ≠ gb232)) (okp := (fun k_ => k_ ≠ gb232)) ?hr ?hp (fun _ hk => hk) ((show ∀ k_, w20.heap.size ≤ k_ → (fun k_ => k_ ≠ gb232) k_ from fun k_ hk => Kd.freshB (g := gb232) (o := .cells #[.int .i64 t228, .int .i64 t229, .string t230] 24 (0, 0)) (bX BK232.out) k_ hk) _ (Nat.le_refl _)) (Below.refl _ _) (Nat.le_refl _) (by simp) ?_; (case hd => rfl); (case hg => rfl); (case hr => exact hR); (case hp => exact (Reps.one (show Kd.FK (Kd.slice 24 k24) _ _ y233 [.slice Ao22 y233.length co22] from (Kd.FK_slice_mk (Kd.R_reads' (Kd.R_mono (ok' := (fun k_ => k_ ≠ gb232)) (HO235.out) (fun k_ hk => hk.1.1.2))).2.1 (Kd.R_F (Kd.R_mono (ok' := (fun k_ => k_ ≠ gb232)) (HO235.out) (fun k_ hk => hk.1.1.2))))) (Reps.one (show Kd.FK (Kd.slice 24 k24) _ _ y236 [.slice Ao23 y236.length co23] from (Kd.FK_slice_mk (Kd.R_reads' (Kd.R_mono (ok' := (fun k_ => k_ ≠ gb232)) (HO238.out) (fun k_ hk => hk.1.2))).2.1 (Kd.R_F (Kd.R_mono (ok' := (fun k_ => k_ ≠ gb232)) (HO238.out) (fun k_ hk => hk.1.2))))) (Reps.one (show Kd.FK (Kd.slice 24 k24) _ _ y239 [.slice Ao24 y239.length co24] from (Kd.FK_slice_mk (Kd.R_reads' (Kd.R_mono (ok' := (fun k_ => k_ ≠ gb232)) (HO241.out) (fun k_ hk => hk.2))).2.1 (Kd.R_F (Kd.R_mono (ok' := (fun k_ => k_ ≠ gb232)) (HO241.out) (fun k_ hk => hk.2))))) (Reps.none _ _))))); intro v243 w25 ho26 hb hg_ hnew_; clear hg_ hnew_; (first | rw [← Ny242.out] at ho26 | (simp only [Int.reduceToNat] at ho26; rw [← Ny242.out] at ho26)); have n0_ := aK (Kd.N_lower ho26 (below_size (bS GE232.out))); have n1_ := aK (blk_below (bX BK232.out) hb); have n2_ := aK (below_step (bS GE232.out) hb); clear BK232 HB HO235 HO238 HO241; have HO244 := n0_; have BK232 := n1_; have HB := n2_; clear n0_ n1_ n2_ hb ho26; obtain ⟨Ao27, co27, eo27⟩ := Kd.N_slice HO244.out; subst eo27) | ((with_reducible refine gate_callee (f := 54) rfl ?_); refine gL (some 16) rfl Try.func54 #[.slice Ao27 y242.length co27] rfl ?_; (with_reducible refine (v_Set.calls k _ _ y242 t245 _ ?side1 ?side2 A2.out).mono ?_); (case side1 => exact cX (Kd.N_reads' HO244.out).2.2); (case side2 => exact (Kd.N_reads' HO244.out).2.1); rintro e w28 ⟨v246, rfl, ho0, hb⟩; refine ⟨_, rfl, ?_⟩; have n0_ := aK (Kd.N_elder' (by (with_reducible repeat (first | apply Kd.N_alloc | apply Kd.N_drewN | apply Kd.N_drew)); exact HO244.out) (Kd.S_base ho0) hb); have n1_ := aK (Kd.N_lower (Kd.N_mono (ok' := fun k_ => some k_ ≠ (.slice Ao27 y242.length co27 : Value).ownBlock ∧ k_ ≠ gb232) (Kd.S_N (Kd.S_bound ho0)) (fun k_ hk_ => ⟨(Kd.fresh' (Kd.N_lt (by (with_reducible repeat (first | apply Kd.N_alloc | apply Kd.N_drewN | apply Kd.N_drew)); exact HO244.out)) k_ hk_.2.1), (Kd.freshB (g := gb232) (o := .cells #[.int .i64 t228, .int .i64 t229, .string t230] 24 (0, 0)) (bX BK232.out) k_ hk_.2.1)⟩)) (below_size (bS GE232.out))); have n2_ := aK (blk_below (bX BK232.out) hb); have n3_ := aK (below_step (bS GE232.out) hb); clear HO244 BK232 HB; have HO244 := n0_; have HO247 := n1_; have BK232 := n2_; have HB := n3_; clear n0_ n1_ n2_ n3_; (try clear hb ho0)))
 have n0_ := aK (Kd.N_drew HO244.out)
 have n1_ := aK (Kd.N_drew HO247.out)
 have n2_ := aK (blk_drew BK232.out)
 have n3_ := aK (below_drew1 HB.out)
 clear HO244
 clear HO247
 clear BK232
 clear HB
 have HO244 := n0_
 have HO247 := n1_
 have BK232 := n2_
 have HB := n3_
 clear n0_ n1_ n2_ n3_
 obtain ⟨AoZ, coZ, eoZ⟩ := Kd.N_slice HO247.out
 subst eoZ
 have p250 : 0 ≤ (0 : Int) := (by omega)
 have q250 : 0 < (t245.length : Int) := of_decide_eq_true (aA)
 obtain ⟨ad250, A250_0, c250_0, e250, hx250_0, hl250_0, hi250_0⟩ := at_L4 (Kd.N_reads' HO247.out).2.2 0 p250 q250
 cases e250
 obtain ⟨ce250, hce250, hMe250, hcc250⟩ := Kd.N_get HO247.out [] 0 p250 (by first | exact q250 | exact of_decide_eq_true (aA) | (have e_ := (Kd.N_reads' HO247.out).1; omega))
 obtain ⟨ua250_0, uc250_0, rfl, ul250_0, ge250_0⟩ := Kd.FK_slice_open hMe250
 have hv250_0 := hcc250 0 _ rfl
 rw [Nat.add_zero, show ((Kd.slice 24 k24)).sz = 1 from rfl, Nat.mul_one] at hv250_0
 replace hv250_0 := Option.some.inj (hv250_0.symm.trans hx250_0)
 injection hv250_0 with hva_ hvn_ hvc_
 rw [hva_] at ge250_0
 rw [hvc_] at ul250_0
 have HL250_0 := aK (show Kd.V k24 24 _ w.heap.size _ _ (rd_L4 t245 0) from Kd.V_mk ul250_0 ge250_0)
 clear hva_ hvn_ hvc_ ge250_0 ul250_0
 clear hcc250 hce250
 have qi250 : (0 < t245.length) = True := eq_true (by omega)
 (try rw [show ((0 : Int)).toNat = 0 from rfl] at hx250_0)
 (try rw [Addr.add_zero'] at hx250_0)
 have HR250_0 := Aside0.mk hi250_0
 have HC250_0 := Aside0.mk hl250_0
 clear hi250_0 hl250_0
 replace p250 := eq_true p250
 replace q250 := eq_true q250
 have p251 : 0 ≤ (1 : Int) := (by omega)
 have q251 : 1 < (t245.length : Int) := of_decide_eq_true (aA)
 obtain ⟨ad251, A251_0, c251_0, e251, hx251_0, hl251_0, hi251_0⟩ := at_L4 (Kd.N_reads' HO247.out).2.2 1 p251 q251
 obtain rfl : ad250 = ad251 := (by injection e251)
 obtain ⟨ce251, hce251, hMe251, hcc251⟩ := Kd.N_get HO247.out [] 1 p251 (by first | exact q251 | exact of_decide_eq_true (aA) | (have e_ := (Kd.N_reads' HO247.out).1; omega))
 obtain ⟨ua251_0, uc251_0, rfl, ul251_0, ge251_0⟩ := Kd.FK_slice_open hMe251
 have hv251_0 := hcc251 0 _ rfl
 rw [Nat.add_zero, show ((Kd.slice 24 k24)).sz = 1 from rfl, Nat.mul_one] at hv251_0
 replace hv251_0 := Option.some.inj (hv251_0.symm.trans hx251_0)
 injection hv251_0 with hva_ hvn_ hvc_
 rw [hva_] at ge251_0
 rw [hvc_] at ul251_0
 have HL251_0 := aK (show Kd.V k24 24 _ w.heap.size _ _ (rd_L4 t245 1) from Kd.V_mk ul251_0 ge251_0)
 clear hva_ hvn_ hvc_ ge251_0 ul251_0
 clear hcc251 hce251
 (try simp only [show (1 : Int).toNat = 1 from rfl, Nat.reduceMul, Nat.reduceEqDiff, Go.Addr.add, ↓reduceIte] at hx251_0)
 have qi251 : (1 < t245.length) = True := eq_true (by omega)
 (try rw [show ((1 : Int)).toNat = 1 from rfl] at hx251_0)
 have HR251_0 := Aside0.mk hi251_0
 have HC251_0 := Aside0.mk hl251_0
 clear hi251_0 hl251_0
 replace p251 := eq_true p251
 replace q251 := eq_true q251
 refine start_ (n := 30) (S := fun w' => w'.cell? ⟨gb232, 0, none⟩ = some (.int .i64 t228) ∧ w'.cell? ⟨gb232, 1, none⟩ = some (.int .i64 t229) ∧ w'.cell? ⟨gb232, 2, none⟩ = some (.string t230) ∧ w'.cell? ad250 = some (.slice A250_0 (rd_L4 t245 0).length c250_0) ∧ w'.cell? ⟨ad250.block, ad250.off + 1, none⟩ = some (.slice A251_0 (rd_L4 t245 1).length c251_0)) (ds := []) #[false, false, false, false, false, false, false, false, false, false, false, false, false, false, false, false, false, false, false, false, false, false, false, false, false, false, false, false, false, false] (by kernel_rfl) rfl rfl ⟨(blk_cell BK232.out 0).trans rfl, (blk_cell BK232.out 1).trans rfl, (blk_cell BK232.out 2).trans rfl, hx250_0, hx251_0⟩ (fun hHeld => ?_); refine with_tabW l1_begun.tab3 l1_begun.bits3 (fun HT_ HW_ => ?_)
 generalize w28.drew = w29 at HO244 HO247 BK232 HB HL250_0 HL251_0 HR250_0 HR251_0 hx250_0 hx251_0 hHeld ⊢
 refine pY (i := 0) (N := some 17) (tf 1 29) rfl rfl HT_.out ?_
 refine pY (i := 1) (N := some 18) (tf 2 28) rfl rfl HT_.out ?_
 refine pY (i := 2) (N := some 19) (tf 3 27) rfl rfl HT_.out ?_
 refine take_ (i := 3) (N := some 20) (v := ?_) (a' := ?_) #[true, true, true, true, false, false, false, false, false, false, false, false, false, false, false, false, false, false, false, false, false, false, false, false, false, false, false, false, false, false] rfl rfl (take_ofW HT_.out HW_.out (by kernel_rfl)) (fun _ _ _ h => h) (Or.inl ⟨by rfl, ?_⟩) hHeld ?_ ?_
 rotate_left
 ·rintro w' ⟨s0, s1, s2, s3, s4⟩
  go_simp
  with_reducible rfl
 rotate_left
 ·exact aP
 refine pY (i := 4) (N := some 21) (tf 5 25) rfl rfl HT_.out ?_
 refine pY (i := 5) (N := some 22) (tf 6 24) rfl rfl HT_.out ?_
 refine pY (i := 6) (N := some 23) (tf 7 23) rfl rfl HT_.out ?_
 refine take_ (i := 7) (N := some 24) (v := ?_) (a' := ?_) #[true, true, true, true, true, true, true, true, false, false, false, false, false, false, false, false, false, false, false, false, false, false, false, false, false, false, false, false, false, false] rfl rfl (take_ofW HT_.out HW_.out (by kernel_rfl)) (fun _ _ _ h => h) (Or.inl ⟨by rfl, ?_⟩) hHeld ?_ ?_
 rotate_left
 ·rintro w' ⟨s0, s1, s2, s3, s4⟩
  go_simp
  with_reducible rfl
 rotate_left
 ·exact aP
 refine one_ (i := 8) (N := some 25) #[true, true, true, true, true, true, true, true, true, false, false, false, false, false, false, false, false, false, false, false, false, false, false, false, false, false, false, false, false, false] rfl rfl (one_of HT_.out (by kernel_rfl)) (by decide) (fun K hK => ?_)
 refine goes_ Try.func21 (by kernel_rfl) rfl #[.agg #[.int .i64 t228, .int .i64 t229, .string t230]] (by rfl) rfl rfl (by (try simp only [List.map_toArray, List.map_cons, List.map_nil]); first | done | rfl | (simp only [List.length_drop, List.length_take]; rfl)) ?_
 with_reducible refine (v_Valid.calls k t228 t229 t230 true _ A5.out).mono ?_
 rintro e w30 ⟨rfl, hb⟩
 replace HL250_0 := aK (Kd.V_below (vX HL250_0.out) hb)
 replace HL251_0 := aK (Kd.V_below (vX HL251_0.out) hb)
 replace HR250_0 := aK (Kd.C_below (by repeat (first | (with_reducible exact HR250_0.out) | (with_reducible refine Kd.C_alloc ?_ _) | (with_reducible refine Kd.C_drewN ?_ _) | (with_reducible refine Kd.C_drew ?_) | exact HR250_0.out)) hb)
 replace HR251_0 := aK (Kd.C_below (by repeat (first | (with_reducible exact HR251_0.out) | (with_reducible refine Kd.C_alloc ?_ _) | (with_reducible refine Kd.C_drewN ?_ _) | (with_reducible refine Kd.C_drew ?_) | exact HR251_0.out)) hb)
 have HS3_ := (hb.cell (World.block_lt_of_cell? _ _ (hHeld.2.2.2.1))).trans (hHeld.2.2.2.1)
 have HS4_ := (hb.cell (World.block_lt_of_cell? _ _ (hHeld.2.2.2.2))).trans (hHeld.2.2.2.2)
 refine ⟨_, rfl, ?_⟩
 have n0_ := aK (Kd.N_below (by (with_reducible repeat (first | apply Kd.N_alloc | apply Kd.N_drewN | apply Kd.N_drew)); exact HO244.out) hb)
 have n1_ := aK (Kd.N_below (by (with_reducible repeat (first | apply Kd.N_alloc | apply Kd.N_drewN | apply Kd.N_drew)); exact HO247.out) hb)
 have n2_ := aK (blk_below (bX BK232.out) hb)
 have n3_ := aK (below_step (bS GE232.out) hb)
 clear HO244
 clear HO247
 clear BK232
 clear HB
 have HO244 := n0_
 have HO247 := n1_
 have BK232 := n2_
 have HB := n3_
 clear n0_ n1_ n2_ n3_
 (try clear hb)
 (try clear hb2)
 (try clear hk)
 (try clear hi)
 refine hK.out _ _ ⟨(blk_cell BK232.out 0).trans rfl, (blk_cell BK232.out 1).trans rfl, (blk_cell BK232.out 2).trans rfl, HS3_, HS4_⟩ (fun hHeld => ?_)
 clear hK K
 refine norm_ (a' := ?_) ?_ ?_
 rotate_left
 ·show Act.put _ (some 25) _ = _
  simp only [Act.put, List.setIfInBounds_toArray, List.set_cons_zero, List.set_cons_succ, i64_w, i32_w]
  rfl
 refine pY (i := 9) (N := some 26) (tf 10 20) rfl rfl HT_.out ?_
 refine pY (i := 10) (N := some 27) (tf 11 19) rfl rfl HT_.out ?_
 refine take_ (i := 11) (N := some 28) (v := ?_) (a' := ?_) #[true, true, true, true, true, true, true, true, true, true, true, true, false, false, false, false, false, false, false, false, false, false, false, false, false, false, false, false, false, false] rfl rfl (take_ofW HT_.out HW_.out (by kernel_rfl)) (fun _ _ _ h => h) (Or.inl ⟨by rfl, ?_⟩) hHeld ?_ ?_
 rotate_left
 ·rintro w' ⟨s0, s1, s2, s3, s4⟩
  go_simp
  with_reducible rfl
 rotate_left
 ·exact aP
 refine one_ (i := 12) (N := some 29) #[true, true, true, true, true, true, true, true, true, true, true, true, true, false, false, false, false, false, false, false, false, false, false, false, false, false, false, false, false, false] rfl rfl (one_of HT_.out (by kernel_rfl)) (by decide) (fun K hK => ?_)
 refine goes_ Try.func22 (by kernel_rfl) rfl #[.agg #[.int .i64 t228, .int .i64 t229, .string t230]] (by rfl) rfl rfl (by (try simp only [List.map_toArray, List.map_cons, List.map_nil]); first | done | rfl | (simp only [List.length_drop, List.length_take]; rfl)) ?_
 with_reducible refine (v_Real.calls k t228 t229 t230 true _ A7.out).mono ?_
 rintro e w31 ⟨rfl, hb⟩
 replace HL250_0 := aK (Kd.V_below (vX HL250_0.out) hb)
 replace HL251_0 := aK (Kd.V_below (vX HL251_0.out) hb)
 replace HR250_0 := aK (Kd.C_below (by repeat (first | (with_reducible exact HR250_0.out) | (with_reducible refine Kd.C_alloc ?_ _) | (with_reducible refine Kd.C_drewN ?_ _) | (with_reducible refine Kd.C_drew ?_) | exact HR250_0.out)) hb)
 replace HR251_0 := aK (Kd.C_below (by repeat (first | (with_reducible exact HR251_0.out) | (with_reducible refine Kd.C_alloc ?_ _) | (with_reducible refine Kd.C_drewN ?_ _) | (with_reducible refine Kd.C_drew ?_) | exact HR251_0.out)) hb)
 have HS3_ := (hb.cell (World.block_lt_of_cell? _ _ (hHeld.2.2.2.1))).trans (hHeld.2.2.2.1)
 have HS4_ := (hb.cell (World.block_lt_of_cell? _ _ (hHeld.2.2.2.2))).trans (hHeld.2.2.2.2)
 refine ⟨_, rfl, ?_⟩
 have n0_ := aK (Kd.N_below (by (with_reducible repeat (first | apply Kd.N_alloc | apply Kd.N_drewN | apply Kd.N_drew)); exact HO244.out) hb)
 have n1_ := aK (Kd.N_below (by (with_reducible repeat (first | apply Kd.N_alloc | apply Kd.N_drewN | apply Kd.N_drew)); exact HO247.out) hb)
 have n2_ := aK (blk_below (bX BK232.out) hb)
 have n3_ := aK (below_step (bS GE232.out) hb)
 clear HO244
 clear HO247
 clear BK232
 clear HB
 have HO244 := n0_
 have HO247 := n1_
 have BK232 := n2_
 have HB := n3_
 clear n0_ n1_ n2_ n3_
 (try clear hb)
 (try clear hb2)
 (try clear hk)
 (try clear hi)
 obtain ⟨Ao32, co32, eo32⟩ := Kd.N_slice HO247.out
 (first | subst eo32 | (injection eo32 with f1_ f2_ f3_; have f4_ := f1_.symm; have f5_ := f3_.symm; clear f1_ f2_ f3_; subst f4_; subst f5_))
 refine hK.out _ _ ⟨(blk_cell BK232.out 0).trans rfl, (blk_cell BK232.out 1).trans rfl, (blk_cell BK232.out 2).trans rfl, HS3_, HS4_⟩ (fun hHeld => ?_)
 clear hK K
 refine norm_ (a' := ?_) ?_ ?_
 rotate_left
 ·show Act.put _ (some 29) _ = _
  simp only [Act.put, List.setIfInBounds_toArray, List.set_cons_zero, List.set_cons_succ, i64_w, i32_w]
  rfl
 refine pY (i := 13) (N := some 30) (tf 14 16) rfl rfl HT_.out ?_
 refine pY (i := 14) (N := some 31) (tf 15 15) rfl rfl HT_.out ?_
 refine pY (i := 15) (N := some 32) (tf 16 14) rfl rfl HT_.out ?_
 refine pY (i := 16) (N := some 33) (tf 17 13) rfl rfl HT_.out ?_
 refine pY (i := 17) (N := some 34) (tf 18 12) rfl rfl HT_.out ?_
 refine pY (i := 18) (N := some 35) (tf 19 11) rfl rfl HT_.out ?_
 refine pY (i := 19) (N := some 36) (tf 20 10) rfl rfl HT_.out ?_
 refine pY (i := 20) (N := some 37) (tf 21 9) rfl rfl HT_.out ?_
 refine pY (i := 21) (N := some 38) (tf 22 8) rfl rfl HT_.out ?_
 refine pY (i := 23) (N := some 40) #[true, true, true, true, true, true, true, true, true, true, true, true, true, true, true, true, true, true, true, true, true, true, false, true, false, false, false, false, false, false] rfl rfl HT_.out ?_
 refine pY (i := 24) (N := some 41) #[true, true, true, true, true, true, true, true, true, true, true, true, true, true, true, true, true, true, true, true, true, true, false, true, true, false, false, false, false, false] rfl rfl HT_.out ?_
 refine take_ (i := 22) (N := some 39) (v := ?_) (a' := ?_) #[true, true, true, true, true, true, true, true, true, true, true, true, true, true, true, true, true, true, true, true, true, true, true, true, true, false, false, false, false, false] rfl rfl (take_ofW HT_.out HW_.out (by kernel_rfl)) (fun _ _ _ h => h) (Or.inl ⟨by rfl, ?_⟩) hHeld ?_ ?_
 rotate_left
 ·rintro w' ⟨s0, s1, s2, s3, s4⟩
  go_simp
  with_reducible rfl
 rotate_left
 ·exact aP
 refine take_ (i := 25) (N := some 42) (v := ?_) (a' := ?_) #[true, true, true, true, true, true, true, true, true, true, true, true, true, true, true, true, true, true, true, true, true, true, true, true, true, true, false, false, false, false] rfl rfl (take_ofW HT_.out HW_.out (by kernel_rfl)) (fun _ _ _ h => h) (Or.inl ⟨by rfl, ?_⟩) hHeld ?_ ?_
 rotate_left
 ·rintro w' ⟨s0, s1, s2, s3, s4⟩
  go_simp
  with_reducible rfl
 rotate_left
 ·exact aP
 refine one_ (i := 26) (N := some 43) #[true, true, true, true, true, true, true, true, true, true, true, true, true, true, true, true, true, true, true, true, true, true, true, true, true, true, true, false, false, false] rfl rfl (one_of HT_.out (by kernel_rfl)) (by decide) (fun K hK => ?_)
 refine goes_ Try.func52 (by kernel_rfl) rfl #[.slice A250_0 (rd_L4 t245 0).length c250_0, .slice A251_0 (rd_L4 t245 1).length c251_0] (by rfl) rfl rfl (by (try simp only [List.map_toArray, List.map_cons, List.map_nil]); first | done | rfl | (simp only [List.length_drop, List.length_take]; rfl)) ?_
 with_reducible refine (v_CompareRows.calls k _ _ (rd_L4 t245 0) _ _ (rd_L4 t245 1) t252 _ ?side1 ?side2 ?side3 ?side4 A12.out).mono ?_
 (case side1 => repeat (first | exact (by repeat (first | (with_reducible exact HR250_0.out) | (with_reducible refine Kd.C_alloc ?_ _) | (with_reducible refine Kd.C_drewN ?_ _) | (with_reducible refine Kd.C_drew ?_) | exact HR250_0.out)) | (with_reducible refine Kd.C_alloc ?_ _) | (with_reducible refine Kd.C_drewN ?_ _) | (with_reducible refine Kd.C_drew ?_)))
 (case side2 => exact HC250_0.out)
 (case side3 => repeat (first | exact (by repeat (first | (with_reducible exact HR251_0.out) | (with_reducible refine Kd.C_alloc ?_ _) | (with_reducible refine Kd.C_drewN ?_ _) | (with_reducible refine Kd.C_drew ?_) | exact HR251_0.out)) | (with_reducible refine Kd.C_alloc ?_ _) | (with_reducible refine Kd.C_drewN ?_ _) | (with_reducible refine Kd.C_drew ?_)))
 (case side4 => exact HC251_0.out)
 rintro e w33 ⟨rfl, hb⟩
 have HS3_ := (hb.cell (World.block_lt_of_cell? _ _ (hHeld.2.2.2.1))).trans (hHeld.2.2.2.1)
 have HS4_ := (hb.cell (World.block_lt_of_cell? _ _ (hHeld.2.2.2.2))).trans (hHeld.2.2.2.2)
 refine ⟨_, rfl, ?_⟩
 have n0_ := aK (Kd.N_below (by (with_reducible repeat (first | apply Kd.N_alloc | apply Kd.N_drewN | apply Kd.N_drew)); exact HO244.out) hb)
 have n1_ := aK (Kd.N_below (by (with_reducible repeat (first | apply Kd.N_alloc | apply Kd.N_drewN | apply Kd.N_drew)); exact HO247.out) hb)
 have n2_ := aK (Kd.V_below (vX HL250_0.out) hb)
 have n3_ := aK (Kd.V_below (vX HL251_0.out) hb)
 have n4_ := aK (blk_below (bX BK232.out) hb)
 have n5_ := aK (Kd.C_below (by repeat (first | (with_reducible exact HR250_0.out) | (with_reducible refine Kd.C_alloc ?_ _) | (with_reducible refine Kd.C_drewN ?_ _) | (with_reducible refine Kd.C_drew ?_) | exact HR250_0.out)) hb)
 have n6_ := aK (Kd.C_below (by repeat (first | (with_reducible exact HR251_0.out) | (with_reducible refine Kd.C_alloc ?_ _) | (with_reducible refine Kd.C_drewN ?_ _) | (with_reducible refine Kd.C_drew ?_) | exact HR251_0.out)) hb)
 have n7_ := aK (below_step (bS GE232.out) hb)
 clear HO244
 clear HO247
 clear HL250_0
 clear HL251_0
 clear BK232
 clear HR250_0
 clear HR251_0
 clear HB
 have HO244 := n0_
 have HO247 := n1_
 have HL250_0 := n2_
 have HL251_0 := n3_
 have BK232 := n4_
 have HR250_0 := n5_
 have HR251_0 := n6_
 have HB := n7_
 clear n0_ n1_ n2_ n3_ n4_ n5_ n6_ n7_
 (try clear hb)
 (try clear hb2)
 (try clear hk)
 (try clear hi)
 refine hK.out _ _ ⟨(blk_cell BK232.out 0).trans rfl, (blk_cell BK232.out 1).trans rfl, (blk_cell BK232.out 2).trans rfl, HS3_, HS4_⟩ (fun hHeld => ?_)
 clear hK K
 refine norm_ (a' := ?_) ?_ ?_
 rotate_left
 ·show Act.put _ (some 43) _ = _
  simp only [Act.put, List.setIfInBounds_toArray, List.set_cons_zero, List.set_cons_succ, i64_w, i32_w]
  rfl
 refine pY (i := 27) (N := some 44) (tf 28 2) rfl rfl HT_.out ?_
 refine pY (i := 28) (N := some 45) (tf 29 1) rfl rfl HT_.out ?_
 refine pY (i := 29) (N := some 0) (tf 30 0) rfl rfl HT_.out ?_
 refine done_ (done_of HT_.out (by kernel_rfl)) ?_
 try go_wp2
 go_ret
 exact ⟨eW, bS GE232.out⟩
end Go.Proofs.Ytpjcdacnhalclaa.Q
namespace Go.Proofs.Ytpjcdacnhalclaa.Q
open Go.RowKit Go.Proofs.YtpjcdacnhalclaaW.PrintWords Go.Proofs.YtpjcdacnhalclaaW.PrintLast Go.Proofs.YtpjcdacnhalclaaW.PrintMore
attribute [local go_sem] max2_int min2_int max_two min_two max_three min_three max_four min_four
def IsS75 (w0 W : World) (g : Nat) (f0 : List Int) (f1 : Int) : Prop := ∃ A0 c0, W.heap[g]? = some (.cells #[.slice A0 f0.length c0, .int .i64 f1] 75 (0, 0)) ∧ w0.heap.size ≤ g ∧ Kd.C (Kd.int .u8) w0 A0 f0.length f0
theorem IsS75.grown {w0 W : World} {g : Nat} {f0 : List Int} {f1 : Int} {W1 : World} {row : Option Nat} (h : IsS75 w0 W g f0 f1) (hw : W.grownBy W1 row) (hne : some g ≠ row) : IsS75 w0 W1 g f0 f1 := by
 obtain ⟨A0, c0, hb, hg, hr0⟩ := h
 exact ⟨A0, c0, blk_grown hb hw hne, hg, hr0⟩
theorem IsS75.own_neN {w0 W : World} {g : Nat} {f0 : List Int} {f1 : Int} {α : Type} {d : Kd α} {e : Nat} {base : Nat} {ok : Nat → Prop} {v : Value} {xs : List α} (h : IsS75 w0 W g f0 f1) (ho : Kd.N d e W base ok v xs) (ht : e ≠ 75) : some g ≠ v.ownBlock := by
 obtain ⟨A0, c0, hb, hg, hr0⟩ := h
 exact Kd.N_ne ho hb ht
theorem IsS75.fresh {w0 W : World} {g : Nat} {f0 : List Int} {f1 : Int} (h : IsS75 w0 W g f0 f1) : ∀ k, W.heap.size ≤ k → k ≠ g := by
 obtain ⟨A0, c0, hb, hg, hr0⟩ := h
 exact Kd.freshB hb
theorem IsS75.kept {w0 W : World} {g : Nat} {f0 : List Int} {f1 : Int} {W1 : World} {S : Nat → Prop} (h : IsS75 w0 W g f0 f1) (hk : Kept W W1 S) (hne : ¬ S g) : IsS75 w0 W1 g f0 f1 := by
 obtain ⟨A0, c0, hb, hg, hr0⟩ := h
 exact ⟨A0, c0, blk_kept hb hk hne, hg, hr0⟩
theorem IsS75.below {w0 W : World} {g : Nat} {f0 : List Int} {f1 : Int} {W1 : World} (h : IsS75 w0 W g f0 f1) (hw : Below W.heap.size W W1) : IsS75 w0 W1 g f0 f1 := h.grown (grown_of_below hw none) (by simp)
theorem IsS75.alloc {w0 W : World} {g : Nat} {f0 : List Int} {f1 : Int} (h : IsS75 w0 W g f0 f1) (o : Obj) : IsS75 w0 (W.alloc o) g f0 f1 := h.below (below_alloc (Below.refl _ _) o)
theorem IsS75.drewN {w0 W : World} {g : Nat} {f0 : List Int} {f1 : Int} (h : IsS75 w0 W g f0 f1) (m : Nat) : IsS75 w0 (W.drewN m) g f0 f1 := h
theorem IsS75.drew {w0 W : World} {g : Nat} {f0 : List Int} {f1 : Int} (h : IsS75 w0 W g f0 f1) : IsS75 w0 W.drew g f0 f1 := h
theorem IsS75.apart {w0 W : World} {g : Nat} {f0 : List Int} {f1 : Int} {α : Type} {d : Kd α} {e : Nat} {base : Nat} {ok : Nat → Prop} {v : Value} {xs : List α} (h : IsS75 w0 W g f0 f1) (ho : d.R e W base ok v xs) (ht : ∀ q, q ∈ e :: d.E → q ≠ 75) : d.R e W base (fun k => ok k ∧ k ≠ g) v xs := by
 obtain ⟨A0, c0, hb, hg, hr0⟩ := h
 exact Kd.R_types ho hb ht
theorem IsS75.own_ne {w0 W : World} {g : Nat} {f0 : List Int} {f1 : Int} {α : Type} {d : Kd α} {e : Nat} {base : Nat} {ok : Nat → Prop} {v : Value} {xs : List α} (h : IsS75 w0 W g f0 f1) (ho : d.R e W base ok v xs) (ht : e ≠ 75) : some g ≠ v.ownBlock := by
 obtain ⟨A0, c0, hb, hg, hr0⟩ := h
 exact Kd.R_ne ho hb ht
theorem IsS75.lt {w0 W : World} {g : Nat} {f0 : List Int} {f1 : Int} (h : IsS75 w0 W g f0 f1) : g < W.heap.size := by
 obtain ⟨A0, c0, hb, hg, hr0⟩ := h
 exact blk_lt hb
theorem IsS75.ge {w0 W : World} {g : Nat} {f0 : List Int} {f1 : Int} (h : IsS75 w0 W g f0 f1) : w0.heap.size ≤ g := by
 obtain ⟨A0, c0, hb, hg, hr0⟩ := h
 exact hg
theorem IsS75.far {w0 W : World} {g : Nat} {f0 : List Int} {f1 : Int} {p : Addr} (h : IsS75 w0 W g f0 f1) (hne : g ≠ p.block) (u : Value) : IsS75 w0 (W.setCell p u) g f0 f1 := by
 obtain ⟨A0, c0, hb, hg, hr0⟩ := h
 exact ⟨A0, c0, blk_far hb hne u, hg, hr0⟩
theorem cellS75_0 {W : World} {g : Nat} {A0 : Option Addr} {c0 : Nat} {f0 : List Int} {f1 : Int} (h : W.heap[g]? = some (.cells #[.slice A0 f0.length c0, .int .i64 f1] 75 (0, 0))) : W.cell? ⟨g, 0, none⟩ = some (.slice A0 f0.length c0) := (blk_cell h 0).trans rfl
theorem cellS75_1 {W : World} {g : Nat} {A0 : Option Addr} {c0 : Nat} {f0 : List Int} {f1 : Int} (h : W.heap[g]? = some (.cells #[.slice A0 f0.length c0, .int .i64 f1] 75 (0, 0))) : W.cell? ⟨g, 1, none⟩ = some (.int .i64 f1) := (blk_cell h 1).trans rfl
theorem IsS75.set_1 {w0 W : World} {g : Nat} {f0 : List Int} {f1 : Int} (h : IsS75 w0 W g f0 f1) (x : Int) : IsS75 w0 (W.setCell ⟨g, 1, none⟩ (.int .i64 x)) g f0 x := by
 obtain ⟨A0, c0, hb, hg, hr0⟩ := h
 exact ⟨A0, c0, by simpa using blk_set hb 1 (.int .i64 x), hg, hr0⟩
def NewS75 (w0 W : World) (g : Nat) (f0 : List Int) (f1 : Int) : Prop := ∃ wN, Below w0.heap.size w0 wN ∧ Below wN.heap.size wN W ∧ IsS75 wN W g f0 f1
def cs_New.f (l0 : List Int) (a1 : Int) : Option (List Int × Int) := if 0 ≤ a1 then (if a1 ≤ 4096 then some (l0.take a1.toNat, 0) else none) else none
set_option maxHeartbeats 8000000 in
set_option maxRecDepth 100000 in
theorem cs_New.callsW (A0 : Option Addr) (c0 : Nat) (l0 : List Int) (a1 : Int) (w : World) (hr0 : Kd.C (Kd.int .u8) w A0 l0.length l0) (hc0 : l0.length ≤ c0) (h0 : 0 ≤ a1) (h1 : a1 ≤ 4096) :
  Calls Try.prog 18 #[.slice A0 l0.length c0, .int .i64 a1] w fun e w' => ∃ g_ : Nat, e = .returned (.pointer (some ⟨g_, 0, none⟩)) ∧ NewS75 w w' g_ (l0.take a1.toNat) 0 := by
 have hu75 := Try.underlying75
 have HR0 := Aside0.mk hr0
 have HC0 := Aside0.mk hc0
 have hm0 := Kd.C_max hr0
 clear hr0 hc0
 have HB := aK (Below.refl w.heap.size w)
 obtain ⟨ji3, hji3⟩ : ∃ j_ : Int, (mn (l0.length : Int) a1) = j_ := ⟨_, rfl⟩
 have hji3_ : (if a1 < (l0.length : Int) then a1 else (l0.length : Int)) = ji3 := hji3
 have hT : l0.take ji3.toNat = l0.take a1.toNat := by
  rw [← hji3_]
  split
  ·rfl
  ·rw [Int.toNat_natCast, List.take_of_length_le (Nat.le_refl _), List.take_of_length_le (by omega)]
 have c4 : 0 ≤ ji3 := by rw [← hji3_]; split <;> omega
 have c5 : ji3 ≤ (l0.length : Int) := by rw [← hji3_]; split <;> omega
 have c7 : ji3 ≤ 4096 := by rw [← hji3_]; split <;> omega
 rw [← hT]
 clear hT hm0
 have c4b0 := eq_true c4
 have c4b1 : decide (0 ≤ (ji3)) = true := decide_eq_true c4
 have c5b0 := eq_true c5
 have c5b1 : decide ((ji3) ≤ (l0.length : Int)) = true := decide_eq_true c5
 have c6 : ([] : List Int).length + (l0.take ((ji3) : Int).toNat).length < 140737488355328 := by rw [List.length_take]; simp; omega
 have LMc6 := Aside0.mk c6
 clear c6 c7 c4 c5
 obtain ⟨y102, hy102⟩ : ∃ y_ : List Int, y_ = (([] : List Int) ++ (l0.take ((ji3) : Int).toNat)) := ⟨_, rfl⟩
 have Ny102 := Aside0.mk hy102
 have Ny2 : Aside0 (l0.take ji3.toNat = y102) := aK (by rw [hy102]; rfl)
 clear hy102
 obtain ⟨i07, hi07, _, hsz7, _⟩ := info_parts info5
 obtain ⟨hcut7, hA7, hC7⟩ := print_take_of (P := Try.prog) (Value.int .u8) 0 22 5 .i64 Try.underlying22 hi07 hsz7 A0 c0 l0 (ji3) (of_decide_eq_true (aA)) (of_decide_eq_true (aA)) HC0.out
 have hT2 : (l0.take ji3.toNat).length = ji3.toNat := by rw [List.length_take]; have h_ : ji3 ≤ (l0.length : Int) := of_decide_eq_true c5b1; omega
 have hR101 := Kd.C_of_reads (h1 := fun _ => rfl) (hA7 _ (Kd.reads_of_C HR0.out))
 rw [hT2] at hR101
 have HR101 : Aside0 (Kd.C (Kd.int .u8) w A0 ji3.toNat (l0.take ji3.toNat)) := Aside0.mk hR101
 clear hR101 hT2
 have HC101 := Aside0.mk hC7
 clear hA7 hC7 hi07 hsz7
 go_enter Try.func18, Try.ntmps18
 go_wp2_with (first | ((with_reducible refine gate_builtin (b := .append) (xs := #[.const (.slice none 0 0), .tmp 10]) rfl ?_); at_builtin; refine Kd.R_append_rows (Kd.int .u8) (w0 := w) w.heap.size rfl (.const (.slice none 0 0)) (.tmp 10) 22 5 (.int .u8 0) 1 rfl Try.underlying22 info5 rfl (by decide) (by omega) (.slice none 0 0) ([] : List Int) (l0.take ((ji3) : Int).toNat) _ _ _ (fun _ => True) (fun _ => False) rfl rfl ?aO ?aR (fun _ _ h => h) (fun _ h => h.elim) ?aF ?aB ?aS ?aL ?_; (case aR => exact HR101.out); (case aB => exact bO); (case aF => exact (fun _ _ => trivial)); (case aO => exact ((Kd.R_nil _ _ _ _ (fun _ => True)))); (case aS => exact (below_size bO)); (case aL => have := LMc6.out; have hlx_ := (show (l0.take ((ji3) : Int).toNat).length = (ji3).toNat from (by rw [List.length_take]; have h_ : ((ji3) : Int) ≤ (l0.length : Int) := of_decide_eq_true (aA); omega)); omega); intro v103 w8 ho hb hg hat; rw [← Ny102.out] at ho; have HN := Aside0.mk hb; have HO104 := Aside0.mk ho; clear HB ho hb hg hat; obtain ⟨Ao9, co9, eo9, _, hcr⟩ := Kd.R_reads HO104.out; subst eo9; have HCN := Aside0.mk hcr; clear hcr HO104; have HB := aK (Below.refl w8.heap.size w8)) | ((with_reducible refine gate_dst (N := 13) rfl ?_); refine box_event ?hg (N := 13) ?hd (cs := #[.slice Ao9 y102.length co9, .int .i64 0]) (t := 75) ?hr ?_; (case hd => rfl); (case hg => rfl); (case hr => exact hR); intro gb105 hg w10 hbox hb; have BK105 := Aside0.mk hbox; have GE105 := aK (by rw [hg]; exact (below_size bO) : w8.heap.size ≤ gb105); have n2_ := aK (below_step bO hb); clear HB; have HB := n2_; clear n2_ hb hbox hg))
 go_ret
 rw [Ny2.out]
 exact ⟨_, rfl, w8, HN.out, bO, _, _, by (with_reducible repeat (first | refine blk_drewN ?_ _ | refine blk_drew ?_ | refine blk_alloc ?_ _)); exact BK105.out, GE105.out, HCN.out⟩
theorem cs_New.calls (A0 : Option Addr) (c0 : Nat) (l0 : List Int) (a1 : Int) (r1 : List Int) (r2 : Int) (w0 w : World) (hB : Below w0.heap.size w0 w) (hr0 : Kd.C (Kd.int .u8) w0 A0 l0.length l0) (hc0 : l0.length ≤ c0) (h : cs_New.f l0 a1 = some (r1, r2)) :
  Calls Try.prog 18 #[.slice A0 l0.length c0, .int .i64 a1] w fun e w' => ∃ g_ : Nat, e = .returned (.pointer (some ⟨g_, 0, none⟩)) ∧ NewS75 w0 w' g_ r1 r2 ∧ Below w0.heap.size w0 w' ∧ Below w.heap.size w w' := by
 unfold cs_New.f at h
 split at h
 ·split at h
  ·rename_i h0 h1
   cases h
   refine (cs_New.callsW A0 c0 l0 a1 w (Kd.C_below hr0 hB) hc0 h0 h1).mono ?_
   rintro e w' ⟨g, he, wN, b1, b2, hI⟩
   have b3 := b1.trans (b2.mono b1.size)
   exact ⟨g, he, ⟨wN, below_weaken hB hB.size b1, b2, hI⟩, below_weaken hB hB.size b3, b3⟩
  ·cases h
 ·cases h
def cc_Int.f (s0_0 : List Int) (s0_1 : Int) (a1 : Int) : Option (Int × Int) := if s0_1 ≥ (s0_0.length : Int) then (some (0, s0_1)) else (if a1 < 1 then (some (0, s0_1)) else (if 0 ≤ (wrap64 ((wrap64 (s0_1 + 1)) - 1)) then (if (wrap64 ((wrap64 (s0_1 + 1)) - 1)) < (s0_0.length : Int) then (if a1 = 0 then (none) else (some (Int.tmod (wrap64 (rd s0_0 (wrap64 ((wrap64 (s0_1 + 1)) - 1)))) a1, wrap64 (s0_1 + 1)))) else (none)) else (none)))
set_option maxHeartbeats 8000000 in
set_option maxRecDepth 100000 in
theorem cc_Int.calls (g : Nat) (s0_0 : List Int) (s0_1 : Int) (a1 : Int) (r1 : Int) (r2 : Int) (w0 w : World) (hI : IsS75 w0 w g s0_0 s0_1) (hB : Below w0.heap.size w0 w) (h : cc_Int.f s0_0 s0_1 a1 = some (r1, r2)) :
  Calls Try.prog 73 #[.pointer (some ⟨g, 0, none⟩), .int .i64 a1] w fun e w' => e = .returned (.int .i64 r1) ∧ IsS75 w0 w' g s0_0 r2 ∧ Below w0.heap.size w0 w' ∧ KeepBut w w' g none := by
 have HI0 := Aside0.mk hI
 have HK := aK (KeepBut.refl w g none)
 have HL := Aside0.mk hB.size
 clear hI
 have HW0 := Aside0.mk hB.size
 have HB := Aside0.mk hB
 clear hB
 have H : (if s0_1 ≥ (s0_0.length : Int) then (some (0, s0_1)) else (if a1 < 1 then (some (0, s0_1)) else (if 0 ≤ (wrap64 ((wrap64 (s0_1 + 1)) - 1)) then (if (wrap64 ((wrap64 (s0_1 + 1)) - 1)) < (s0_0.length : Int) then (if a1 = 0 then (none) else (some (Int.tmod (wrap64 (rd s0_0 (wrap64 ((wrap64 (s0_1 + 1)) - 1)))) a1, wrap64 (s0_1 + 1)))) else (none)) else (none)))) = some (r1, r2) := h
 clear h
 by_cases c3 : s0_1 ≥ (s0_0.length : Int)
 rotate_left
 ·rw [if_neg c3] at H
  have c3b0 : decide ((s0_0.length : Int) ≤ s0_1) = false := decide_eq_false c3
  clear c3
  by_cases c5 : a1 < 1
  rotate_left
  ·rw [if_neg c5] at H
   have c5b0 : decide (a1 < 1) = false := decide_eq_false c5
   clear c5
   obtain ⟨ji7, hji7⟩ : ∃ j_ : Int, (wrap64 ((wrap64 (s0_1 + 1)) - 1)) = j_ := ⟨_, rfl⟩
   replace H : (if 0 ≤ (ji7) then (if (ji7) < (s0_0.length : Int) then (if a1 = 0 then (none) else (some (Int.tmod (wrap64 (rd s0_0 (ji7))) a1, wrap64 (s0_1 + 1)))) else (none)) else (none)) = some (r1, r2) := by first | (rw [hji7] at H; exact H) | (simp only [hji7] at H ⊢; exact H)
   have hji7w : (IntKind.i64.wrap ((wrap64 (s0_1 + 1)) - 1)) = ji7 := (i64_w _).trans hji7
   by_cases c8 : 0 ≤ (ji7)
   rotate_left
   ·rw [if_neg c8] at H
    exact absurd H (by simp)
   rw [if_pos c8] at H
   have c8b0 : decide (0 ≤ (ji7)) = true := decide_eq_true c8
   clear c8
   by_cases c9 : (ji7) < (s0_0.length : Int)
   rotate_left
   ·rw [if_neg c9] at H
    exact absurd H (by simp)
   rw [if_pos c9] at H
   have c9b0 : decide ((ji7) < (s0_0.length : Int)) = true := decide_eq_true c9
   clear c9
   by_cases c10 : a1 = 0
   rotate_left
   ·rw [if_neg c10] at H
    have c10b0 : (a1 == 0) = false := beq_eq_false_iff_ne.mpr c10
    have c10b1 : (a1 != 0) = true := bne_iff_ne.mpr c10
    simp only [Option.some.injEq, Prod.mk.injEq] at H
    obtain ⟨rfl, rfl⟩ := H
    obtain ⟨ASz11_0, cSz11_0, HGz11, hgz11, HSz11_0⟩ := HI0.out
    have hcz11_0 := cellS75_0 HGz11
    have hcz11_1 := cellS75_1 HGz11
    have hfz11_1 := blk_frozen HGz11 1
    clear HGz11 hgz11
    have p103 : 0 ≤ ((ji7) : Int) := of_decide_eq_true (aA)
    have q103 : (ji7) < (s0_0.length : Int) := of_decide_eq_true (aA)
    obtain ⟨ad103, e103, hx103_0⟩ := Kd.at_int HSz11_0 (ji7) p103 q103
    cases e103
    have hn103_0 : ad103.block ≠ g := Nat.ne_of_lt (Nat.lt_of_lt_of_le (by have := World.block_lt_of_cell? _ _ hx103_0; first | rwa [add_block] at this | exact this) (IsS75.ge HI0.out))
    replace hx103_0 := pw_cell_below HB.out hx103_0
    replace hx103_0 := (cell_far (p := ⟨g, 1, none⟩) (by first | (rw [add_block]; exact hn103_0) | (show (Addr.add _ _).block ≠ _; rw [add_block]; exact hn103_0) | exact hn103_0) (.int .i64 (wrap64 (s0_1 + 1)))).trans hx103_0
    (try have hy103_0 := fun (n_ : Nat) => (show (((w.drewN n_).setCell ⟨g, 1, none⟩ (.int .i64 (wrap64 (s0_1 + 1))))).cell? _ = some _ from hx103_0))
    clear hn103_0
    replace p103 := eq_true p103
    replace q103 := eq_true q103
    go_enter Try.func73, Try.ntmps73
    go_wp2
    repeat (go_quiet (fail); try go_wp2)
    go_ret
    exact ⟨by first | rfl | (simp [errW_none, errW_some] <;> rfl) | (simp only [← hji7]; first | rfl | (simp [errW_none, errW_some] <;> rfl)) | (simp [*, errW_none, errW_some] <;> rfl), iX HI0.out, bS (IsS75.ge HI0.out), kX⟩
   rw [if_pos c10] at H
   exact absurd H (by simp)
  rw [if_pos c5] at H
  have c5b0 : decide (a1 < 1) = true := decide_eq_true c5
  clear c5
  simp only [Option.some.injEq, Prod.mk.injEq] at H
  obtain ⟨rfl, rfl⟩ := H
  obtain ⟨ASz6_0, cSz6_0, HGz6, hgz6, HSz6_0⟩ := HI0.out
  have hcz6_0 := cellS75_0 HGz6
  have hcz6_1 := cellS75_1 HGz6
  have hfz6_1 := blk_frozen HGz6 1
  clear HGz6 hgz6
  go_enter Try.func73, Try.ntmps73
  go_wp2
  repeat (go_quiet (fail); try go_wp2)
  go_ret
  exact ⟨eW, iX HI0.out, bS (IsS75.ge HI0.out), kX⟩
 rw [if_pos c3] at H
 have c3b0 : decide ((s0_0.length : Int) ≤ s0_1) = true := decide_eq_true c3
 clear c3
 simp only [Option.some.injEq, Prod.mk.injEq] at H
 obtain ⟨rfl, rfl⟩ := H
 obtain ⟨ASz4_0, cSz4_0, HGz4, hgz4, HSz4_0⟩ := HI0.out
 have hcz4_0 := cellS75_0 HGz4
 have hcz4_1 := cellS75_1 HGz4
 have hfz4_1 := blk_frozen HGz4 1
 clear HGz4 hgz4
 go_enter Try.func73, Try.ntmps73
 go_wp2
 repeat (go_quiet (fail); try go_wp2)
 go_ret
 exact ⟨eW, iX HI0.out, bS (IsS75.ge HI0.out), kX⟩
def cc_Number.f (s0_0 : List Int) (s0_1 : Int) : Option (Int × Int) := (cc_Int.f s0_0 s0_1 12).bind fun bt104 => (if bt104.1 = 9 then (some ((-1), bt104.2)) else (if bt104.1 = 10 then (some (9223372036854775807, bt104.2)) else (if bt104.1 = 11 then (some ((-9223372036854775808), bt104.2)) else (some (Int.tmod bt104.1 4, bt104.2)))))
set_option maxHeartbeats 8000000 in
set_option maxRecDepth 100000 in
theorem cc_Number.calls (g : Nat) (s0_0 : List Int) (s0_1 : Int) (r1 : Int) (r2 : Int) (w0 w : World) (hI : IsS75 w0 w g s0_0 s0_1) (hB : Below w0.heap.size w0 w) (h : cc_Number.f s0_0 s0_1 = some (r1, r2)) :
  Calls Try.prog 94 #[.pointer (some ⟨g, 0, none⟩)] w fun e w' => e = .returned (.int .i64 r1) ∧ IsS75 w0 w' g s0_0 r2 ∧ Below w0.heap.size w0 w' ∧ KeepBut w w' g none := by
 have HI0 := Aside0.mk hI
 have HK := aK (KeepBut.refl w g none)
 have HL := Aside0.mk hB.size
 clear hI
 have HW0 := Aside0.mk hB.size
 have HB := Aside0.mk hB
 clear hB
 have H : ((cc_Int.f s0_0 s0_1 12).bind fun bt104 => (if bt104.1 = 9 then (some ((-1), bt104.2)) else (if bt104.1 = 10 then (some (9223372036854775807, bt104.2)) else (if bt104.1 = 11 then (some ((-9223372036854775808), bt104.2)) else (some (Int.tmod bt104.1 4, bt104.2)))))) = some (r1, r2) := h
 clear h
 obtain ⟨⟨t104, t105⟩, A2, H⟩ := oB H
 try dsimp only at H
 by_cases c3 : t104 = 9
 rotate_left
 ·rw [if_neg c3] at H
  have c3b0 : (t104 == 9) = false := beq_eq_false_iff_ne.mpr c3
  have c3b1 : (t104 != 9) = true := bne_iff_ne.mpr c3
  by_cases c5 : t104 = 10
  rotate_left
  ·rw [if_neg c5] at H
   have c5b0 : (t104 == 10) = false := beq_eq_false_iff_ne.mpr c5
   have c5b1 : (t104 != 10) = true := bne_iff_ne.mpr c5
   by_cases c7 : t104 = 11
   rotate_left
   ·rw [if_neg c7] at H
    have c7b0 : (t104 == 11) = false := beq_eq_false_iff_ne.mpr c7
    have c7b1 : (t104 != 11) = true := bne_iff_ne.mpr c7
    simp only [Option.some.injEq, Prod.mk.injEq] at H
    obtain ⟨rfl, rfl⟩ := H
    go_enter Try.func94, Try.ntmps94
    go_wp2_with (first | ((with_reducible refine gate_callee (f := 73) rfl ?_); refine gL (some 5) rfl Try.func73 #[.pointer (some ⟨g, 0, none⟩), .int .i64 12] rfl ?_; (with_reducible refine (cc_Int.calls g s0_0 s0_1 12 t104 t105 w0 _ ?side1 ?side2 A2.out).mono ?_); (case side1 => exact iX HI0.out); (case side2 => exact bS (IsS75.ge HI0.out)); rintro e w9 ⟨rfl, hi, hb, hk⟩; refine ⟨_, rfl, ?_⟩; have n0_ := aK (KeepBut.trans kX hk (.inl rfl)); have n1_ := aK (hb); have n2_ := aK (hi); clear HK HB HI0; have HK := n0_; have HB := n1_; have HI0 := n2_; clear n0_ n1_ n2_; (try clear hb hk hi)))
    go_ret
    exact ⟨eW, iX HI0.out, bS (IsS75.ge HI0.out), kX⟩
   rw [if_pos c7] at H
   have c7b0 : (t104 == 11) = true := beq_iff_eq.mpr c7
   have c7b1 : (t104 != 11) = false := bne_eq_false_iff_eq.mpr c7
   clear c7
   simp only [Option.some.injEq, Prod.mk.injEq] at H
   obtain ⟨rfl, rfl⟩ := H
   go_enter Try.func94, Try.ntmps94
   go_wp2_with (first | ((with_reducible refine gate_callee (f := 73) rfl ?_); refine gL (some 5) rfl Try.func73 #[.pointer (some ⟨g, 0, none⟩), .int .i64 12] rfl ?_; (with_reducible refine (cc_Int.calls g s0_0 s0_1 12 t104 t105 w0 _ ?side1 ?side2 A2.out).mono ?_); (case side1 => exact iX HI0.out); (case side2 => exact bS (IsS75.ge HI0.out)); rintro e w8 ⟨rfl, hi, hb, hk⟩; refine ⟨_, rfl, ?_⟩; have n0_ := aK (KeepBut.trans kX hk (.inl rfl)); have n1_ := aK (hb); have n2_ := aK (hi); clear HK HB HI0; have HK := n0_; have HB := n1_; have HI0 := n2_; clear n0_ n1_ n2_; (try clear hb hk hi)))
   go_ret
   exact ⟨eW, iX HI0.out, bS (IsS75.ge HI0.out), kX⟩
  rw [if_pos c5] at H
  have c5b0 : (t104 == 10) = true := beq_iff_eq.mpr c5
  have c5b1 : (t104 != 10) = false := bne_eq_false_iff_eq.mpr c5
  clear c5
  simp only [Option.some.injEq, Prod.mk.injEq] at H
  obtain ⟨rfl, rfl⟩ := H
  go_enter Try.func94, Try.ntmps94
  go_wp2_with (first | ((with_reducible refine gate_callee (f := 73) rfl ?_); refine gL (some 5) rfl Try.func73 #[.pointer (some ⟨g, 0, none⟩), .int .i64 12] rfl ?_; (with_reducible refine (cc_Int.calls g s0_0 s0_1 12 t104 t105 w0 _ ?side1 ?side2 A2.out).mono ?_); (case side1 => exact iX HI0.out); (case side2 => exact bS (IsS75.ge HI0.out)); rintro e w6 ⟨rfl, hi, hb, hk⟩; refine ⟨_, rfl, ?_⟩; have n0_ := aK (KeepBut.trans kX hk (.inl rfl)); have n1_ := aK (hb); have n2_ := aK (hi); clear HK HB HI0; have HK := n0_; have HB := n1_; have HI0 := n2_; clear n0_ n1_ n2_; (try clear hb hk hi)))
  go_ret
  exact ⟨eW, iX HI0.out, bS (IsS75.ge HI0.out), kX⟩
 rw [if_pos c3] at H
 have c3b0 : (t104 == 9) = true := beq_iff_eq.mpr c3
 have c3b1 : (t104 != 9) = false := bne_eq_false_iff_eq.mpr c3
 clear c3
 simp only [Option.some.injEq, Prod.mk.injEq] at H
 obtain ⟨rfl, rfl⟩ := H
 go_enter Try.func94, Try.ntmps94
 go_wp2_with (first | ((with_reducible refine gate_callee (f := 73) rfl ?_); refine gL (some 5) rfl Try.func73 #[.pointer (some ⟨g, 0, none⟩), .int .i64 12] rfl ?_; (with_reducible refine (cc_Int.calls g s0_0 s0_1 12 t104 t105 w0 _ ?side1 ?side2 A2.out).mono ?_); (case side1 => exact iX HI0.out); (case side2 => exact bS (IsS75.ge HI0.out)); rintro e w4 ⟨rfl, hi, hb, hk⟩; refine ⟨_, rfl, ?_⟩; have n0_ := aK (KeepBut.trans kX hk (.inl rfl)); have n1_ := aK (hb); have n2_ := aK (hi); clear HK HB HI0; have HK := n0_; have HB := n1_; have HI0 := n2_; clear n0_ n1_ n2_; (try clear hb hk hi)))
 go_ret
 exact ⟨eW, iX HI0.out, bS (IsS75.ge HI0.out), kX⟩
mutual
def cc_Text.j0 : Nat → ByteArray → Int → Bool → List Int → Int → Option (ByteArray × Int)
 | 0, _, _, _, _, _ => none
 | k + 1, x3, x7, x8, x1000, x1001 => if x8 = true then (some ((⟨#[97]⟩ : ByteArray), x1001)) else (if x7 = 3 then (cc_Text.j1 k x3 x7 (x7 == 3) x1000 x1001) else (cc_Text.j1 k x3 x7 (x7 == 4) x1000 x1001))
def cc_Text.j1 : Nat → ByteArray → Int → Bool → List Int → Int → Option (ByteArray × Int)
 | 0, _, _, _, _, _ => none
 | k + 1, x3, x7, x12, x1000, x1001 => if x12 = true then (some ((⟨#[98]⟩ : ByteArray), x1001)) else (if x7 = 5 then (some ((⟨#[]⟩ : ByteArray), x1001)) else (if x7 = 6 then (some ((⟨#[97, 0]⟩ : ByteArray), x1001)) else (if x7 = 7 then (some ((⟨#[255]⟩ : ByteArray), x1001)) else (if x7 = 8 then (cc_Text.l0 k x3 0 x1000 x1001) else (cc_Text.l1 k x3 0 x1000 x1001)))))
def cc_Text.l0 : Nat → ByteArray → Int → List Int → Int → Option (ByteArray × Int)
 | 0, _, _, _, _ => none
 | k + 1, x3, x4, x1000, x1001 => if x4 < 64 then (if x3.size + 1 ≤ 9223372036854775807 then (cc_Text.l0 k (x3 ++ (⟨#[255]⟩ : ByteArray)) (wrap64 (x4 + 1)) x1000 x1001) else (none)) else (some (x3, x1001))
def cc_Text.l1 : Nat → ByteArray → Int → List Int → Int → Option (ByteArray × Int)
 | 0, _, _, _, _ => none
 | k + 1, x3, x5, x1000, x1001 => if x5 < 64 then (if x3.size + 1 ≤ 9223372036854775807 then (cc_Text.l1 k (x3 ++ (⟨#[98]⟩ : ByteArray)) (wrap64 (x5 + 1)) x1000 x1001) else (none)) else (some (x3, x1001))
end
def cc_Text.f (k : Nat) (s0_0 : List Int) (s0_1 : Int) : Option (ByteArray × Int) := (cc_Int.f s0_0 s0_1 10).bind fun bt106 => (if bt106.1 = 0 then (cc_Text.j0 k (⟨#[]⟩ : ByteArray) bt106.1 (bt106.1 == 0) s0_0 bt106.2) else (if bt106.1 = 1 then (cc_Text.j0 k (⟨#[]⟩ : ByteArray) bt106.1 (bt106.1 == 1) s0_0 bt106.2) else (cc_Text.j0 k (⟨#[]⟩ : ByteArray) bt106.1 (bt106.1 == 2) s0_0 bt106.2)))
theorem cc_Text.mono_l : ∀ k, (∀ y0 y1 y2 y3 y4, LeO (cc_Text.j0 k y0 y1 y2 y3 y4) (cc_Text.j0 (k + 1) y0 y1 y2 y3 y4)) ∧ (∀ y0 y1 y2 y3 y4, LeO (cc_Text.j1 k y0 y1 y2 y3 y4) (cc_Text.j1 (k + 1) y0 y1 y2 y3 y4)) ∧ (∀ y0 y1 y2 y3, LeO (cc_Text.l0 k y0 y1 y2 y3) (cc_Text.l0 (k + 1) y0 y1 y2 y3)) ∧ (∀ y0 y1 y2 y3, LeO (cc_Text.l1 k y0 y1 y2 y3) (cc_Text.l1 (k + 1) y0 y1 y2 y3))
 | 0 => ⟨fun _ _ _ _ _ r h => by simp [cc_Text.j0] at h, fun _ _ _ _ _ r h => by simp [cc_Text.j1] at h, fun _ _ _ _ r h => by simp [cc_Text.l0] at h, fun _ _ _ _ r h => by simp [cc_Text.l1] at h⟩
 | k + 1 => by
  obtain ⟨ih0, ih1, ih2, ih3⟩ := cc_Text.mono_l k
  refine ⟨?_, ?_, ?_, ?_⟩
  ·intro y0 y1 y2 y3 y4
   unfold cc_Text.j0
   repeat' first
   | (with_reducible exact ih0 _ _ _ _ _)
   | (with_reducible exact ih1 _ _ _ _ _)
   | (with_reducible exact ih2 _ _ _ _)
   | (with_reducible exact ih3 _ _ _ _)
   | (with_reducible exact LeO.refl _)
   | (with_reducible exact LeO.none _)
   | (with_reducible refine LeO.ite ?_ ?_)
   | (with_reducible refine LeO.bind ?_ (fun _ => ?_))
   | exact ih0 _ _ _ _ _
   | exact ih1 _ _ _ _ _
   | exact ih2 _ _ _ _
   | exact ih3 _ _ _ _
   | exact LeO.none _
   | refine LeO.ite ?_ ?_
   | refine LeO.bind ?_ (fun _ => ?_)
  ·intro y0 y1 y2 y3 y4
   unfold cc_Text.j1
   repeat' first
   | (with_reducible exact ih0 _ _ _ _ _)
   | (with_reducible exact ih1 _ _ _ _ _)
   | (with_reducible exact ih2 _ _ _ _)
   | (with_reducible exact ih3 _ _ _ _)
   | (with_reducible exact LeO.refl _)
   | (with_reducible exact LeO.none _)
   | (with_reducible refine LeO.ite ?_ ?_)
   | (with_reducible refine LeO.bind ?_ (fun _ => ?_))
   | exact ih0 _ _ _ _ _
   | exact ih1 _ _ _ _ _
   | exact ih2 _ _ _ _
   | exact ih3 _ _ _ _
   | exact LeO.none _
   | refine LeO.ite ?_ ?_
   | refine LeO.bind ?_ (fun _ => ?_)
  ·intro y0 y1 y2 y3
   unfold cc_Text.l0
   repeat' first
   | (with_reducible exact ih0 _ _ _ _ _)
   | (with_reducible exact ih1 _ _ _ _ _)
   | (with_reducible exact ih2 _ _ _ _)
   | (with_reducible exact ih3 _ _ _ _)
   | (with_reducible exact LeO.refl _)
   | (with_reducible exact LeO.none _)
   | (with_reducible refine LeO.ite ?_ ?_)
   | (with_reducible refine LeO.bind ?_ (fun _ => ?_))
   | exact ih0 _ _ _ _ _
   | exact ih1 _ _ _ _ _
   | exact ih2 _ _ _ _
   | exact ih3 _ _ _ _
   | exact LeO.none _
   | refine LeO.ite ?_ ?_
   | refine LeO.bind ?_ (fun _ => ?_)
  ·intro y0 y1 y2 y3
   unfold cc_Text.l1
   repeat' first
   | (with_reducible exact ih0 _ _ _ _ _)
   | (with_reducible exact ih1 _ _ _ _ _)
   | (with_reducible exact ih2 _ _ _ _)
   | (with_reducible exact ih3 _ _ _ _)
   | (with_reducible exact LeO.refl _)
   | (with_reducible exact LeO.none _)
   | (with_reducible refine LeO.ite ?_ ?_)
   | (with_reducible refine LeO.bind ?_ (fun _ => ?_))
   | exact ih0 _ _ _ _ _
   | exact ih1 _ _ _ _ _
   | exact ih2 _ _ _ _
   | exact ih3 _ _ _ _
   | exact LeO.none _
   | refine LeO.ite ?_ ?_
   | refine LeO.bind ?_ (fun _ => ?_)
theorem cc_Text.mono : ∀ a0 a1 k, LeO (cc_Text.f k a0 a1) (cc_Text.f (k + 1) a0 a1) := by
 intro a0 a1 k
 obtain ⟨ih0, ih1, ih2, ih3⟩ := cc_Text.mono_l k
 unfold cc_Text.f
 repeat' first
   | (with_reducible exact ih0 _ _ _ _ _)
   | (with_reducible exact ih1 _ _ _ _ _)
   | (with_reducible exact ih2 _ _ _ _)
   | (with_reducible exact ih3 _ _ _ _)
   | (with_reducible exact LeO.refl _)
   | (with_reducible exact LeO.none _)
   | (with_reducible refine LeO.ite ?_ ?_)
   | (with_reducible refine LeO.bind ?_ (fun _ => ?_))
   | exact ih0 _ _ _ _ _
   | exact ih1 _ _ _ _ _
   | exact ih2 _ _ _ _
   | exact ih3 _ _ _ _
   | exact LeO.none _
   | refine LeO.ite ?_ ?_
   | refine LeO.bind ?_ (fun _ => ?_)
set_option maxHeartbeats 8000000 in
set_option maxRecDepth 100000 in
theorem cc_Text.calls (k : Nat) (g : Nat) (s0_0 : List Int) (s0_1 : Int) (r1 : ByteArray) (r2 : Int) (w0 w : World) (hI : IsS75 w0 w g s0_0 s0_1) (hB : Below w0.heap.size w0 w) (h : cc_Text.f k s0_0 s0_1 = some (r1, r2)) :
  Calls Try.prog 95 #[.pointer (some ⟨g, 0, none⟩)] w fun e w' => e = .returned (.string r1) ∧ IsS75 w0 w' g s0_0 r2 ∧ Below w0.heap.size w0 w' ∧ KeepBut w w' g none := by
 have HI0 := Aside0.mk hI
 have HK := aK (KeepBut.refl w g none)
 have HL := Aside0.mk hB.size
 clear hI
 have HW0 := Aside0.mk hB.size
 have HB := Aside0.mk hB
 clear hB
 have H : ((cc_Int.f s0_0 s0_1 10).bind fun bt106 => (if bt106.1 = 0 then (cc_Text.j0 k (⟨#[]⟩ : ByteArray) bt106.1 (bt106.1 == 0) s0_0 bt106.2) else (if bt106.1 = 1 then (cc_Text.j0 k (⟨#[]⟩ : ByteArray) bt106.1 (bt106.1 == 1) s0_0 bt106.2) else (cc_Text.j0 k (⟨#[]⟩ : ByteArray) bt106.1 (bt106.1 == 2) s0_0 bt106.2)))) = some (r1, r2) := h
 clear h
 obtain ⟨⟨t106, t107⟩, A2, H⟩ := oB H
 try dsimp only at H
 have HC3 := Aside0.mk H
 clear H
 go_enter Try.func95, Try.ntmps95
 go_upto_if 8 with (first | ((with_reducible refine gate_callee (f := 73) rfl ?_); refine gL (some 7) rfl Try.func73 #[.pointer (some ⟨g, 0, none⟩), .int .i64 10] rfl ?_; (with_reducible refine (cc_Int.calls g s0_0 s0_1 10 t106 t107 w0 _ ?side1 ?side2 A2.out).mono ?_); (case side1 => exact iX HI0.out); (case side2 => exact bS (IsS75.ge HI0.out)); rintro e w4 ⟨rfl, hi, hb, hk⟩; refine ⟨_, rfl, ?_⟩; have n0_ := aK (KeepBut.trans kX hk (.inl rfl)); have n1_ := aK (hb); have n2_ := aK (hi); clear HK HB HI0; have HK := n0_; have HB := n1_; have HI0 := n2_; clear n0_ n1_ n2_; (try clear hb hk hi)))
 (try simp only [Act.put, List.setIfInBounds_toArray, List.set_cons_zero, List.set_cons_succ])
 go_cut [8] (fun v8 wc => ∃ (kq : Nat) (x8_2 : Bool), v8 = .bool x8_2 ∧ Aside0 (cc_Text.j0 kq (⟨#[]⟩ : ByteArray) t106 x8_2 s0_0 t107 = some (r1, r2)) ∧ Aside0 (kq ≤ k) ∧ Aside0 (IsS75 w0 wc g s0_0 t107) ∧ Aside0 (KeepBut w wc g none) ∧ Aside0 (Below w0.heap.size w0 wc))
 case first =>
  have H := HC3.out
  clear HC3
  by_cases c5 : t106 = 0
  rotate_left
  ·rw [if_neg c5] at H
   have c5b0 : (t106 == 0) = false := beq_eq_false_iff_ne.mpr c5
   have c5b1 : (t106 != 0) = true := bne_iff_ne.mpr c5
   (first | rw [c5b0] | (simp only [i64_w, i32_w]; rw [c5b0]) | skip)
   by_cases c6 : t106 = 1
   rotate_left
   ·rw [if_neg c6] at H
    have c6b0 : (t106 == 1) = false := beq_eq_false_iff_ne.mpr c6
    have c6b1 : (t106 != 1) = true := bne_iff_ne.mpr c6
    have H' := Aside0.mk H
    clear H
    go_wp2
    go_meet
    case rel => exact ⟨_, ((t106 == 2)), (by first | rfl | (simp; done) | (simp [*]; done)), H', ⟨by first | omega | exact Nat.le_refl _⟩, ⟨iX HI0.out⟩, ⟨kX⟩, ⟨bS (IsS75.ge HI0.out)⟩⟩
   rw [if_pos c6] at H
   have c6b0 : (t106 == 1) = true := beq_iff_eq.mpr c6
   have c6b1 : (t106 != 1) = false := bne_eq_false_iff_eq.mpr c6
   clear c6
   have H' := Aside0.mk H
   clear H
   go_wp2
   go_meet
   case rel => exact ⟨_, ((t106 == 1)), (by first | rfl | (simp; done) | (simp [*]; done)), H', ⟨by first | omega | exact Nat.le_refl _⟩, ⟨iX HI0.out⟩, ⟨kX⟩, ⟨bS (IsS75.ge HI0.out)⟩⟩
  rw [if_pos c5] at H
  have c5b0 : (t106 == 0) = true := beq_iff_eq.mpr c5
  have c5b1 : (t106 != 0) = false := bne_eq_false_iff_eq.mpr c5
  clear c5
  (first | rw [c5b0] | (simp only [i64_w, i32_w]; rw [c5b0]) | skip)
  have H' := Aside0.mk H
  clear H
  go_wp2
  go_meet
  case rel => exact ⟨_, ((t106 == 0)), (by first | rfl | (simp; done) | (simp [*]; done)), H', ⟨by first | omega | exact Nat.le_refl _⟩, ⟨iX HI0.out⟩, ⟨kX⟩, ⟨bS (IsS75.ge HI0.out)⟩⟩
 case rest =>
  clear HC3
  try clear p2
  try clear c5
  try clear c5b0
  try clear c5b1
  try clear c6
  try clear c6b0
  try clear c6b1
  obtain ⟨kq, x8_2, rfl, HA, HJ2, HI0, HK, HB⟩ := hcut
  cases kq with
  | zero => exact absurd HA.out (by simp [cc_Text.j0])
  | succ kj2 =>
   have H := HA.out
   clear HA
   simp only [cc_Text.j0] at H
   by_cases c7 : x8_2 = true
   rotate_left
   ·replace c7 := Bool.eq_false_iff.mpr c7
    subst c7
    rw [if_neg (show ¬ (false = true) by decide)] at H
    have HC8 := Aside0.mk H
    clear H
    go_upto_if 12 with (fail)
    go_cut [12] (fun v12 wc => ∃ (kq : Nat) (x12_7 : Bool), v12 = .bool x12_7 ∧ Aside0 (cc_Text.j1 kq (⟨#[]⟩ : ByteArray) t106 x12_7 s0_0 t107 = some (r1, r2)) ∧ Aside0 (kq ≤ kj2) ∧ Aside0 (IsS75 w0 wc g s0_0 t107) ∧ Aside0 (KeepBut w wc g none) ∧ Aside0 (Below w0.heap.size w0 wc))
    case first =>
     have H := HC8.out
     clear HC8
     by_cases c9 : t106 = 3
     rotate_left
     ·rw [if_neg c9] at H
      have c9b0 : (t106 == 3) = false := beq_eq_false_iff_ne.mpr c9
      have c9b1 : (t106 != 3) = true := bne_iff_ne.mpr c9
      (first | rw [c9b0] | (simp only [i64_w, i32_w]; rw [c9b0]) | skip)
      have H' := Aside0.mk H
      clear H
      go_wp2
      go_meet
      case rel => exact ⟨_, ((t106 == 4)), (by first | rfl | (simp; done) | (simp [*]; done)), H', ⟨by have := HJ2.out; first | omega | exact Nat.le_refl _⟩, ⟨iX HI0.out⟩, ⟨kX⟩, ⟨bS (IsS75.ge HI0.out)⟩⟩
     rw [if_pos c9] at H
     have c9b0 : (t106 == 3) = true := beq_iff_eq.mpr c9
     have c9b1 : (t106 != 3) = false := bne_eq_false_iff_eq.mpr c9
     clear c9
     (first | rw [c9b0] | (simp only [i64_w, i32_w]; rw [c9b0]) | skip)
     have H' := Aside0.mk H
     clear H
     go_wp2
     go_meet
     case rel => exact ⟨_, ((t106 == 3)), (by first | rfl | (simp; done) | (simp [*]; done)), H', ⟨by have := HJ2.out; first | omega | exact Nat.le_refl _⟩, ⟨iX HI0.out⟩, ⟨kX⟩, ⟨bS (IsS75.ge HI0.out)⟩⟩
    case rest =>
     clear HC8
     try clear p2
     try clear c5
     try clear c5b0
     try clear c5b1
     try clear c6
     try clear c6b0
     try clear c6b1
     try clear c7
     try clear c9
     try clear c9b0
     try clear c9b1
     try clear p2
     obtain ⟨kq, x12_7, rfl, HA, HJ7, HI0, HK, HB⟩ := hcut
     cases kq with
     | zero => exact absurd HA.out (by simp [cc_Text.j1])
     | succ kj7 =>
      have H := HA.out
      clear HA
      simp only [cc_Text.j1] at H
      by_cases c10 : x12_7 = true
      rotate_left
      ·replace c10 := Bool.eq_false_iff.mpr c10
       subst c10
       rw [if_neg (show ¬ (false = true) by decide)] at H
       by_cases c11 : t106 = 5
       rotate_left
       ·rw [if_neg c11] at H
        have c11b0 : (t106 == 5) = false := beq_eq_false_iff_ne.mpr c11
        have c11b1 : (t106 != 5) = true := bne_iff_ne.mpr c11
        by_cases c12 : t106 = 6
        rotate_left
        ·rw [if_neg c12] at H
         have c12b0 : (t106 == 6) = false := beq_eq_false_iff_ne.mpr c12
         have c12b1 : (t106 != 6) = true := bne_iff_ne.mpr c12
         by_cases c13 : t106 = 7
         rotate_left
         ·rw [if_neg c13] at H
          have c13b0 : (t106 == 7) = false := beq_eq_false_iff_ne.mpr c13
          have c13b1 : (t106 != 7) = true := bne_iff_ne.mpr c13
          by_cases c14 : t106 = 8
          rotate_left
          ·rw [if_neg c14] at H
           have c14b0 : (t106 == 8) = false := beq_eq_false_iff_ne.mpr c14
           have c14b1 : (t106 != 8) = true := bne_iff_ne.mpr c14
           have H' := Aside0.mk H
           clear H
           go_wp2
           go_loopg [3, 5] kj7 (fun kq v3 v5 w' => ∃ (x3_3 : ByteArray) (x5_3 : Int), v3 = .string x3_3 ∧ v5 = .int .i64 x5_3 ∧ Aside0 (cc_Text.l1 kq x3_3 x5_3 s0_0 t107 = some (r1, r2)) ∧ Aside0 (kq ≤ kj7) ∧ Aside0 (IsS75 w0 w' g s0_0 t107) ∧ Aside0 (KeepBut w w' g none) ∧ Aside0 (Below w0.heap.size w0 w'))
           case atStart => exact ⟨((⟨#[]⟩ : ByteArray)), (0), (by first | rfl | (simp; done) | (simp [*]; done)), (by first | rfl | (simp; done) | (simp [*]; done)), H', ⟨Nat.le_refl _⟩, ⟨iX HI0.out⟩, ⟨kX⟩, ⟨bS (IsS75.ge HI0.out)⟩⟩
           case round =>
            clear H'
            try clear c1
            try clear p2
            try clear c5
            try clear c5b0
            try clear c5b1
            try clear c6
            try clear c6b0
            try clear c6b1
            try clear p6
            try clear c7
            try clear c9
            try clear c9b0
            try clear c9b1
            try clear c10
            try clear c11
            try clear c11b0
            try clear c11b1
            try clear c12
            try clear c12b0
            try clear c12b1
            try clear c13
            try clear c13b0
            try clear c13b1
            try clear c14
            try clear c14b0
            try clear c14b1
            try clear c15
            try clear c15b0
            try clear c16
            try clear c16b0
            try clear c16b1
            try clear c16b2
            try clear p2
            obtain ⟨x3_3, x5_3, rfl, rfl, HA, HK3, HI0, HK, HB⟩ := hrel
            cases gk with
            | zero => exact absurd HA.out (by simp [cc_Text.l1])
            | succ k3 =>
             have H := HA.out
             clear HA
             simp only [cc_Text.l1] at H
             by_cases c17 : x5_3 < 64
             rotate_left
             ·rw [if_neg c17] at H
              have c17b0 : decide (x5_3 < 64) = false := decide_eq_false c17
              clear c17
              simp only [Option.some.injEq, Prod.mk.injEq] at H
              obtain ⟨rfl, rfl⟩ := H
              go_wp2
              go_ret
              exact ⟨eW, iX HI0.out, bS (IsS75.ge HI0.out), kX⟩
             rw [if_pos c17] at H
             have c17b0 : decide (x5_3 < 64) = true := decide_eq_true c17
             clear c17
             by_cases c18 : x3_3.size + 1 ≤ 9223372036854775807
             rotate_left
             ·rw [if_neg c18] at H
              exact absurd H (by simp)
             rw [if_pos c18] at H
             have c18b0 := eq_true c18
             have c18b1 : decide (x3_3.size + 1 ≤ 9223372036854775807) = true := decide_eq_true c18
             try have c18b2 : (9223372036854775807 < x3_3.size + 1) = False := eq_false (Nat.not_lt.2 c18)
             have H' := Aside0.mk H
             clear H
             go_wp2
             go_roundg k3
             case measure => have := HJ2.out; have := HJ7.out; have := HK3.out; omega
             case rel => exact ⟨(x3_3 ++ (⟨#[98]⟩ : ByteArray)), (wrap64 (x5_3 + 1)), (by first | rfl | (simp; done) | (simp [*]; done)), (by first | rfl | (simp; done) | (simp [*]; done)), H', ⟨by have := HJ2.out; have := HJ7.out; have := HK3.out; omega⟩, ⟨iX HI0.out⟩, ⟨kX⟩, ⟨bS (IsS75.ge HI0.out)⟩⟩
          rw [if_pos c14] at H
          have c14b0 : (t106 == 8) = true := beq_iff_eq.mpr c14
          have c14b1 : (t106 != 8) = false := bne_eq_false_iff_eq.mpr c14
          clear c14
          have H' := Aside0.mk H
          clear H
          go_wp2
          go_loopg [3, 4] kj7 (fun kq v3 v4 w' => ∃ (x3_3 : ByteArray) (x4_3 : Int), v3 = .string x3_3 ∧ v4 = .int .i64 x4_3 ∧ Aside0 (cc_Text.l0 kq x3_3 x4_3 s0_0 t107 = some (r1, r2)) ∧ Aside0 (kq ≤ kj7) ∧ Aside0 (IsS75 w0 w' g s0_0 t107) ∧ Aside0 (KeepBut w w' g none) ∧ Aside0 (Below w0.heap.size w0 w'))
          case atStart => exact ⟨((⟨#[]⟩ : ByteArray)), (0), (by first | rfl | (simp; done) | (simp [*]; done)), (by first | rfl | (simp; done) | (simp [*]; done)), H', ⟨Nat.le_refl _⟩, ⟨iX HI0.out⟩, ⟨kX⟩, ⟨bS (IsS75.ge HI0.out)⟩⟩
          case round =>
           clear H'
           try clear c1
           try clear p2
           try clear c5
           try clear c5b0
           try clear c5b1
           try clear c6
           try clear c6b0
           try clear c6b1
           try clear c7
           try clear c9
           try clear c9b0
           try clear c9b1
           try clear c10
           try clear c11
           try clear c11b0
           try clear c11b1
           try clear c12
           try clear c12b0
           try clear c12b1
           try clear c13
           try clear c13b0
           try clear c13b1
           try clear c14
           try clear c14b0
           try clear c14b1
           try clear p2
           obtain ⟨x3_3, x4_3, rfl, rfl, HA, HK3, HI0, HK, HB⟩ := hrel
           cases gk with
           | zero => exact absurd HA.out (by simp [cc_Text.l0])
           | succ k3 =>
            have H := HA.out
            clear HA
            simp only [cc_Text.l0] at H
            by_cases c15 : x4_3 < 64
            rotate_left
            ·rw [if_neg c15] at H
             have c15b0 : decide (x4_3 < 64) = false := decide_eq_false c15
             clear c15
             simp only [Option.some.injEq, Prod.mk.injEq] at H
             obtain ⟨rfl, rfl⟩ := H
             go_wp2
             go_ret
             exact ⟨eW, iX HI0.out, bS (IsS75.ge HI0.out), kX⟩
            rw [if_pos c15] at H
            have c15b0 : decide (x4_3 < 64) = true := decide_eq_true c15
            clear c15
            by_cases c16 : x3_3.size + 1 ≤ 9223372036854775807
            rotate_left
            ·rw [if_neg c16] at H
             exact absurd H (by simp)
            rw [if_pos c16] at H
            have c16b0 := eq_true c16
            have c16b1 : decide (x3_3.size + 1 ≤ 9223372036854775807) = true := decide_eq_true c16
            try have c16b2 : (9223372036854775807 < x3_3.size + 1) = False := eq_false (Nat.not_lt.2 c16)
            have H' := Aside0.mk H
            clear H
            go_wp2
            go_roundg k3
            case measure => have := HJ2.out; have := HJ7.out; have := HK3.out; omega
            case rel => exact ⟨(x3_3 ++ (⟨#[255]⟩ : ByteArray)), (wrap64 (x4_3 + 1)), (by first | rfl | (simp; done) | (simp [*]; done)), (by first | rfl | (simp; done) | (simp [*]; done)), H', ⟨by have := HJ2.out; have := HJ7.out; have := HK3.out; omega⟩, ⟨iX HI0.out⟩, ⟨kX⟩, ⟨bS (IsS75.ge HI0.out)⟩⟩
         rw [if_pos c13] at H
         have c13b0 : (t106 == 7) = true := beq_iff_eq.mpr c13
         have c13b1 : (t106 != 7) = false := bne_eq_false_iff_eq.mpr c13
         clear c13
         simp only [Option.some.injEq, Prod.mk.injEq] at H
         obtain ⟨rfl, rfl⟩ := H
         go_wp2
         go_ret
         exact ⟨eW, iX HI0.out, bS (IsS75.ge HI0.out), kX⟩
        rw [if_pos c12] at H
        have c12b0 : (t106 == 6) = true := beq_iff_eq.mpr c12
        have c12b1 : (t106 != 6) = false := bne_eq_false_iff_eq.mpr c12
        clear c12
        simp only [Option.some.injEq, Prod.mk.injEq] at H
        obtain ⟨rfl, rfl⟩ := H
        go_wp2
        go_ret
        exact ⟨eW, iX HI0.out, bS (IsS75.ge HI0.out), kX⟩
       rw [if_pos c11] at H
       have c11b0 : (t106 == 5) = true := beq_iff_eq.mpr c11
       have c11b1 : (t106 != 5) = false := bne_eq_false_iff_eq.mpr c11
       clear c11
       simp only [Option.some.injEq, Prod.mk.injEq] at H
       obtain ⟨rfl, rfl⟩ := H
       go_wp2
       go_ret
       exact ⟨eW, iX HI0.out, bS (IsS75.ge HI0.out), kX⟩
      subst c10
      rw [if_pos rfl] at H
      simp only [Option.some.injEq, Prod.mk.injEq] at H
      obtain ⟨rfl, rfl⟩ := H
      go_wp2
      go_ret
      exact ⟨eW, iX HI0.out, bS (IsS75.ge HI0.out), kX⟩
   subst c7
   rw [if_pos rfl] at H
   simp only [Option.some.injEq, Prod.mk.injEq] at H
   obtain ⟨rfl, rfl⟩ := H
   go_wp2
   go_ret
   exact ⟨eW, iX HI0.out, bS (IsS75.ge HI0.out), kX⟩
end Go.Proofs.Ytpjcdacnhalclaa.Q
