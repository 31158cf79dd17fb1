/- Function F4 of the translation: what its call computes. -/
import Derived.Test.YtpjcdacnhalclaaK0
import Derived.Test.YtpjcdacnhalclaaBP
import Derived.Test.YtpjcdacnhalclaaE24
import Derived.Test.YtpjcdacnhalclaaF18
import Derived.Test.YtpjcdacnhalclaaF19
import Derived.Test.YtpjcdacnhalclaaF20
import Derived.Test.YtpjcdacnhalclaaF25
import Derived.Test.YtpjcdacnhalclaaF26
namespace Go.Proofs.Ytpjcdacnhalclaa.Q
open Go.RowKit Go.Proofs.YtpjcdacnhalclaaW.PrintWords Go.Proofs.YtpjcdacnhalclaaW.PrintLast Go.Proofs.YtpjcdacnhalclaaW.PrintMore
attribute [local go_sem] max2_int min2_int max_two min_two max_three min_three max_four min_four
set_option linter.unusedVariables false
set_option linter.unusedSimpArgs false
attribute [local go_sem high] eqA24
/-! ### partsynclaw01_ValueCompares: function 4 -/
mutual
def partsynclaw01_ValueCompares.l0 : Nat → List (S24) → List (S24) → Int → Int → Option (Bool)
  | 0, _, _, _, _ => none
  | k + 1, x10, x28, x29, x30 => if x30 < x29 then (if 0 ≤ x30 then (if x30 < (x28.length : Int) then (partsynclaw01_ValueCompares.l1 k x10 x28 x29 x30 x10 (x10.length : Int) 0 ((rd_T24 x28 x30).f0) ((rd_T24 x28 x30).f1) ((rd_T24 x28 x30).f2)) else (none)) else (none)) else ((partsynclaw01_begun.f k).bind fun t255 => (some t255))
def partsynclaw01_ValueCompares.l1 : Nat → List (S24) → List (S24) → Int → Int → List (S24) → Int → Int → Int → Int → ByteArray → Option (Bool)
  | 0, _, _, _, _, _, _, _, _, _, _ => none
  | k + 1, x10, x28, x29, x30, x34, x35, x36, x258000, x258001, x258002 => if x36 < x35 then (if 0 ≤ x36 then (if x36 < (x34.length : Int) then ((value_Compare.f x258000 x258001 x258002 ((rd_T24 x34 x36).f0) ((rd_T24 x34 x36).f1) ((rd_T24 x34 x36).f2)).bind fun t260 => ((partsyncref01_Compare.f x258000 x258001 x258002 ((rd_T24 x34 x36).f0) ((rd_T24 x34 x36).f1) ((rd_T24 x34 x36).f2)).bind fun t261 => (if t260 = t261 then ((value_Compare.f ((rd_T24 x34 x36).f0) ((rd_T24 x34 x36).f1) ((rd_T24 x34 x36).f2) x258000 x258001 x258002).bind fun t262 => (if t260 = (wrap64 (-t262)) then (partsynclaw01_ValueCompares.j2 k x10 t260 x28 x29 x30 x34 x35 x36 ((t260 == 0) != (x258000 == ((rd_T24 x34 x36).f0) && (x258001 == ((rd_T24 x34 x36).f1) && (x258002.toList == (((rd_T24 x34 x36).f2).toList))))) x258000 x258001 x258002 ((rd_T24 x34 x36).f0) ((rd_T24 x34 x36).f1) ((rd_T24 x34 x36).f2)) else (partsynclaw01_ValueCompares.j2 k x10 t260 x28 x29 x30 x34 x35 x36 true x258000 x258001 x258002 ((rd_T24 x34 x36).f0) ((rd_T24 x34 x36).f1) ((rd_T24 x34 x36).f2)))) else (partsynclaw01_ValueCompares.j2 k x10 t260 x28 x29 x30 x34 x35 x36 true x258000 x258001 x258002 ((rd_T24 x34 x36).f0) ((rd_T24 x34 x36).f1) ((rd_T24 x34 x36).f2))))) else (none)) else (none)) else (partsynclaw01_ValueCompares.l0 k x10 x28 x29 (wrap64 (x30 + 1)))
def partsynclaw01_ValueCompares.j2 : Nat → List (S24) → Int → List (S24) → Int → Int → List (S24) → Int → Int → Bool → Int → Int → ByteArray → Int → Int → ByteArray → Option (Bool)
  | 0, _, _, _, _, _, _, _, _, _, _, _, _, _, _, _ => none
  | k + 1, x10, x15, x28, x29, x30, x34, x35, x36, x63, x258000, x258001, x258002, x260000, x260001, x260002 => if x63 = true then (some false) else (partsynclaw01_ValueCompares.l2 k x10 x15 x28 x29 x30 x34 x35 x36 x10 (x10.length : Int) 0 x258000 x258001 x258002 x260000 x260001 x260002)
def partsynclaw01_ValueCompares.l2 : Nat → List (S24) → Int → List (S24) → Int → Int → List (S24) → Int → Int → List (S24) → Int → Int → Int → Int → ByteArray → Int → Int → ByteArray → Option (Bool)
  | 0, _, _, _, _, _, _, _, _, _, _, _, _, _, _, _, _, _ => none
  | k + 1, x10, x15, x28, x29, x30, x34, x35, x36, x64, x65, x66, x258000, x258001, x258002, x260000, x260001, x260002 => if x66 < x65 then (if 0 ≤ x66 then (if x66 < (x64.length : Int) then (if x15 ≤ 0 then ((value_Compare.f x260000 x260001 x260002 ((rd_T24 x64 x66).f0) ((rd_T24 x64 x66).f1) ((rd_T24 x64 x66).f2)).bind fun t265 => (if t265 ≤ 0 then ((value_Compare.f x258000 x258001 x258002 ((rd_T24 x64 x66).f0) ((rd_T24 x64 x66).f1) ((rd_T24 x64 x66).f2)).bind fun t266 => (if t266 > 0 then (some false) else (partsynclaw01_ValueCompares.l2 k x10 x15 x28 x29 x30 x34 x35 x36 x64 x65 (wrap64 (x66 + 1)) x258000 x258001 x258002 x260000 x260001 x260002))) else (partsynclaw01_ValueCompares.l2 k x10 x15 x28 x29 x30 x34 x35 x36 x64 x65 (wrap64 (x66 + 1)) x258000 x258001 x258002 x260000 x260001 x260002))) else (partsynclaw01_ValueCompares.l2 k x10 x15 x28 x29 x30 x34 x35 x36 x64 x65 (wrap64 (x66 + 1)) x258000 x258001 x258002 x260000 x260001 x260002)) else (none)) else (none)) else (partsynclaw01_ValueCompares.l1 k x10 x28 x29 x30 x34 x35 (wrap64 (x36 + 1)) x258000 x258001 x258002)
end
def partsynclaw01_ValueCompares.f (k : Nat) (l0 : List Int) (a1_0 : Int) (a1_1 : Int) (a1_2 : ByteArray) (a2_0 : Int) (a2_1 : Int) (a2_2 : ByteArray) (a3_0 : Int) (a3_1 : Int) (a3_2 : ByteArray) : Option (Bool) := (partsynccase_New.f l0 90).bind fun bt241 => ((partsynccase_Case_Any.f k bt241.1 bt241.2).bind fun bt244 => ((partsynccase_Case_Any.f k bt241.1 bt244.2.2.2).bind fun bt248 => ((some (([(⟨a1_0, a1_1, a1_2⟩ : S24), (⟨a2_0, a2_1, a2_2⟩ : S24), (⟨a3_0, a3_1, a3_2⟩ : S24), (⟨bt244.1, bt244.2.1, bt244.2.2.1⟩ : S24), (⟨bt248.1, bt248.2.1, bt248.2.2.1⟩ : S24)] : List (S24)) : List (S24))).bind fun y252 => (partsynclaw01_ValueCompares.l0 k y252 y252 (y252.length : Int) 0))))
theorem partsynclaw01_ValueCompares.mono_l : ∀ k, (∀ y0 y1 y2 y3, LeO (partsynclaw01_ValueCompares.l0 k y0 y1 y2 y3) (partsynclaw01_ValueCompares.l0 (k + 1) y0 y1 y2 y3)) ∧ (∀ y0 y1 y2 y3 y4 y5 y6 y7 y8 y9, LeO (partsynclaw01_ValueCompares.l1 k y0 y1 y2 y3 y4 y5 y6 y7 y8 y9) (partsynclaw01_ValueCompares.l1 (k + 1) y0 y1 y2 y3 y4 y5 y6 y7 y8 y9)) ∧ (∀ y0 y1 y2 y3 y4 y5 y6 y7 y8 y9 y10 y11 y12 y13 y14, LeO (partsynclaw01_ValueCompares.j2 k y0 y1 y2 y3 y4 y5 y6 y7 y8 y9 y10 y11 y12 y13 y14) (partsynclaw01_ValueCompares.j2 (k + 1) y0 y1 y2 y3 y4 y5 y6 y7 y8 y9 y10 y11 y12 y13 y14)) ∧ (∀ y0 y1 y2 y3 y4 y5 y6 y7 y8 y9 y10 y11 y12 y13 y14 y15 y16, LeO (partsynclaw01_ValueCompares.l2 k y0 y1 y2 y3 y4 y5 y6 y7 y8 y9 y10 y11 y12 y13 y14 y15 y16) (partsynclaw01_ValueCompares.l2 (k + 1) y0 y1 y2 y3 y4 y5 y6 y7 y8 y9 y10 y11 y12 y13 y14 y15 y16))
  | 0 => ⟨fun _ _ _ _ r h => by simp [partsynclaw01_ValueCompares.l0] at h, fun _ _ _ _ _ _ _ _ _ _ r h => by simp [partsynclaw01_ValueCompares.l1] at h, fun _ _ _ _ _ _ _ _ _ _ _ _ _ _ _ r h => by simp [partsynclaw01_ValueCompares.j2] at h, fun _ _ _ _ _ _ _ _ _ _ _ _ _ _ _ _ _ r h => by simp [partsynclaw01_ValueCompares.l2] at h⟩
  | k + 1 => by
    obtain ⟨ih0, ih1, ih2, ih3⟩ := partsynclaw01_ValueCompares.mono_l k
    refine ⟨?_, ?_, ?_, ?_⟩
    · intro y0 y1 y2 y3
      unfold partsynclaw01_ValueCompares.l0
      repeat' first
      | (with_reducible exact ih0 _ _ _ _)
      | (with_reducible exact ih1 _ _ _ _ _ _ _ _ _ _)
      | (with_reducible exact ih2 _ _ _ _ _ _ _ _ _ _ _ _ _ _ _)
      | (with_reducible exact ih3 _ _ _ _ _ _ _ _ _ _ _ _ _ _ _ _ _)
      | (with_reducible exact partsynccase_Case_Any.mono _ _ _)
      | (with_reducible exact partsynclaw01_begun.mono _)
      | (with_reducible exact LeO.refl _)
      | (with_reducible exact LeO.none _)
      | (with_reducible refine LeO.ite ?_ ?_)
      | (with_reducible refine LeO.bind ?_ (fun _ => ?_))
      | exact ih0 _ _ _ _
      | exact ih1 _ _ _ _ _ _ _ _ _ _
      | exact ih2 _ _ _ _ _ _ _ _ _ _ _ _ _ _ _
      | exact ih3 _ _ _ _ _ _ _ _ _ _ _ _ _ _ _ _ _
      | exact partsynccase_Case_Any.mono _ _ _
      | exact partsynclaw01_begun.mono _
      | exact LeO.none _
      | refine LeO.ite ?_ ?_
      | refine LeO.bind ?_ (fun _ => ?_)
    · intro y0 y1 y2 y3 y4 y5 y6 y7 y8 y9
      unfold partsynclaw01_ValueCompares.l1
      repeat' first
      | (with_reducible exact ih0 _ _ _ _)
      | (with_reducible exact ih1 _ _ _ _ _ _ _ _ _ _)
      | (with_reducible exact ih2 _ _ _ _ _ _ _ _ _ _ _ _ _ _ _)
      | (with_reducible exact ih3 _ _ _ _ _ _ _ _ _ _ _ _ _ _ _ _ _)
      | (with_reducible exact partsynccase_Case_Any.mono _ _ _)
      | (with_reducible exact partsynclaw01_begun.mono _)
      | (with_reducible exact LeO.refl _)
      | (with_reducible exact LeO.none _)
      | (with_reducible refine LeO.ite ?_ ?_)
      | (with_reducible refine LeO.bind ?_ (fun _ => ?_))
      | exact ih0 _ _ _ _
      | exact ih1 _ _ _ _ _ _ _ _ _ _
      | exact ih2 _ _ _ _ _ _ _ _ _ _ _ _ _ _ _
      | exact ih3 _ _ _ _ _ _ _ _ _ _ _ _ _ _ _ _ _
      | exact partsynccase_Case_Any.mono _ _ _
      | exact partsynclaw01_begun.mono _
      | exact LeO.none _
      | refine LeO.ite ?_ ?_
      | refine LeO.bind ?_ (fun _ => ?_)
    · intro y0 y1 y2 y3 y4 y5 y6 y7 y8 y9 y10 y11 y12 y13 y14
      unfold partsynclaw01_ValueCompares.j2
      repeat' first
      | (with_reducible exact ih0 _ _ _ _)
      | (with_reducible exact ih1 _ _ _ _ _ _ _ _ _ _)
      | (with_reducible exact ih2 _ _ _ _ _ _ _ _ _ _ _ _ _ _ _)
      | (with_reducible exact ih3 _ _ _ _ _ _ _ _ _ _ _ _ _ _ _ _ _)
      | (with_reducible exact partsynccase_Case_Any.mono _ _ _)
      | (with_reducible exact partsynclaw01_begun.mono _)
      | (with_reducible exact LeO.refl _)
      | (with_reducible exact LeO.none _)
      | (with_reducible refine LeO.ite ?_ ?_)
      | (with_reducible refine LeO.bind ?_ (fun _ => ?_))
      | exact ih0 _ _ _ _
      | exact ih1 _ _ _ _ _ _ _ _ _ _
      | exact ih2 _ _ _ _ _ _ _ _ _ _ _ _ _ _ _
      | exact ih3 _ _ _ _ _ _ _ _ _ _ _ _ _ _ _ _ _
      | exact partsynccase_Case_Any.mono _ _ _
      | exact partsynclaw01_begun.mono _
      | exact LeO.none _
      | refine LeO.ite ?_ ?_
      | refine LeO.bind ?_ (fun _ => ?_)
    · intro y0 y1 y2 y3 y4 y5 y6 y7 y8 y9 y10 y11 y12 y13 y14 y15 y16
      unfold partsynclaw01_ValueCompares.l2
      repeat' first
      | (with_reducible exact ih0 _ _ _ _)
      | (with_reducible exact ih1 _ _ _ _ _ _ _ _ _ _)
      | (with_reducible exact ih2 _ _ _ _ _ _ _ _ _ _ _ _ _ _ _)
      | (with_reducible exact ih3 _ _ _ _ _ _ _ _ _ _ _ _ _ _ _ _ _)
      | (with_reducible exact partsynccase_Case_Any.mono _ _ _)
      | (with_reducible exact partsynclaw01_begun.mono _)
      | (with_reducible exact LeO.refl _)
      | (with_reducible exact LeO.none _)
      | (with_reducible refine LeO.ite ?_ ?_)
      | (with_reducible refine LeO.bind ?_ (fun _ => ?_))
      | exact ih0 _ _ _ _
      | exact ih1 _ _ _ _ _ _ _ _ _ _
      | exact ih2 _ _ _ _ _ _ _ _ _ _ _ _ _ _ _
      | exact ih3 _ _ _ _ _ _ _ _ _ _ _ _ _ _ _ _ _
      | exact partsynccase_Case_Any.mono _ _ _
      | exact partsynclaw01_begun.mono _
      | exact LeO.none _
      | refine LeO.ite ?_ ?_
      | refine LeO.bind ?_ (fun _ => ?_)
theorem partsynclaw01_ValueCompares.mono : ∀ a0 a1 a2 a3 a4 a5 a6 a7 a8 a9 k, LeO (partsynclaw01_ValueCompares.f k a0 a1 a2 a3 a4 a5 a6 a7 a8 a9) (partsynclaw01_ValueCompares.f (k + 1) a0 a1 a2 a3 a4 a5 a6 a7 a8 a9) := by
  intro a0 a1 a2 a3 a4 a5 a6 a7 a8 a9 k
  obtain ⟨ih0, ih1, ih2, ih3⟩ := partsynclaw01_ValueCompares.mono_l k
  unfold partsynclaw01_ValueCompares.f
  repeat' first
      | (with_reducible exact ih0 _ _ _ _)
      | (with_reducible exact ih1 _ _ _ _ _ _ _ _ _ _)
      | (with_reducible exact ih2 _ _ _ _ _ _ _ _ _ _ _ _ _ _ _)
      | (with_reducible exact ih3 _ _ _ _ _ _ _ _ _ _ _ _ _ _ _ _ _)
      | (with_reducible exact partsynccase_Case_Any.mono _ _ _)
      | (with_reducible exact partsynclaw01_begun.mono _)
      | (with_reducible exact LeO.refl _)
      | (with_reducible exact LeO.none _)
      | (with_reducible refine LeO.ite ?_ ?_)
      | (with_reducible refine LeO.bind ?_ (fun _ => ?_))
      | exact ih0 _ _ _ _
      | exact ih1 _ _ _ _ _ _ _ _ _ _
      | exact ih2 _ _ _ _ _ _ _ _ _ _ _ _ _ _ _
      | exact ih3 _ _ _ _ _ _ _ _ _ _ _ _ _ _ _ _ _
      | exact partsynccase_Case_Any.mono _ _ _
      | exact partsynclaw01_begun.mono _
      | exact LeO.none _
      | refine LeO.ite ?_ ?_
      | refine LeO.bind ?_ (fun _ => ?_)
def partsynclaw01_ValueCompares.T2 : Bool × List (List Nat × List Nat) := (true, [([], []), ([], []), ([], []), ([], []), ([3], [3]), ([], []), ([5, 4], [5]), ([0, 1, 2, 4, 6], [0, 1, 2, 4, 6]), ([7, 6, 0, 1, 2, 3, 4, 5, 6, 7], [7])])
def partsynclaw01_ValueCompares.B2 : List Nat := [0, 0, 0, 0, 8, 0, 56, 127, 255]
theorem partsynclaw01_ValueCompares.tab2 : rtab .any (opsOf Try.f4 2) = partsynclaw01_ValueCompares.T2 := by kernel_rfl
theorem partsynclaw01_ValueCompares.bits2 : waitsOk partsynclaw01_ValueCompares.T2.2 partsynclaw01_ValueCompares.B2 = true := by kernel_rfl
set_option maxHeartbeats 8000000 in
set_option maxRecDepth 100000 in
theorem partsynclaw01_ValueCompares.callsN (k : Nat) (A0 : Option Addr) (c0 : Nat) (l0 : List Int) (a1_0 : Int) (a1_1 : Int) (a1_2 : ByteArray) (a2_0 : Int) (a2_1 : Int) (a2_2 : ByteArray) (a3_0 : Int) (a3_1 : Int) (a3_2 : ByteArray) (r : Bool) (w : World) (hr0 : Kd.C (Kd.int .u8) w A0 l0.length l0) (hc0 : l0.length ≤ c0) (h : partsynclaw01_ValueCompares.f k l0 a1_0 a1_1 a1_2 a2_0 a2_1 a2_2 a3_0 a3_1 a3_2 = some r) (HRT : Aside0 (r = true)) :
    Calls Try.prog 4 #[.slice A0 l0.length c0, .agg #[.int .i64 a1_0, .int .i64 a1_1, .string a1_2], .agg #[.int .i64 a2_0, .int .i64 a2_1, .string a2_2], .agg #[.int .i64 a3_0, .int .i64 a3_1, .string a3_2]] w fun e w' => e = .returned (.bool r) ∧ ∃ wb, Below w.heap.size w wb ∧ Below wb.heap.size wb w' := by
  have hu24 := Try.underlying24
  have HR0 := Aside0.mk hr0
  have HC0 := Aside0.mk hc0
  clear hr0 hc0
  have HB := Aside0.mk (Below.refl w.heap.size w)
  have H : ((partsynccase_New.f l0 90).bind fun bt241 => ((partsynccase_Case_Any.f k bt241.1 bt241.2).bind fun bt244 => ((partsynccase_Case_Any.f k bt241.1 bt244.2.2.2).bind fun bt248 => ((some (([(⟨a1_0, a1_1, a1_2⟩ : S24), (⟨a2_0, a2_1, a2_2⟩ : S24), (⟨a3_0, a3_1, a3_2⟩ : S24), (⟨bt244.1, bt244.2.1, bt244.2.2.1⟩ : S24), (⟨bt248.1, bt248.2.1, bt248.2.2.1⟩ : S24)] : List (S24)) : List (S24))).bind fun y252 => (partsynclaw01_ValueCompares.l0 k y252 y252 (y252.length : Int) 0))))) = some r := h
  clear h
  replace H := Option.bind_eq_some_iff.mp H
  obtain ⟨⟨t241, t242⟩, A50, H⟩ := H
  replace H : ((partsynccase_Case_Any.f k t241 t242).bind fun bt244 => ((partsynccase_Case_Any.f k t241 bt244.2.2.2).bind fun bt248 => ((some (([(⟨a1_0, a1_1, a1_2⟩ : S24), (⟨a2_0, a2_1, a2_2⟩ : S24), (⟨a3_0, a3_1, a3_2⟩ : S24), (⟨bt244.1, bt244.2.1, bt244.2.2.1⟩ : S24), (⟨bt248.1, bt248.2.1, bt248.2.2.1⟩ : S24)] : List (S24)) : List (S24))).bind fun y252 => (partsynclaw01_ValueCompares.l0 k y252 y252 (y252.length : Int) 0)))) = some r := H
  have A5 := Aside0.mk A50
  clear A50
  go_enter Try.func4, Try.ntmps4
  go_wp2_with (first | ((with_reducible refine gate_dst (N := 5) rfl ?_); refine box_event ?hg (N := 5) ?hd (cs := #[.int .i64 a1_0, .int .i64 a1_1, .string a1_2]) (t := 24) ?hr ?_; (case hd => rfl); (case hg => rfl); (case hr => first | (go_simp; done) | (go_simp; rfl)); intro gb238 hg w6 hbox hb; have n0_ := Aside0.mk (below_step (by repeat (first | (with_reducible first | exact HB.out | apply below_alloc | apply pw_below_drewN | apply below_drew1) | exact HB.out)) hb); have n1_ := Aside0.mk (hbox); have n2_ := Aside0.mk ((by rw [hg]; exact (below_size (by repeat (first | (with_reducible first | exact HB.out | apply below_alloc | apply pw_below_drewN | apply below_drew1) | exact HB.out))) : w.heap.size ≤ gb238)); have n3_ := Aside0.mk ((by rw [hg]; exact (below_size (by repeat (first | (with_reducible first | exact HB.out | apply below_alloc | apply pw_below_drewN | apply below_drew1) | exact HB.out))) : w.heap.size ≤ gb238)); clear HB; have HB := n0_; have BK238 := n1_; have GW238 := n2_; have GE238 := n3_; clear n0_ n1_ n2_ n3_; clear hb hbox hg) | ((with_reducible refine gate_dst (N := 6) rfl ?_); refine box_event ?hg (N := 6) ?hd (cs := #[.int .i64 a2_0, .int .i64 a2_1, .string a2_2]) (t := 24) ?hr ?_; (case hd => rfl); (case hg => rfl); (case hr => first | (go_simp; done) | (go_simp; rfl)); intro gb239 hg w7 hbox hb; have n0_ := Aside0.mk (blk_below (g := gb238) (o := .cells #[.int .i64 a1_0, .int .i64 a1_1, .string a1_2] 24 (0, 0)) (by (with_reducible repeat (first | refine blk_drewN ?_ _ | refine blk_drew ?_ | refine blk_alloc ?_ _)); exact BK238.out) hb); have n1_ := Aside0.mk (below_step (by repeat (first | (with_reducible first | exact HB.out | apply below_alloc | apply pw_below_drewN | apply below_drew1 | refine below_set ?_ GE238.out) | exact HB.out)) hb); have n2_ := Aside0.mk (hbox); have n3_ := Aside0.mk ((by rw [hg]; exact (below_size (by repeat (first | (with_reducible first | exact HB.out | apply below_alloc | apply pw_below_drewN | apply below_drew1 | refine below_set ?_ GE238.out) | exact HB.out))) : w.heap.size ≤ gb239)); have n4_ := Aside0.mk ((by rw [hg]; exact (below_size (by repeat (first | (with_reducible first | exact HB.out | apply below_alloc | apply pw_below_drewN | apply below_drew1 | refine below_set ?_ GE238.out) | exact HB.out))) : w.heap.size ≤ gb239)); have n5_ := Aside0.mk ((by rw [hg]; exact Nat.ne_of_lt (blk_lt (g := gb238) (o := .cells #[.int .i64 a1_0, .int .i64 a1_1, .string a1_2] 24 (0, 0)) (by (with_reducible repeat (first | refine blk_drewN ?_ _ | refine blk_drew ?_ | refine blk_alloc ?_ _)); exact BK238.out)) : gb238 ≠ gb239)); have n6_ := Aside0.mk ((by rw [hg]; exact Nat.ne_of_gt (blk_lt (g := gb238) (o := .cells #[.int .i64 a1_0, .int .i64 a1_1, .string a1_2] 24 (0, 0)) (by (with_reducible repeat (first | refine blk_drewN ?_ _ | refine blk_drew ?_ | refine blk_alloc ?_ _)); exact BK238.out)) : gb239 ≠ gb238)); clear BK238; clear HB; have BK238 := n0_; have HB := n1_; have BK239 := n2_; have GW239 := n3_; have GE239 := n4_; have NB238_239 := n5_; have NB239_238 := n6_; clear n0_ n1_ n2_ n3_ n4_ n5_ n6_; clear hb hbox hg) | ((with_reducible refine gate_dst (N := 7) rfl ?_); refine box_event ?hg (N := 7) ?hd (cs := #[.int .i64 a3_0, .int .i64 a3_1, .string a3_2]) (t := 24) ?hr ?_; (case hd => rfl); (case hg => rfl); (case hr => first | (go_simp; done) | (go_simp; rfl)); intro gb240 hg w8 hbox hb; have n0_ := Aside0.mk (blk_below (g := gb238) (o := .cells #[.int .i64 a1_0, .int .i64 a1_1, .string a1_2] 24 (0, 0)) (by (with_reducible repeat (first | refine blk_drewN ?_ _ | refine blk_drew ?_ | refine blk_alloc ?_ _)); exact BK238.out) hb); have n1_ := Aside0.mk (blk_below (g := gb239) (o := .cells #[.int .i64 a2_0, .int .i64 a2_1, .string a2_2] 24 (0, 0)) (by (with_reducible repeat (first | refine blk_drewN ?_ _ | refine blk_drew ?_ | refine blk_alloc ?_ _)); exact BK239.out) hb); have n2_ := Aside0.mk (below_step (by repeat (first | (with_reducible first | exact HB.out | apply below_alloc | apply pw_below_drewN | apply below_drew1 | refine below_set ?_ GE238.out | refine below_set ?_ GE239.out) | exact HB.out)) hb); have n3_ := Aside0.mk (hbox); have n4_ := Aside0.mk ((by rw [hg]; exact (below_size (by repeat (first | (with_reducible first | exact HB.out | apply below_alloc | apply pw_below_drewN | apply below_drew1 | refine below_set ?_ GE238.out | refine below_set ?_ GE239.out) | exact HB.out))) : w.heap.size ≤ gb240)); have n5_ := Aside0.mk ((by rw [hg]; exact (below_size (by repeat (first | (with_reducible first | exact HB.out | apply below_alloc | apply pw_below_drewN | apply below_drew1 | refine below_set ?_ GE238.out | refine below_set ?_ GE239.out) | exact HB.out))) : w.heap.size ≤ gb240)); have n6_ := Aside0.mk ((by rw [hg]; exact Nat.ne_of_lt (blk_lt (g := gb238) (o := .cells #[.int .i64 a1_0, .int .i64 a1_1, .string a1_2] 24 (0, 0)) (by (with_reducible repeat (first | refine blk_drewN ?_ _ | refine blk_drew ?_ | refine blk_alloc ?_ _)); exact BK238.out)) : gb238 ≠ gb240)); have n7_ := Aside0.mk ((by rw [hg]; exact Nat.ne_of_gt (blk_lt (g := gb238) (o := .cells #[.int .i64 a1_0, .int .i64 a1_1, .string a1_2] 24 (0, 0)) (by (with_reducible repeat (first | refine blk_drewN ?_ _ | refine blk_drew ?_ | refine blk_alloc ?_ _)); exact BK238.out)) : gb240 ≠ gb238)); have n8_ := Aside0.mk ((by rw [hg]; exact Nat.ne_of_lt (blk_lt (g := gb239) (o := .cells #[.int .i64 a2_0, .int .i64 a2_1, .string a2_2] 24 (0, 0)) (by (with_reducible repeat (first | refine blk_drewN ?_ _ | refine blk_drew ?_ | refine blk_alloc ?_ _)); exact BK239.out)) : gb239 ≠ gb240)); have n9_ := Aside0.mk ((by rw [hg]; exact Nat.ne_of_gt (blk_lt (g := gb239) (o := .cells #[.int .i64 a2_0, .int .i64 a2_1, .string a2_2] 24 (0, 0)) (by (with_reducible repeat (first | refine blk_drewN ?_ _ | refine blk_drew ?_ | refine blk_alloc ?_ _)); exact BK239.out)) : gb240 ≠ gb239)); clear BK238; clear BK239; clear HB; have BK238 := n0_; have BK239 := n1_; have HB := n2_; have BK240 := n3_; have GW240 := n4_; have GE240 := n5_; have NB238_240 := n6_; have NB240_238 := n7_; have NB239_240 := n8_; have NB240_239 := n9_; clear n0_ n1_ n2_ n3_ n4_ n5_ n6_ n7_ n8_ n9_; clear hb hbox hg) | ((with_reducible refine gate_callee (f := 18) rfl ?_); refine goesL_ (some 19) rfl rfl Try.func18 (by kernel_rfl) rfl #[.slice A0 l0.length c0, .int .i64 90] rfl (by (try simp only [List.map_toArray, List.map_cons, List.map_nil]); first | done | rfl | (simp only [List.length_drop, List.length_take]; rfl)) ?_; (with_reducible refine (partsynccase_New.calls _ _ l0 90 t241 t242 w _ ?side1 ?side2 ?side3 A5.out).mono ?_); (case side1 => repeat (first | (with_reducible first | exact HB.out | apply below_alloc | apply pw_below_drewN | apply below_drew1 | refine below_set ?_ GE238.out | refine below_set ?_ GE239.out | refine below_set ?_ GE240.out) | exact HB.out)); (case side2 => exact HR0.out); (case side3 => exact HC0.out); rintro e w9 ⟨g243, rfl, hi, hb, hb2⟩; refine ⟨_, rfl, ?_⟩; have n0_ := Aside0.mk (blk_below (g := gb238) (o := .cells #[.int .i64 a1_0, .int .i64 a1_1, .string a1_2] 24 (0, 0)) (by (with_reducible repeat (first | refine blk_drewN ?_ _ | refine blk_drew ?_ | refine blk_alloc ?_ _)); exact BK238.out) hb2); have n1_ := Aside0.mk (blk_below (g := gb239) (o := .cells #[.int .i64 a2_0, .int .i64 a2_1, .string a2_2] 24 (0, 0)) (by (with_reducible repeat (first | refine blk_drewN ?_ _ | refine blk_drew ?_ | refine blk_alloc ?_ _)); exact BK239.out) hb2); have n2_ := Aside0.mk (blk_below (g := gb240) (o := .cells #[.int .i64 a3_0, .int .i64 a3_1, .string a3_2] 24 (0, 0)) (by (with_reducible repeat (first | refine blk_drewN ?_ _ | refine blk_drew ?_ | refine blk_alloc ?_ _)); exact BK240.out) hb2); have n3_ := Aside0.mk (hb); have n4_ := Aside0.mk (hi); have n5_ := Aside0.mk (NewS75.ne_blk hi (blk_below (g := gb238) (o := .cells #[.int .i64 a1_0, .int .i64 a1_1, .string a1_2] 24 (0, 0)) (by (with_reducible repeat (first | refine blk_drewN ?_ _ | refine blk_drew ?_ | refine blk_alloc ?_ _)); exact BK238.out) hb2) (by decide)); have n6_ := Aside0.mk (Ne.symm (NewS75.ne_blk hi (blk_below (g := gb238) (o := .cells #[.int .i64 a1_0, .int .i64 a1_1, .string a1_2] 24 (0, 0)) (by (with_reducible repeat (first | refine blk_drewN ?_ _ | refine blk_drew ?_ | refine blk_alloc ?_ _)); exact BK238.out) hb2) (by decide))); have n7_ := Aside0.mk (NewS75.ne_blk hi (blk_below (g := gb239) (o := .cells #[.int .i64 a2_0, .int .i64 a2_1, .string a2_2] 24 (0, 0)) (by (with_reducible repeat (first | refine blk_drewN ?_ _ | refine blk_drew ?_ | refine blk_alloc ?_ _)); exact BK239.out) hb2) (by decide)); have n8_ := Aside0.mk (Ne.symm (NewS75.ne_blk hi (blk_below (g := gb239) (o := .cells #[.int .i64 a2_0, .int .i64 a2_1, .string a2_2] 24 (0, 0)) (by (with_reducible repeat (first | refine blk_drewN ?_ _ | refine blk_drew ?_ | refine blk_alloc ?_ _)); exact BK239.out) hb2) (by decide))); have n9_ := Aside0.mk (NewS75.ne_blk hi (blk_below (g := gb240) (o := .cells #[.int .i64 a3_0, .int .i64 a3_1, .string a3_2] 24 (0, 0)) (by (with_reducible repeat (first | refine blk_drewN ?_ _ | refine blk_drew ?_ | refine blk_alloc ?_ _)); exact BK240.out) hb2) (by decide)); have n10_ := Aside0.mk (Ne.symm (NewS75.ne_blk hi (blk_below (g := gb240) (o := .cells #[.int .i64 a3_0, .int .i64 a3_1, .string a3_2] 24 (0, 0)) (by (with_reducible repeat (first | refine blk_drewN ?_ _ | refine blk_drew ?_ | refine blk_alloc ?_ _)); exact BK240.out) hb2) (by decide))); clear BK238; clear BK239; clear BK240; clear HB; have BK238 := n0_; have BK239 := n1_; have BK240 := n2_; have HB := n3_; have HI243 := n4_; have NB243_238 := n5_; have NB238_243 := n6_; have NB243_239 := n7_; have NB239_243 := n8_; have NB243_240 := n9_; have NB240_243 := n10_; clear n0_ n1_ n2_ n3_ n4_ n5_ n6_ n7_ n8_ n9_ n10_; (try clear hb); (try clear hb2); (try clear hk); (try clear hi)))
  have HNS := HI243.out
  clear HI243 HB
  obtain ⟨w, BWN, BNW, hIN⟩ := HNS
  have HI243 := Aside0.mk hIN
  have HB := Aside0.mk BNW
  have HBWN := Aside0.mk BWN
  clear hIN BNW BWN
  replace H := Option.bind_eq_some_iff.mp H
  obtain ⟨⟨t244, t245, t246, t247⟩, A100, H⟩ := H
  replace H : ((partsynccase_Case_Any.f k t241 t247).bind fun bt248 => ((some (([(⟨a1_0, a1_1, a1_2⟩ : S24), (⟨a2_0, a2_1, a2_2⟩ : S24), (⟨a3_0, a3_1, a3_2⟩ : S24), (⟨t244, t245, t246⟩ : S24), (⟨bt248.1, bt248.2.1, bt248.2.2.1⟩ : S24)] : List (S24)) : List (S24))).bind fun y252 => (partsynclaw01_ValueCompares.l0 k y252 y252 (y252.length : Int) 0))) = some r := H
  have A10 := Aside0.mk A100
  clear A100
  replace H := Option.bind_eq_some_iff.mp H
  obtain ⟨⟨t248, t249, t250, t251⟩, A110, H⟩ := H
  replace H : ((some (([(⟨a1_0, a1_1, a1_2⟩ : S24), (⟨a2_0, a2_1, a2_2⟩ : S24), (⟨a3_0, a3_1, a3_2⟩ : S24), (⟨t244, t245, t246⟩ : S24), (⟨t248, t249, t250⟩ : S24)] : List (S24)) : List (S24))).bind fun y252 => (partsynclaw01_ValueCompares.l0 k y252 y252 (y252.length : Int) 0)) = some r := H
  have A11 := Aside0.mk A110
  clear A110
  obtain ⟨y252, hy252⟩ : ∃ y_ : List (S24), y_ = (([(⟨a1_0, a1_1, a1_2⟩ : S24), (⟨a2_0, a2_1, a2_2⟩ : S24), (⟨a3_0, a3_1, a3_2⟩ : S24), (⟨t244, t245, t246⟩ : S24), (⟨t248, t249, t250⟩ : S24)] : List (S24))) := ⟨_, rfl⟩
  replace H : (partsynclaw01_ValueCompares.l0 k y252 y252 (y252.length : Int) 0) = some r := by first | (rw [hy252]; with_reducible exact H) | (have H2_ := (Option.bind_some _ _).symm.trans H; rw [hy252]; with_reducible exact H2_) | (have H2_ := (Option.bind_some _ _).symm.trans H; with_reducible exact H2_) | with_reducible exact H | (rw [hy252]; exact H) | exact H
  have Ny252 := Aside0.mk hy252
  clear hy252
  have H' := Aside0.mk H
  clear H
  try go_wp2
  have n0_ := Aside0.mk (blk_drew BK238.out)
  have n1_ := Aside0.mk (blk_drew BK239.out)
  have n2_ := Aside0.mk (blk_drew BK240.out)
  have n3_ := Aside0.mk (IsS75.drew HI243.out)
  have n4_ := Aside0.mk (below_drew1 HB.out)
  clear BK238
  clear BK239
  clear BK240
  clear HI243
  clear HB
  have BK238 := n0_
  have BK239 := n1_
  have BK240 := n2_
  have HI243 := n3_
  have HB := n4_
  clear n0_ n1_ n2_ n3_ n4_
  refine start_ (n := 9) (S := fun w' => w'.cell? ⟨gb238, 0, none⟩ = some (.int .i64 a1_0) ∧ w'.cell? ⟨gb238, 1, none⟩ = some (.int .i64 a1_1) ∧ w'.cell? ⟨gb238, 2, none⟩ = some (.string a1_2) ∧ w'.cell? ⟨gb239, 0, none⟩ = some (.int .i64 a2_0) ∧ w'.cell? ⟨gb239, 1, none⟩ = some (.int .i64 a2_1) ∧ w'.cell? ⟨gb239, 2, none⟩ = some (.string a2_2) ∧ w'.cell? ⟨gb240, 0, none⟩ = some (.int .i64 a3_0) ∧ w'.cell? ⟨gb240, 1, none⟩ = some (.int .i64 a3_1) ∧ w'.cell? ⟨gb240, 2, none⟩ = some (.string a3_2)) (ds := []) #[false, false, false, false, false, false, false, false, false] (by kernel_rfl) rfl rfl ⟨(blk_cell BK238.out 0).trans rfl, (blk_cell BK238.out 1).trans rfl, (blk_cell BK238.out 2).trans rfl, (blk_cell BK239.out 0).trans rfl, (blk_cell BK239.out 1).trans rfl, (blk_cell BK239.out 2).trans rfl, (blk_cell BK240.out 0).trans rfl, (blk_cell BK240.out 1).trans rfl, (blk_cell BK240.out 2).trans rfl⟩ (fun hHeld => ?_); refine with_tabW partsynclaw01_ValueCompares.tab2 partsynclaw01_ValueCompares.bits2 (fun HT_ HW_ => ?_)
  generalize w9.drew = w12 at BK238 BK239 BK240 HI243 HB hHeld ⊢
  refine pure_ (i := 3) (N := some 23) (v := ?_) (a' := ?_) #[false, false, false, true, false, false, false, false, false] rfl rfl (any_of HT_.out (by kernel_rfl)) (fun _ _ _ h => h) (Or.inl ⟨by rfl, ?_⟩) ?_ ?_
  rotate_left
  · intro w'
    go_simp
    with_reducible rfl
  rotate_left
  · simp only [Act.put, List.setIfInBounds_toArray, List.set_cons_zero, List.set_cons_succ, i64_w, i32_w]
    rfl
  refine pure_ (i := 5) (N := some 25) (v := ?_) (a' := ?_) #[false, false, false, true, false, true, false, false, false] rfl rfl (any_of HT_.out (by kernel_rfl)) (fun _ _ _ h => h) (Or.inl ⟨by rfl, ?_⟩) ?_ ?_
  rotate_left
  · intro w'
    go_simp
    with_reducible rfl
  rotate_left
  · simp only [Act.put, List.setIfInBounds_toArray, List.set_cons_zero, List.set_cons_succ, i64_w, i32_w]
    rfl
  refine take_ (i := 0) (N := some 20) (v := ?_) (a' := ?_) #[true, false, false, true, false, true, false, false, false] rfl rfl (take_ofW HT_.out HW_.out (by kernel_rfl)) (fun _ _ _ h => h) (Or.inl ⟨by rfl, ?_⟩) hHeld ?_ ?_
  rotate_left
  · rintro w' ⟨s0, s1, s2, s3, s4, s5, s6, s7, s8⟩
    go_simp
    with_reducible rfl
  rotate_left
  · simp only [Act.put, List.setIfInBounds_toArray, List.set_cons_zero, List.set_cons_succ, i64_w, i32_w]
    rfl
  refine take_ (i := 1) (N := some 21) (v := ?_) (a' := ?_) #[true, true, false, true, false, true, false, false, false] rfl rfl (take_ofW HT_.out HW_.out (by kernel_rfl)) (fun _ _ _ h => h) (Or.inl ⟨by rfl, ?_⟩) hHeld ?_ ?_
  rotate_left
  · rintro w' ⟨s0, s1, s2, s3, s4, s5, s6, s7, s8⟩
    go_simp
    with_reducible rfl
  rotate_left
  · simp only [Act.put, List.setIfInBounds_toArray, List.set_cons_zero, List.set_cons_succ, i64_w, i32_w]
    rfl
  refine take_ (i := 2) (N := some 22) (v := ?_) (a' := ?_) #[true, true, true, true, false, true, false, false, false] rfl rfl (take_ofW HT_.out HW_.out (by kernel_rfl)) (fun _ _ _ h => h) (Or.inl ⟨by rfl, ?_⟩) hHeld ?_ ?_
  rotate_left
  · rintro w' ⟨s0, s1, s2, s3, s4, s5, s6, s7, s8⟩
    go_simp
    with_reducible rfl
  rotate_left
  · simp only [Act.put, List.setIfInBounds_toArray, List.set_cons_zero, List.set_cons_succ, i64_w, i32_w]
    rfl
  refine one_ (i := 4) (N := some 24) #[true, true, true, true, true, true, false, false, false] rfl rfl (one_of HT_.out (by kernel_rfl)) (by decide) (fun K hK => ?_)
  refine goes_ Try.func19 (by kernel_rfl) rfl #[.pointer (some ⟨g243, 0, none⟩)] (by rfl) rfl rfl (by (try simp only [List.map_toArray, List.map_cons, List.map_nil]); first | done | rfl | (simp only [List.length_drop, List.length_take]; rfl)) ?_
  with_reducible refine (partsynccase_Case_Any.calls k g243 t241 t242 t244 t245 t246 t247 w _ ?side1 ?side2 A10.out).mono ?_
  (case side1 => repeat (first | (with_reducible first | exact HI243.out | apply IsS75.alloc | apply IsS75.drewN | apply IsS75.drew | apply IsS75.set_1 | refine IsS75.far ?_ NB243_238.out _ | refine IsS75.far ?_ NB243_239.out _ | refine IsS75.far ?_ NB243_240.out _) | exact HI243.out))
  (case side2 => repeat (first | (with_reducible first | exact HB.out | apply below_alloc | apply pw_below_drewN | apply below_drew1 | refine below_set ?_ (IsS75.ge HI243.out) | refine below_set ?_ GE238.out | refine below_set ?_ GE239.out | refine below_set ?_ GE240.out) | exact HB.out))
  rintro e w13 ⟨rfl, hi, hb, hk⟩
  refine ⟨_, rfl, ?_⟩
  have n0_ := Aside0.mk (KeepBut.blk hk (g' := gb238) (o := .cells #[.int .i64 a1_0, .int .i64 a1_1, .string a1_2] 24 (0, 0)) (by (with_reducible repeat (first | refine blk_drewN ?_ _ | refine blk_drew ?_ | refine blk_alloc ?_ _)); exact BK238.out) NB238_243.out (by simp))
  have n1_ := Aside0.mk (KeepBut.blk hk (g' := gb239) (o := .cells #[.int .i64 a2_0, .int .i64 a2_1, .string a2_2] 24 (0, 0)) (by (with_reducible repeat (first | refine blk_drewN ?_ _ | refine blk_drew ?_ | refine blk_alloc ?_ _)); exact BK239.out) NB239_243.out (by simp))
  have n2_ := Aside0.mk (KeepBut.blk hk (g' := gb240) (o := .cells #[.int .i64 a3_0, .int .i64 a3_1, .string a3_2] 24 (0, 0)) (by (with_reducible repeat (first | refine blk_drewN ?_ _ | refine blk_drew ?_ | refine blk_alloc ?_ _)); exact BK240.out) NB240_243.out (by simp))
  have n3_ := Aside0.mk (hb)
  have n4_ := Aside0.mk (hi)
  clear BK238
  clear BK239
  clear BK240
  clear HB
  clear HI243
  have BK238 := n0_
  have BK239 := n1_
  have BK240 := n2_
  have HB := n3_
  have HI243 := n4_
  clear n0_ n1_ n2_ n3_ n4_
  (try clear hb)
  (try clear hb2)
  (try clear hk)
  (try clear hi)
  refine hK.out _ _ ⟨(blk_cell BK238.out 0).trans rfl, (blk_cell BK238.out 1).trans rfl, (blk_cell BK238.out 2).trans rfl, (blk_cell BK239.out 0).trans rfl, (blk_cell BK239.out 1).trans rfl, (blk_cell BK239.out 2).trans rfl, (blk_cell BK240.out 0).trans rfl, (blk_cell BK240.out 1).trans rfl, (blk_cell BK240.out 2).trans rfl⟩ (fun hHeld => ?_)
  clear hK K
  refine norm_ (a' := ?_) ?_ ?_
  rotate_left
  · show Act.put _ (some 24) _ = _
    simp only [Act.put, List.setIfInBounds_toArray, List.set_cons_zero, List.set_cons_succ, i64_w, i32_w]
    rfl
  refine one_ (i := 6) (N := some 26) #[true, true, true, true, true, true, true, false, false] rfl rfl (one_of HT_.out (by kernel_rfl)) (by decide) (fun K hK => ?_)
  refine goes_ Try.func19 (by kernel_rfl) rfl #[.pointer (some ⟨g243, 0, none⟩)] (by rfl) rfl rfl (by (try simp only [List.map_toArray, List.map_cons, List.map_nil]); first | done | rfl | (simp only [List.length_drop, List.length_take]; rfl)) ?_
  with_reducible refine (partsynccase_Case_Any.calls k g243 t241 t247 t248 t249 t250 t251 w _ ?side1 ?side2 A11.out).mono ?_
  (case side1 => repeat (first | (with_reducible first | exact HI243.out | apply IsS75.alloc | apply IsS75.drewN | apply IsS75.drew | apply IsS75.set_1 | refine IsS75.far ?_ NB243_238.out _ | refine IsS75.far ?_ NB243_239.out _ | refine IsS75.far ?_ NB243_240.out _) | exact HI243.out))
  (case side2 => repeat (first | (with_reducible first | exact HB.out | apply below_alloc | apply pw_below_drewN | apply below_drew1 | refine below_set ?_ (IsS75.ge HI243.out) | refine below_set ?_ GE238.out | refine below_set ?_ GE239.out | refine below_set ?_ GE240.out) | exact HB.out))
  rintro e w14 ⟨rfl, hi, hb, hk⟩
  refine ⟨_, rfl, ?_⟩
  have n0_ := Aside0.mk (KeepBut.blk hk (g' := gb238) (o := .cells #[.int .i64 a1_0, .int .i64 a1_1, .string a1_2] 24 (0, 0)) (by (with_reducible repeat (first | refine blk_drewN ?_ _ | refine blk_drew ?_ | refine blk_alloc ?_ _)); exact BK238.out) NB238_243.out (by simp))
  have n1_ := Aside0.mk (KeepBut.blk hk (g' := gb239) (o := .cells #[.int .i64 a2_0, .int .i64 a2_1, .string a2_2] 24 (0, 0)) (by (with_reducible repeat (first | refine blk_drewN ?_ _ | refine blk_drew ?_ | refine blk_alloc ?_ _)); exact BK239.out) NB239_243.out (by simp))
  have n2_ := Aside0.mk (KeepBut.blk hk (g' := gb240) (o := .cells #[.int .i64 a3_0, .int .i64 a3_1, .string a3_2] 24 (0, 0)) (by (with_reducible repeat (first | refine blk_drewN ?_ _ | refine blk_drew ?_ | refine blk_alloc ?_ _)); exact BK240.out) NB240_243.out (by simp))
  have n3_ := Aside0.mk (hb)
  have n4_ := Aside0.mk (hi)
  clear BK238
  clear BK239
  clear BK240
  clear HB
  clear HI243
  have BK238 := n0_
  have BK239 := n1_
  have BK240 := n2_
  have HB := n3_
  have HI243 := n4_
  clear n0_ n1_ n2_ n3_ n4_
  (try clear hb)
  (try clear hb2)
  (try clear hk)
  (try clear hi)
  refine hK.out _ _ ⟨(blk_cell BK238.out 0).trans rfl, (blk_cell BK238.out 1).trans rfl, (blk_cell BK238.out 2).trans rfl, (blk_cell BK239.out 0).trans rfl, (blk_cell BK239.out 1).trans rfl, (blk_cell BK239.out 2).trans rfl, (blk_cell BK240.out 0).trans rfl, (blk_cell BK240.out 1).trans rfl, (blk_cell BK240.out 2).trans rfl⟩ (fun hHeld => ?_)
  clear hK K
  refine norm_ (a' := ?_) ?_ ?_
  rotate_left
  · show Act.put _ (some 26) _ = _
    simp only [Act.put, List.setIfInBounds_toArray, List.set_cons_zero, List.set_cons_succ, i64_w, i32_w]
    rfl
  refine one_ (i := 7) (N := some 27) #[true, true, true, true, true, true, true, true, false] rfl rfl (one_of HT_.out (by kernel_rfl)) (by decide) (fun K hK => ?_)
  refine Kd.R_lit_step k24 _ 24 ?hg (N := 27) ?hd (xs := ([(⟨a1_0, a1_1, a1_2⟩ : S24), (⟨a2_0, a2_1, a2_2⟩ : S24), (⟨a3_0, a3_1, a3_2⟩ : S24), (⟨t244, t245, t246⟩ : S24), (⟨t248, t249, t250⟩ : S24)] : List (S24))) (inner := [.int .i64 a1_0, .int .i64 a1_1, .string a1_2, .int .i64 a2_0, .int .i64 a2_1, .string a2_2, .int .i64 a3_0, .int .i64 a3_1, .string a3_2, .int .i64 t244, .int .i64 t245, .string t246, .int .i64 t248, .int .i64 t249, .string t250]) (ok := fun _ => True) (okp := fun _ => True) ?hr ?hp (fun _ hk => hk) trivial (Below.refl _ _) (Nat.le_refl _) (by simp) ?_; (case hd => rfl); (case hg => rfl); (case hr => first | (go_simp; done) | (go_simp; rfl)); (case hp => exact (Reps.c3 (show Kd.M k24 _ _ _ (⟨a1_0, a1_1, a1_2⟩ : S24) [.int .i64 a1_0, .int .i64 a1_1, .string a1_2] from (k24_mkM _ _ _ (⟨a1_0, a1_1, a1_2⟩ : S24) )) (Reps.c3 (show Kd.M k24 _ _ _ (⟨a2_0, a2_1, a2_2⟩ : S24) [.int .i64 a2_0, .int .i64 a2_1, .string a2_2] from (k24_mkM _ _ _ (⟨a2_0, a2_1, a2_2⟩ : S24) )) (Reps.c3 (show Kd.M k24 _ _ _ (⟨a3_0, a3_1, a3_2⟩ : S24) [.int .i64 a3_0, .int .i64 a3_1, .string a3_2] from (k24_mkM _ _ _ (⟨a3_0, a3_1, a3_2⟩ : S24) )) (Reps.c3 (show Kd.M k24 _ _ _ (⟨t244, t245, t246⟩ : S24) [.int .i64 t244, .int .i64 t245, .string t246] from (k24_mkM _ _ _ (⟨t244, t245, t246⟩ : S24) )) (Reps.c3 (show Kd.M k24 _ _ _ (⟨t248, t249, t250⟩ : S24) [.int .i64 t248, .int .i64 t249, .string t250] from (k24_mkM _ _ _ (⟨t248, t249, t250⟩ : S24) )) (Reps.none _ _)))))))
  intro v253 w15 ho16 hb hg_ hnew_
  clear hg_ hnew_
  (first | rw [← Ny252.out] at ho16 | (simp only [Int.reduceToNat] at ho16; rw [← Ny252.out] at ho16))
  have n0_ := Aside0.mk (Kd.R_lower (Kd.R_newB (Kd.R_newB (Kd.R_newB ho16 (g := gb238) (o := .cells #[.int .i64 a1_0, .int .i64 a1_1, .string a1_2] 24 (0, 0)) (by (with_reducible repeat (first | refine blk_drewN ?_ _ | refine blk_drew ?_ | refine blk_alloc ?_ _)); exact BK238.out)) (g := gb239) (o := .cells #[.int .i64 a2_0, .int .i64 a2_1, .string a2_2] 24 (0, 0)) (by (with_reducible repeat (first | refine blk_drewN ?_ _ | refine blk_drew ?_ | refine blk_alloc ?_ _)); exact BK239.out)) (g := gb240) (o := .cells #[.int .i64 a3_0, .int .i64 a3_1, .string a3_2] 24 (0, 0)) (by (with_reducible repeat (first | refine blk_drewN ?_ _ | refine blk_drew ?_ | refine blk_alloc ?_ _)); exact BK240.out)) (below_size (by repeat (first | (with_reducible first | exact HB.out | apply below_alloc | apply pw_below_drewN | apply below_drew1 | refine below_set ?_ (IsS75.ge HI243.out) | refine below_set ?_ GE238.out | refine below_set ?_ GE239.out | refine below_set ?_ GE240.out) | exact HB.out))))
  have n1_ := Aside0.mk (blk_below (g := gb238) (o := .cells #[.int .i64 a1_0, .int .i64 a1_1, .string a1_2] 24 (0, 0)) (by (with_reducible repeat (first | refine blk_drewN ?_ _ | refine blk_drew ?_ | refine blk_alloc ?_ _)); exact BK238.out) hb)
  have n2_ := Aside0.mk (blk_below (g := gb239) (o := .cells #[.int .i64 a2_0, .int .i64 a2_1, .string a2_2] 24 (0, 0)) (by (with_reducible repeat (first | refine blk_drewN ?_ _ | refine blk_drew ?_ | refine blk_alloc ?_ _)); exact BK239.out) hb)
  have n3_ := Aside0.mk (blk_below (g := gb240) (o := .cells #[.int .i64 a3_0, .int .i64 a3_1, .string a3_2] 24 (0, 0)) (by (with_reducible repeat (first | refine blk_drewN ?_ _ | refine blk_drew ?_ | refine blk_alloc ?_ _)); exact BK240.out) hb)
  have n4_ := Aside0.mk (IsS75.below (by repeat (first | (with_reducible first | exact HI243.out | apply IsS75.alloc | apply IsS75.drewN | apply IsS75.drew | apply IsS75.set_1 | refine IsS75.far ?_ NB243_238.out _ | refine IsS75.far ?_ NB243_239.out _ | refine IsS75.far ?_ NB243_240.out _) | exact HI243.out)) hb)
  have n5_ := Aside0.mk (below_step (by repeat (first | (with_reducible first | exact HB.out | apply below_alloc | apply pw_below_drewN | apply below_drew1 | refine below_set ?_ (IsS75.ge HI243.out) | refine below_set ?_ GE238.out | refine below_set ?_ GE239.out | refine below_set ?_ GE240.out) | exact HB.out)) hb)
  clear BK238
  clear BK239
  clear BK240
  clear HI243
  clear HB
  have HO254 := n0_
  have BK238 := n1_
  have BK239 := n2_
  have BK240 := n3_
  have HI243 := n4_
  have HB := n5_
  clear n0_ n1_ n2_ n3_ n4_ n5_
  clear hb ho16
  refine hK.out _ _ ⟨(blk_cell BK238.out 0).trans rfl, (blk_cell BK238.out 1).trans rfl, (blk_cell BK238.out 2).trans rfl, (blk_cell BK239.out 0).trans rfl, (blk_cell BK239.out 1).trans rfl, (blk_cell BK239.out 2).trans rfl, (blk_cell BK240.out 0).trans rfl, (blk_cell BK240.out 1).trans rfl, (blk_cell BK240.out 2).trans rfl⟩ (fun hHeld => ?_)
  clear hK K
  refine norm_ (a' := ?_) ?_ ?_
  rotate_left
  · show Act.put _ (some 27) _ = _
    simp only [Act.put, List.setIfInBounds_toArray, List.set_cons_zero, List.set_cons_succ, i64_w, i32_w]
    rfl
  refine pure_ (i := 8) (N := some 10) (v := ?_) (a' := ?_) #[true, true, true, true, true, true, true, true, true] rfl rfl (any_of HT_.out (by kernel_rfl)) (fun _ _ _ h => h) (Or.inl ⟨by rfl, ?_⟩) ?_ ?_
  rotate_left
  · intro w'
    go_simp
    with_reducible rfl
  rotate_left
  · simp only [Act.put, List.setIfInBounds_toArray, List.set_cons_zero, List.set_cons_succ, i64_w, i32_w]
    rfl
  refine done_ (done_of HT_.out (by kernel_rfl)) ?_
  obtain ⟨Ao17, co17, eo17⟩ := Kd.R_slice HO254.out
  subst eo17
  try go_wp2
  go_loopg [30] k (fun kq v30 w' => ∃ (x30_1 : Int), v30 = .int .i64 x30_1 ∧ Aside0 (partsynclaw01_ValueCompares.l0 kq y252 y252 (y252.length : Int) x30_1 = some r) ∧ Aside0 (kq ≤ k) ∧ Aside0 (Kd.R k24 24 w' w.heap.size (fun k_ => k_ ≠ gb238 ∧ k_ ≠ gb239 ∧ k_ ≠ gb240) (.slice Ao17 y252.length co17) y252) ∧ Aside0 (Kd.R k24 24 w' w.heap.size (fun k_ => k_ ≠ gb238 ∧ k_ ≠ gb239 ∧ k_ ≠ gb240) (.slice Ao17 y252.length co17) y252) ∧ Aside0 (w'.heap[gb238]? = some (.cells #[.int .i64 a1_0, .int .i64 a1_1, .string a1_2] 24 (0, 0))) ∧ Aside0 (w'.heap[gb239]? = some (.cells #[.int .i64 a2_0, .int .i64 a2_1, .string a2_2] 24 (0, 0))) ∧ Aside0 (w'.heap[gb240]? = some (.cells #[.int .i64 a3_0, .int .i64 a3_1, .string a3_2] 24 (0, 0))) ∧ Aside0 (Below w.heap.size w w'))
  case atStart => exact ⟨(0), (by first | rfl | (simp; done) | (simp [*]; done)), H', ⟨Nat.le_refl _⟩, ⟨by (with_reducible repeat (first | apply Kd.R_alloc | apply Kd.R_drewN | apply Kd.R_drew)); exact Kd.R_mono HO254.out (fun _ hk => ⟨hk.1.1.2, ⟨hk.1.2, hk.2⟩⟩)⟩, ⟨by (with_reducible repeat (first | apply Kd.R_alloc | apply Kd.R_drewN | apply Kd.R_drew)); exact Kd.R_mono HO254.out (fun _ hk => ⟨hk.1.1.2, ⟨hk.1.2, hk.2⟩⟩)⟩, ⟨by (with_reducible repeat (first | refine blk_drewN ?_ _ | refine blk_drew ?_ | refine blk_alloc ?_ _)); exact BK238.out⟩, ⟨by (with_reducible repeat (first | refine blk_drewN ?_ _ | refine blk_drew ?_ | refine blk_alloc ?_ _)); exact BK239.out⟩, ⟨by (with_reducible repeat (first | refine blk_drewN ?_ _ | refine blk_drew ?_ | refine blk_alloc ?_ _)); exact BK240.out⟩, ⟨by repeat (first | (with_reducible first | exact HB.out | apply below_alloc | apply pw_below_drewN | apply below_drew1 | refine below_set ?_ (IsS75.ge HI243.out) | refine below_set ?_ GE238.out | refine below_set ?_ GE239.out | refine below_set ?_ GE240.out) | exact HB.out)⟩⟩
  case round =>
    clear H'
    try clear c1
    try clear p2
    try clear c3
    try clear c4
    obtain ⟨x30_1, rfl, HA, HK1, HO_10, HO_28, BK238, BK239, BK240, HB⟩ := hrel
    cases gk with
    | zero => exact absurd HA.out (by simp [partsynclaw01_ValueCompares.l0])
    | succ k1 =>
      have H := HA.out
      clear HA
      simp only [partsynclaw01_ValueCompares.l0] at H
      by_cases c18 : x30_1 < (y252.length : Int)
      · rw [if_pos c18] at H
        have c18b0 : decide (x30_1 < (y252.length : Int)) = true := decide_eq_true c18
        clear c18
        by_cases c19 : 0 ≤ x30_1
        · rw [if_pos c19] at H
          have c19b0 : decide (0 ≤ x30_1) = true := decide_eq_true c19
          clear c19
          by_cases c20 : x30_1 < (y252.length : Int)
          · rw [if_pos c20] at H
            have c20b0 : decide (x30_1 < (y252.length : Int)) = true := decide_eq_true c20
            clear c20
            have H' := Aside0.mk H
            clear H
            have p256 : 0 ≤ (x30_1 : Int) := of_decide_eq_true (by first | (with_reducible assumption) | assumption)
            have q256 : x30_1 < (y252.length : Int) := of_decide_eq_true (by first | (with_reducible assumption) | assumption)
            obtain ⟨ad256, e256, hx256_0, hx256_1, hx256_2⟩ := at_T24 (Kd.R_reads' HO_28.out).2.2 x30_1 p256 q256
            cases e256
            replace p256 := eq_true p256
            replace q256 := eq_true q256
            go_wp2_with (first | ((with_reducible refine gate_dst (N := 12) rfl ?_); refine box_event ?hg (N := 12) ?hd (cs := #[.int .i64 0, .int .i64 0, .string (⟨#[]⟩ : ByteArray)]) (t := 24) ?hr ?_; (case hd => rfl); (case hg => rfl); (case hr => first | (go_simp; done) | (go_simp; rfl)); intro gb257 hg w21 hbox hb; have n0_ := Aside0.mk (Kd.R_below (Kd.R_elderB (by (with_reducible repeat (first | apply Kd.R_alloc | apply Kd.R_drewN | apply Kd.R_drew)); exact HO_10.out) gb257 (Nat.le_of_eq hg.symm)) hb); have n1_ := Aside0.mk (Kd.R_below (Kd.R_elderB (by (with_reducible repeat (first | apply Kd.R_alloc | apply Kd.R_drewN | apply Kd.R_drew)); exact HO_28.out) gb257 (Nat.le_of_eq hg.symm)) hb); have n2_ := Aside0.mk (blk_below (g := gb238) (o := .cells #[.int .i64 a1_0, .int .i64 a1_1, .string a1_2] 24 (0, 0)) (by (with_reducible repeat (first | refine blk_drewN ?_ _ | refine blk_drew ?_ | refine blk_alloc ?_ _)); exact BK238.out) hb); have n3_ := Aside0.mk (blk_below (g := gb239) (o := .cells #[.int .i64 a2_0, .int .i64 a2_1, .string a2_2] 24 (0, 0)) (by (with_reducible repeat (first | refine blk_drewN ?_ _ | refine blk_drew ?_ | refine blk_alloc ?_ _)); exact BK239.out) hb); have n4_ := Aside0.mk (blk_below (g := gb240) (o := .cells #[.int .i64 a3_0, .int .i64 a3_1, .string a3_2] 24 (0, 0)) (by (with_reducible repeat (first | refine blk_drewN ?_ _ | refine blk_drew ?_ | refine blk_alloc ?_ _)); exact BK240.out) hb); have n5_ := Aside0.mk (below_step (by repeat (first | (with_reducible first | exact HB.out | apply below_alloc | apply pw_below_drewN | apply below_drew1 | refine below_set ?_ GE238.out | refine below_set ?_ GE239.out | refine below_set ?_ GE240.out) | exact HB.out)) hb); have n6_ := Aside0.mk (hbox); have n7_ := Aside0.mk ((by rw [hg]; exact (below_size (by repeat (first | (with_reducible first | exact HB.out | apply below_alloc | apply pw_below_drewN | apply below_drew1 | refine below_set ?_ GE238.out | refine below_set ?_ GE239.out | refine below_set ?_ GE240.out) | exact HB.out))) : w.heap.size ≤ gb257)); have n8_ := Aside0.mk ((by rw [hg]; exact (below_size (by repeat (first | (with_reducible first | exact HB.out | apply below_alloc | apply pw_below_drewN | apply below_drew1 | refine below_set ?_ GE238.out | refine below_set ?_ GE239.out | refine below_set ?_ GE240.out) | exact HB.out))) : w.heap.size ≤ gb257)); have n9_ := Aside0.mk ((by rw [hg]; exact Nat.ne_of_lt (blk_lt (g := gb238) (o := .cells #[.int .i64 a1_0, .int .i64 a1_1, .string a1_2] 24 (0, 0)) (by (with_reducible repeat (first | refine blk_drewN ?_ _ | refine blk_drew ?_ | refine blk_alloc ?_ _)); exact BK238.out)) : gb238 ≠ gb257)); have n10_ := Aside0.mk ((by rw [hg]; exact Nat.ne_of_gt (blk_lt (g := gb238) (o := .cells #[.int .i64 a1_0, .int .i64 a1_1, .string a1_2] 24 (0, 0)) (by (with_reducible repeat (first | refine blk_drewN ?_ _ | refine blk_drew ?_ | refine blk_alloc ?_ _)); exact BK238.out)) : gb257 ≠ gb238)); have n11_ := Aside0.mk ((by rw [hg]; exact Nat.ne_of_lt (blk_lt (g := gb239) (o := .cells #[.int .i64 a2_0, .int .i64 a2_1, .string a2_2] 24 (0, 0)) (by (with_reducible repeat (first | refine blk_drewN ?_ _ | refine blk_drew ?_ | refine blk_alloc ?_ _)); exact BK239.out)) : gb239 ≠ gb257)); have n12_ := Aside0.mk ((by rw [hg]; exact Nat.ne_of_gt (blk_lt (g := gb239) (o := .cells #[.int .i64 a2_0, .int .i64 a2_1, .string a2_2] 24 (0, 0)) (by (with_reducible repeat (first | refine blk_drewN ?_ _ | refine blk_drew ?_ | refine blk_alloc ?_ _)); exact BK239.out)) : gb257 ≠ gb239)); have n13_ := Aside0.mk ((by rw [hg]; exact Nat.ne_of_lt (blk_lt (g := gb240) (o := .cells #[.int .i64 a3_0, .int .i64 a3_1, .string a3_2] 24 (0, 0)) (by (with_reducible repeat (first | refine blk_drewN ?_ _ | refine blk_drew ?_ | refine blk_alloc ?_ _)); exact BK240.out)) : gb240 ≠ gb257)); have n14_ := Aside0.mk ((by rw [hg]; exact Nat.ne_of_gt (blk_lt (g := gb240) (o := .cells #[.int .i64 a3_0, .int .i64 a3_1, .string a3_2] 24 (0, 0)) (by (with_reducible repeat (first | refine blk_drewN ?_ _ | refine blk_drew ?_ | refine blk_alloc ?_ _)); exact BK240.out)) : gb257 ≠ gb240)); clear HO_10; clear HO_28; clear BK238; clear BK239; clear BK240; clear HB; have HO_10 := n0_; have HO_28 := n1_; have BK238 := n2_; have BK239 := n3_; have BK240 := n4_; have HB := n5_; have BK257 := n6_; have GW257 := n7_; have GE257 := n8_; have NB238_257 := n9_; have NB257_238 := n10_; have NB239_257 := n11_; have NB257_239 := n12_; have NB240_257 := n13_; have NB257_240 := n14_; clear n0_ n1_ n2_ n3_ n4_ n5_ n6_ n7_ n8_ n9_ n10_ n11_ n12_ n13_ n14_; clear hb hbox hg; have hnb22 := NB257_238.out; have hnc22 := NB238_257.out; have hnb23 := NB257_239.out; have hnc23 := NB239_257.out; have hnb24 := NB257_240.out; have hnc24 := NB240_257.out; have hcz25_0 : w21.cell? ⟨gb257, 0, none⟩ = some (.int .i64 0) := (blk_cell BK257.out 0).trans rfl; have hcz25_1 : w21.cell? ⟨gb257, 1, none⟩ = some (.int .i64 0) := (blk_cell BK257.out 1).trans rfl; have hcz25_2 : w21.cell? ⟨gb257, 2, none⟩ = some (.string (⟨#[]⟩ : ByteArray)) := (blk_cell BK257.out 2).trans rfl; have hfz25_0 := blk_frozen BK257.out 0; have hfz25_1 := blk_frozen BK257.out 1; have hfz25_2 := blk_frozen BK257.out 2))
            go_loopg [36] k1 (fun kq v36 w' => ∃ (x36_2 : Int), v36 = .int .i64 x36_2 ∧ Aside0 (partsynclaw01_ValueCompares.l1 kq y252 y252 (y252.length : Int) x30_1 y252 (y252.length : Int) x36_2 ((rd_T24 y252 x30_1).f0) ((rd_T24 y252 x30_1).f1) ((rd_T24 y252 x30_1).f2) = some r) ∧ Aside0 (kq ≤ k1) ∧ Aside0 (Kd.R k24 24 w' w.heap.size (fun k_ => k_ ≠ gb238 ∧ k_ ≠ gb239 ∧ k_ ≠ gb240 ∧ k_ ≠ gb257) (.slice (some ad256) y252.length co17) y252) ∧ Aside0 (Kd.R k24 24 w' w.heap.size (fun k_ => k_ ≠ gb238 ∧ k_ ≠ gb239 ∧ k_ ≠ gb240 ∧ k_ ≠ gb257) (.slice (some ad256) y252.length co17) y252) ∧ Aside0 (Kd.R k24 24 w' w.heap.size (fun k_ => k_ ≠ gb238 ∧ k_ ≠ gb239 ∧ k_ ≠ gb240 ∧ k_ ≠ gb257) (.slice (some ad256) y252.length co17) y252) ∧ Aside0 (w'.heap[gb238]? = some (.cells #[.int .i64 a1_0, .int .i64 a1_1, .string a1_2] 24 (0, 0))) ∧ Aside0 (w'.heap[gb239]? = some (.cells #[.int .i64 a2_0, .int .i64 a2_1, .string a2_2] 24 (0, 0))) ∧ Aside0 (w'.heap[gb240]? = some (.cells #[.int .i64 a3_0, .int .i64 a3_1, .string a3_2] 24 (0, 0))) ∧ Aside0 (w'.heap[gb257]? = some (.cells #[.int .i64 ((rd_T24 y252 x30_1).f0), .int .i64 ((rd_T24 y252 x30_1).f1), .string ((rd_T24 y252 x30_1).f2)] 24 (0, 0))) ∧ Aside0 (Below w.heap.size w w'))
            case atStart => exact ⟨(0), (by first | rfl | (simp; done) | (simp [*]; done)), H', ⟨Nat.le_refl _⟩, ⟨by (with_reducible repeat (first | apply Kd.R_alloc | apply Kd.R_drewN | apply Kd.R_drew)); exact Kd.R_mono (Kd.R_far (p := ⟨gb257, 2, none⟩) (Kd.R_far (p := ⟨gb257, 1, none⟩) (Kd.R_far (p := ⟨gb257, 0, none⟩) (Kd.R_mono HO_10.out (fun k_ hk => (⟨hk, hk.2⟩ : _ ∧ k_ ≠ gb257))) (fun _ hk => hk.2) (.int .i64 ((rd_T24 y252 x30_1).f0))) (fun _ hk => hk.2) (.int .i64 ((rd_T24 y252 x30_1).f1))) (fun _ hk => hk.2) (.string ((rd_T24 y252 x30_1).f2))) (fun _ hk => ⟨hk.1.1.1, ⟨hk.1.1.2.1, ⟨hk.1.1.2.2, hk.1.2⟩⟩⟩)⟩, ⟨by (with_reducible repeat (first | apply Kd.R_alloc | apply Kd.R_drewN | apply Kd.R_drew)); exact Kd.R_mono (Kd.R_far (p := ⟨gb257, 2, none⟩) (Kd.R_far (p := ⟨gb257, 1, none⟩) (Kd.R_far (p := ⟨gb257, 0, none⟩) (Kd.R_mono HO_28.out (fun k_ hk => (⟨hk, hk.2⟩ : _ ∧ k_ ≠ gb257))) (fun _ hk => hk.2) (.int .i64 ((rd_T24 y252 x30_1).f0))) (fun _ hk => hk.2) (.int .i64 ((rd_T24 y252 x30_1).f1))) (fun _ hk => hk.2) (.string ((rd_T24 y252 x30_1).f2))) (fun _ hk => ⟨hk.1.1.1, ⟨hk.1.1.2.1, ⟨hk.1.1.2.2, hk.1.2⟩⟩⟩)⟩, ⟨by (with_reducible repeat (first | apply Kd.R_alloc | apply Kd.R_drewN | apply Kd.R_drew)); exact Kd.R_mono (Kd.R_far (p := ⟨gb257, 2, none⟩) (Kd.R_far (p := ⟨gb257, 1, none⟩) (Kd.R_far (p := ⟨gb257, 0, none⟩) (Kd.R_mono HO_10.out (fun k_ hk => (⟨hk, hk.2⟩ : _ ∧ k_ ≠ gb257))) (fun _ hk => hk.2) (.int .i64 ((rd_T24 y252 x30_1).f0))) (fun _ hk => hk.2) (.int .i64 ((rd_T24 y252 x30_1).f1))) (fun _ hk => hk.2) (.string ((rd_T24 y252 x30_1).f2))) (fun _ hk => ⟨hk.1.1.1, ⟨hk.1.1.2.1, ⟨hk.1.1.2.2, hk.1.2⟩⟩⟩)⟩, ⟨by (with_reducible repeat (first | refine blk_drewN ?_ _ | refine blk_drew ?_ | refine blk_alloc ?_ _)); refine blk_far ?_ NB238_257.out _; (with_reducible repeat (first | refine blk_drewN ?_ _ | refine blk_drew ?_ | refine blk_alloc ?_ _)); refine blk_far ?_ NB238_257.out _; (with_reducible repeat (first | refine blk_drewN ?_ _ | refine blk_drew ?_ | refine blk_alloc ?_ _)); refine blk_far ?_ NB238_257.out _; (with_reducible repeat (first | refine blk_drewN ?_ _ | refine blk_drew ?_ | refine blk_alloc ?_ _)); exact BK238.out⟩, ⟨by (with_reducible repeat (first | refine blk_drewN ?_ _ | refine blk_drew ?_ | refine blk_alloc ?_ _)); refine blk_far ?_ NB239_257.out _; (with_reducible repeat (first | refine blk_drewN ?_ _ | refine blk_drew ?_ | refine blk_alloc ?_ _)); refine blk_far ?_ NB239_257.out _; (with_reducible repeat (first | refine blk_drewN ?_ _ | refine blk_drew ?_ | refine blk_alloc ?_ _)); refine blk_far ?_ NB239_257.out _; (with_reducible repeat (first | refine blk_drewN ?_ _ | refine blk_drew ?_ | refine blk_alloc ?_ _)); exact BK239.out⟩, ⟨by (with_reducible repeat (first | refine blk_drewN ?_ _ | refine blk_drew ?_ | refine blk_alloc ?_ _)); refine blk_far ?_ NB240_257.out _; (with_reducible repeat (first | refine blk_drewN ?_ _ | refine blk_drew ?_ | refine blk_alloc ?_ _)); refine blk_far ?_ NB240_257.out _; (with_reducible repeat (first | refine blk_drewN ?_ _ | refine blk_drew ?_ | refine blk_alloc ?_ _)); refine blk_far ?_ NB240_257.out _; (with_reducible repeat (first | refine blk_drewN ?_ _ | refine blk_drew ?_ | refine blk_alloc ?_ _)); exact BK240.out⟩, ⟨by (with_reducible repeat (first | refine blk_drewN ?_ _ | refine blk_drew ?_ | refine blk_alloc ?_ _)); refine blk_put (cs := #[.int .i64 ((rd_T24 y252 x30_1).f0), .int .i64 ((rd_T24 y252 x30_1).f1), .string (⟨#[]⟩ : ByteArray)]) ?_ 2 _ rfl; (with_reducible repeat (first | refine blk_drewN ?_ _ | refine blk_drew ?_ | refine blk_alloc ?_ _)); refine blk_put (cs := #[.int .i64 ((rd_T24 y252 x30_1).f0), .int .i64 0, .string (⟨#[]⟩ : ByteArray)]) ?_ 1 _ rfl; (with_reducible repeat (first | refine blk_drewN ?_ _ | refine blk_drew ?_ | refine blk_alloc ?_ _)); refine blk_put (cs := #[.int .i64 0, .int .i64 0, .string (⟨#[]⟩ : ByteArray)]) ?_ 0 _ rfl; (with_reducible repeat (first | refine blk_drewN ?_ _ | refine blk_drew ?_ | refine blk_alloc ?_ _)); exact BK257.out⟩, ⟨by repeat (first | (with_reducible first | exact HB.out | apply below_alloc | apply pw_below_drewN | apply below_drew1 | refine below_set ?_ GE238.out | refine below_set ?_ GE239.out | refine below_set ?_ GE240.out | refine below_set ?_ GE257.out) | exact HB.out)⟩⟩
            case round =>
              clear H'
              try clear c1
              try clear c2
              try clear p2
              try clear q2
              try clear hx2
              try clear c3
              try clear c4
              try clear c18
              try clear c18b0
              try clear c19
              try clear c19b0
              try clear c20
              try clear c20b0
              try clear c22
              try clear c23
              try clear c24
              try clear p25
              try clear q25
              try clear hx25
              try clear hcz25_0
              try clear hcz25_1
              try clear hcz25_2
              try clear hfz25_0
              try clear hfz25_1
              try clear hfz25_2
              try clear hx256_0
              try clear hx256_1
              try clear hx256_2
              try clear p2
              try clear p256
              try clear q256
              obtain ⟨x36_2, rfl, HA, HK2, HO_10, HO_28, HO_34, BK238, BK239, BK240, BK257, HB⟩ := hrel
              cases gk with
              | zero => exact absurd HA.out (by simp [partsynclaw01_ValueCompares.l1])
              | succ k2 =>
                have H := HA.out
                clear HA
                simp only [partsynclaw01_ValueCompares.l1] at H
                by_cases c26 : x36_2 < (y252.length : Int)
                · rw [if_pos c26] at H
                  have c26b0 : decide (x36_2 < (y252.length : Int)) = true := decide_eq_true c26
                  clear c26
                  by_cases c27 : 0 ≤ x36_2
                  · rw [if_pos c27] at H
                    have c27b0 : decide (0 ≤ x36_2) = true := decide_eq_true c27
                    clear c27
                    by_cases c28 : x36_2 < (y252.length : Int)
                    · rw [if_pos c28] at H
                      have c28b0 : decide (x36_2 < (y252.length : Int)) = true := decide_eq_true c28
                      clear c28
                      replace H := Option.bind_eq_some_iff.mp H
                      obtain ⟨t260, A290, H⟩ := H
                      replace H : ((partsyncref01_Compare.f ((rd_T24 y252 x30_1).f0) ((rd_T24 y252 x30_1).f1) ((rd_T24 y252 x30_1).f2) ((rd_T24 y252 x36_2).f0) ((rd_T24 y252 x36_2).f1) ((rd_T24 y252 x36_2).f2)).bind fun t261 => (if t260 = t261 then ((value_Compare.f ((rd_T24 y252 x36_2).f0) ((rd_T24 y252 x36_2).f1) ((rd_T24 y252 x36_2).f2) ((rd_T24 y252 x30_1).f0) ((rd_T24 y252 x30_1).f1) ((rd_T24 y252 x30_1).f2)).bind fun t262 => (if t260 = (wrap64 (-t262)) then (partsynclaw01_ValueCompares.j2 k2 y252 t260 y252 (y252.length : Int) x30_1 y252 (y252.length : Int) x36_2 ((t260 == 0) != (((rd_T24 y252 x30_1).f0) == ((rd_T24 y252 x36_2).f0) && (((rd_T24 y252 x30_1).f1) == ((rd_T24 y252 x36_2).f1) && (((rd_T24 y252 x30_1).f2).toList == (((rd_T24 y252 x36_2).f2).toList))))) ((rd_T24 y252 x30_1).f0) ((rd_T24 y252 x30_1).f1) ((rd_T24 y252 x30_1).f2) ((rd_T24 y252 x36_2).f0) ((rd_T24 y252 x36_2).f1) ((rd_T24 y252 x36_2).f2)) else (partsynclaw01_ValueCompares.j2 k2 y252 t260 y252 (y252.length : Int) x30_1 y252 (y252.length : Int) x36_2 true ((rd_T24 y252 x30_1).f0) ((rd_T24 y252 x30_1).f1) ((rd_T24 y252 x30_1).f2) ((rd_T24 y252 x36_2).f0) ((rd_T24 y252 x36_2).f1) ((rd_T24 y252 x36_2).f2)))) else (partsynclaw01_ValueCompares.j2 k2 y252 t260 y252 (y252.length : Int) x30_1 y252 (y252.length : Int) x36_2 true ((rd_T24 y252 x30_1).f0) ((rd_T24 y252 x30_1).f1) ((rd_T24 y252 x30_1).f2) ((rd_T24 y252 x36_2).f0) ((rd_T24 y252 x36_2).f1) ((rd_T24 y252 x36_2).f2)))) = some r := H
                      have A29 := Aside0.mk A290
                      clear A290
                      have HC30 := Aside0.mk H
                      clear H
                      have p258 : 0 ≤ (x36_2 : Int) := of_decide_eq_true (by first | (with_reducible assumption) | assumption)
                      have q258 : x36_2 < (y252.length : Int) := of_decide_eq_true (by first | (with_reducible assumption) | assumption)
                      obtain ⟨ad258, e258, hx258_0, hx258_1, hx258_2⟩ := at_T24 (Kd.R_reads' HO_34.out).2.2 x36_2 p258 q258
                      obtain rfl : ad256 = ad258 := (by injection e258)
                      replace p258 := eq_true p258
                      replace q258 := eq_true q258
                      go_upto_region 10 with (first | ((with_reducible refine gate_dst (N := 14) rfl ?_); refine box_event ?hg (N := 14) ?hd (cs := #[.int .i64 0, .int .i64 0, .string (⟨#[]⟩ : ByteArray)]) (t := 24) ?hr ?_; (case hd => rfl); (case hg => rfl); (case hr => first | (go_simp; done) | (go_simp; rfl)); intro gb259 hg w31 hbox hb; have n0_ := Aside0.mk (Kd.R_below (Kd.R_elderB (by (with_reducible repeat (first | apply Kd.R_alloc | apply Kd.R_drewN | apply Kd.R_drew)); exact HO_10.out) gb259 (Nat.le_of_eq hg.symm)) hb); have n1_ := Aside0.mk (Kd.R_below (Kd.R_elderB (by (with_reducible repeat (first | apply Kd.R_alloc | apply Kd.R_drewN | apply Kd.R_drew)); exact HO_28.out) gb259 (Nat.le_of_eq hg.symm)) hb); have n2_ := Aside0.mk (Kd.R_below (Kd.R_elderB (by (with_reducible repeat (first | apply Kd.R_alloc | apply Kd.R_drewN | apply Kd.R_drew)); exact HO_34.out) gb259 (Nat.le_of_eq hg.symm)) hb); have n3_ := Aside0.mk (blk_below (g := gb238) (o := .cells #[.int .i64 a1_0, .int .i64 a1_1, .string a1_2] 24 (0, 0)) (by (with_reducible repeat (first | refine blk_drewN ?_ _ | refine blk_drew ?_ | refine blk_alloc ?_ _)); exact BK238.out) hb); have n4_ := Aside0.mk (blk_below (g := gb239) (o := .cells #[.int .i64 a2_0, .int .i64 a2_1, .string a2_2] 24 (0, 0)) (by (with_reducible repeat (first | refine blk_drewN ?_ _ | refine blk_drew ?_ | refine blk_alloc ?_ _)); exact BK239.out) hb); have n5_ := Aside0.mk (blk_below (g := gb240) (o := .cells #[.int .i64 a3_0, .int .i64 a3_1, .string a3_2] 24 (0, 0)) (by (with_reducible repeat (first | refine blk_drewN ?_ _ | refine blk_drew ?_ | refine blk_alloc ?_ _)); exact BK240.out) hb); have n6_ := Aside0.mk (blk_below (g := gb257) (o := .cells #[.int .i64 ((rd_T24 y252 x30_1).f0), .int .i64 ((rd_T24 y252 x30_1).f1), .string ((rd_T24 y252 x30_1).f2)] 24 (0, 0)) (by (with_reducible repeat (first | refine blk_drewN ?_ _ | refine blk_drew ?_ | refine blk_alloc ?_ _)); exact BK257.out) hb); have n7_ := Aside0.mk (below_step (by repeat (first | (with_reducible first | exact HB.out | apply below_alloc | apply pw_below_drewN | apply below_drew1 | refine below_set ?_ GE238.out | refine below_set ?_ GE239.out | refine below_set ?_ GE240.out | refine below_set ?_ GE257.out) | exact HB.out)) hb); have n8_ := Aside0.mk (hbox); have n9_ := Aside0.mk ((by rw [hg]; exact (below_size (by repeat (first | (with_reducible first | exact HB.out | apply below_alloc | apply pw_below_drewN | apply below_drew1 | refine below_set ?_ GE238.out | refine below_set ?_ GE239.out | refine below_set ?_ GE240.out | refine below_set ?_ GE257.out) | exact HB.out))) : w.heap.size ≤ gb259)); have n10_ := Aside0.mk ((by rw [hg]; exact (below_size (by repeat (first | (with_reducible first | exact HB.out | apply below_alloc | apply pw_below_drewN | apply below_drew1 | refine below_set ?_ GE238.out | refine below_set ?_ GE239.out | refine below_set ?_ GE240.out | refine below_set ?_ GE257.out) | exact HB.out))) : w.heap.size ≤ gb259)); have n11_ := Aside0.mk ((by rw [hg]; exact Nat.ne_of_lt (blk_lt (g := gb238) (o := .cells #[.int .i64 a1_0, .int .i64 a1_1, .string a1_2] 24 (0, 0)) (by (with_reducible repeat (first | refine blk_drewN ?_ _ | refine blk_drew ?_ | refine blk_alloc ?_ _)); exact BK238.out)) : gb238 ≠ gb259)); have n12_ := Aside0.mk ((by rw [hg]; exact Nat.ne_of_gt (blk_lt (g := gb238) (o := .cells #[.int .i64 a1_0, .int .i64 a1_1, .string a1_2] 24 (0, 0)) (by (with_reducible repeat (first | refine blk_drewN ?_ _ | refine blk_drew ?_ | refine blk_alloc ?_ _)); exact BK238.out)) : gb259 ≠ gb238)); have n13_ := Aside0.mk ((by rw [hg]; exact Nat.ne_of_lt (blk_lt (g := gb239) (o := .cells #[.int .i64 a2_0, .int .i64 a2_1, .string a2_2] 24 (0, 0)) (by (with_reducible repeat (first | refine blk_drewN ?_ _ | refine blk_drew ?_ | refine blk_alloc ?_ _)); exact BK239.out)) : gb239 ≠ gb259)); have n14_ := Aside0.mk ((by rw [hg]; exact Nat.ne_of_gt (blk_lt (g := gb239) (o := .cells #[.int .i64 a2_0, .int .i64 a2_1, .string a2_2] 24 (0, 0)) (by (with_reducible repeat (first | refine blk_drewN ?_ _ | refine blk_drew ?_ | refine blk_alloc ?_ _)); exact BK239.out)) : gb259 ≠ gb239)); have n15_ := Aside0.mk ((by rw [hg]; exact Nat.ne_of_lt (blk_lt (g := gb240) (o := .cells #[.int .i64 a3_0, .int .i64 a3_1, .string a3_2] 24 (0, 0)) (by (with_reducible repeat (first | refine blk_drewN ?_ _ | refine blk_drew ?_ | refine blk_alloc ?_ _)); exact BK240.out)) : gb240 ≠ gb259)); have n16_ := Aside0.mk ((by rw [hg]; exact Nat.ne_of_gt (blk_lt (g := gb240) (o := .cells #[.int .i64 a3_0, .int .i64 a3_1, .string a3_2] 24 (0, 0)) (by (with_reducible repeat (first | refine blk_drewN ?_ _ | refine blk_drew ?_ | refine blk_alloc ?_ _)); exact BK240.out)) : gb259 ≠ gb240)); have n17_ := Aside0.mk ((by rw [hg]; exact Nat.ne_of_lt (blk_lt (g := gb257) (o := .cells #[.int .i64 ((rd_T24 y252 x30_1).f0), .int .i64 ((rd_T24 y252 x30_1).f1), .string ((rd_T24 y252 x30_1).f2)] 24 (0, 0)) (by (with_reducible repeat (first | refine blk_drewN ?_ _ | refine blk_drew ?_ | refine blk_alloc ?_ _)); exact BK257.out)) : gb257 ≠ gb259)); have n18_ := Aside0.mk ((by rw [hg]; exact Nat.ne_of_gt (blk_lt (g := gb257) (o := .cells #[.int .i64 ((rd_T24 y252 x30_1).f0), .int .i64 ((rd_T24 y252 x30_1).f1), .string ((rd_T24 y252 x30_1).f2)] 24 (0, 0)) (by (with_reducible repeat (first | refine blk_drewN ?_ _ | refine blk_drew ?_ | refine blk_alloc ?_ _)); exact BK257.out)) : gb259 ≠ gb257)); clear HO_10; clear HO_28; clear HO_34; clear BK238; clear BK239; clear BK240; clear BK257; clear HB; have HO_10 := n0_; have HO_28 := n1_; have HO_34 := n2_; have BK238 := n3_; have BK239 := n4_; have BK240 := n5_; have BK257 := n6_; have HB := n7_; have BK259 := n8_; have GW259 := n9_; have GE259 := n10_; have NB238_259 := n11_; have NB259_238 := n12_; have NB239_259 := n13_; have NB259_239 := n14_; have NB240_259 := n15_; have NB259_240 := n16_; have NB257_259 := n17_; have NB259_257 := n18_; clear n0_ n1_ n2_ n3_ n4_ n5_ n6_ n7_ n8_ n9_ n10_ n11_ n12_ n13_ n14_ n15_ n16_ n17_ n18_; clear hb hbox hg; have hnb32 := NB259_238.out; have hnc32 := NB238_259.out; have hnb33 := NB259_239.out; have hnc33 := NB239_259.out; have hnb34 := NB259_240.out; have hnc34 := NB240_259.out; have hnb35 := NB259_257.out; have hnc35 := NB257_259.out; have hcz36_0 : w31.cell? ⟨gb259, 0, none⟩ = some (.int .i64 0) := (blk_cell BK259.out 0).trans rfl; have hcz36_1 : w31.cell? ⟨gb259, 1, none⟩ = some (.int .i64 0) := (blk_cell BK259.out 1).trans rfl; have hcz36_2 : w31.cell? ⟨gb259, 2, none⟩ = some (.string (⟨#[]⟩ : ByteArray)) := (blk_cell BK259.out 2).trans rfl; have hfz36_0 := blk_frozen BK259.out 0; have hfz36_1 := blk_frozen BK259.out 1; have hfz36_2 := blk_frozen BK259.out 2; have hnb37 := NB257_238.out; have hnc37 := NB238_257.out; have hnb38 := NB257_239.out; have hnc38 := NB239_257.out; have hnb39 := NB257_240.out; have hnc39 := NB240_257.out; have hcz40_0 : w31.cell? ⟨gb257, 0, none⟩ = some (.int .i64 ((rd_T24 y252 x30_1).f0)) := (blk_cell BK257.out 0).trans rfl; have hcz40_1 : w31.cell? ⟨gb257, 1, none⟩ = some (.int .i64 ((rd_T24 y252 x30_1).f1)) := (blk_cell BK257.out 1).trans rfl; have hcz40_2 : w31.cell? ⟨gb257, 2, none⟩ = some (.string ((rd_T24 y252 x30_1).f2)) := (blk_cell BK257.out 2).trans rfl; have hfz40_0 := blk_frozen BK257.out 0; have hfz40_1 := blk_frozen BK257.out 1; have hfz40_2 := blk_frozen BK257.out 2) | ((with_reducible refine gate_callee (f := 25) rfl ?_); refine goesL_ (some 42) rfl rfl Try.func25 (by kernel_rfl) rfl #[.agg #[.int .i64 ((rd_T24 y252 x30_1).f0), .int .i64 ((rd_T24 y252 x30_1).f1), .string ((rd_T24 y252 x30_1).f2)], .agg #[.int .i64 ((rd_T24 y252 x36_2).f0), .int .i64 ((rd_T24 y252 x36_2).f1), .string ((rd_T24 y252 x36_2).f2)]] rfl (by (try simp only [List.map_toArray, List.map_cons, List.map_nil]); first | done | rfl | (simp only [List.length_drop, List.length_take]; rfl)) ?_; (with_reducible refine (value_Compare.calls ((rd_T24 y252 x30_1).f0) ((rd_T24 y252 x30_1).f1) ((rd_T24 y252 x30_1).f2) ((rd_T24 y252 x36_2).f0) ((rd_T24 y252 x36_2).f1) ((rd_T24 y252 x36_2).f2) t260 _ A29.out).mono ?_); rintro e w41 ⟨rfl, hb⟩; refine ⟨_, rfl, ?_⟩; have n0_ := Aside0.mk (Kd.R_below (by (with_reducible repeat (first | apply Kd.R_alloc | apply Kd.R_drewN | apply Kd.R_drew)); exact (Kd.R_mono (Kd.R_far (p := ⟨gb259, 2, none⟩) (Kd.R_far (p := ⟨gb259, 1, none⟩) (Kd.R_far (p := ⟨gb259, 0, none⟩) (Kd.R_mono HO_10.out (fun k_ hk => (⟨hk, hk.2⟩ : _ ∧ k_ ≠ gb259))) (fun _ hk => hk.2) (.int .i64 ((rd_T24 y252 x36_2).f0))) (fun _ hk => hk.2) (.int .i64 ((rd_T24 y252 x36_2).f1))) (fun _ hk => hk.2) (.string ((rd_T24 y252 x36_2).f2))) (fun _ h_ => h_.1))) hb); have n1_ := Aside0.mk (Kd.R_below (by (with_reducible repeat (first | apply Kd.R_alloc | apply Kd.R_drewN | apply Kd.R_drew)); exact (Kd.R_mono (Kd.R_far (p := ⟨gb259, 2, none⟩) (Kd.R_far (p := ⟨gb259, 1, none⟩) (Kd.R_far (p := ⟨gb259, 0, none⟩) (Kd.R_mono HO_28.out (fun k_ hk => (⟨hk, hk.2⟩ : _ ∧ k_ ≠ gb259))) (fun _ hk => hk.2) (.int .i64 ((rd_T24 y252 x36_2).f0))) (fun _ hk => hk.2) (.int .i64 ((rd_T24 y252 x36_2).f1))) (fun _ hk => hk.2) (.string ((rd_T24 y252 x36_2).f2))) (fun _ h_ => h_.1))) hb); have n2_ := Aside0.mk (Kd.R_below (by (with_reducible repeat (first | apply Kd.R_alloc | apply Kd.R_drewN | apply Kd.R_drew)); exact (Kd.R_mono (Kd.R_far (p := ⟨gb259, 2, none⟩) (Kd.R_far (p := ⟨gb259, 1, none⟩) (Kd.R_far (p := ⟨gb259, 0, none⟩) (Kd.R_mono HO_34.out (fun k_ hk => (⟨hk, hk.2⟩ : _ ∧ k_ ≠ gb259))) (fun _ hk => hk.2) (.int .i64 ((rd_T24 y252 x36_2).f0))) (fun _ hk => hk.2) (.int .i64 ((rd_T24 y252 x36_2).f1))) (fun _ hk => hk.2) (.string ((rd_T24 y252 x36_2).f2))) (fun _ h_ => h_.1))) hb); have n3_ := Aside0.mk (blk_below (g := gb238) (o := .cells #[.int .i64 a1_0, .int .i64 a1_1, .string a1_2] 24 (0, 0)) (by (with_reducible repeat (first | refine blk_drewN ?_ _ | refine blk_drew ?_ | refine blk_alloc ?_ _)); refine blk_far ?_ NB238_259.out _; (with_reducible repeat (first | refine blk_drewN ?_ _ | refine blk_drew ?_ | refine blk_alloc ?_ _)); refine blk_far ?_ NB238_259.out _; (with_reducible repeat (first | refine blk_drewN ?_ _ | refine blk_drew ?_ | refine blk_alloc ?_ _)); refine blk_far ?_ NB238_259.out _; (with_reducible repeat (first | refine blk_drewN ?_ _ | refine blk_drew ?_ | refine blk_alloc ?_ _)); exact BK238.out) hb); have n4_ := Aside0.mk (blk_below (g := gb239) (o := .cells #[.int .i64 a2_0, .int .i64 a2_1, .string a2_2] 24 (0, 0)) (by (with_reducible repeat (first | refine blk_drewN ?_ _ | refine blk_drew ?_ | refine blk_alloc ?_ _)); refine blk_far ?_ NB239_259.out _; (with_reducible repeat (first | refine blk_drewN ?_ _ | refine blk_drew ?_ | refine blk_alloc ?_ _)); refine blk_far ?_ NB239_259.out _; (with_reducible repeat (first | refine blk_drewN ?_ _ | refine blk_drew ?_ | refine blk_alloc ?_ _)); refine blk_far ?_ NB239_259.out _; (with_reducible repeat (first | refine blk_drewN ?_ _ | refine blk_drew ?_ | refine blk_alloc ?_ _)); exact BK239.out) hb); have n5_ := Aside0.mk (blk_below (g := gb240) (o := .cells #[.int .i64 a3_0, .int .i64 a3_1, .string a3_2] 24 (0, 0)) (by (with_reducible repeat (first | refine blk_drewN ?_ _ | refine blk_drew ?_ | refine blk_alloc ?_ _)); refine blk_far ?_ NB240_259.out _; (with_reducible repeat (first | refine blk_drewN ?_ _ | refine blk_drew ?_ | refine blk_alloc ?_ _)); refine blk_far ?_ NB240_259.out _; (with_reducible repeat (first | refine blk_drewN ?_ _ | refine blk_drew ?_ | refine blk_alloc ?_ _)); refine blk_far ?_ NB240_259.out _; (with_reducible repeat (first | refine blk_drewN ?_ _ | refine blk_drew ?_ | refine blk_alloc ?_ _)); exact BK240.out) hb); have n6_ := Aside0.mk (blk_below (g := gb257) (o := .cells #[.int .i64 ((rd_T24 y252 x30_1).f0), .int .i64 ((rd_T24 y252 x30_1).f1), .string ((rd_T24 y252 x30_1).f2)] 24 (0, 0)) (by (with_reducible repeat (first | refine blk_drewN ?_ _ | refine blk_drew ?_ | refine blk_alloc ?_ _)); refine blk_far ?_ NB257_259.out _; (with_reducible repeat (first | refine blk_drewN ?_ _ | refine blk_drew ?_ | refine blk_alloc ?_ _)); refine blk_far ?_ NB257_259.out _; (with_reducible repeat (first | refine blk_drewN ?_ _ | refine blk_drew ?_ | refine blk_alloc ?_ _)); refine blk_far ?_ NB257_259.out _; (with_reducible repeat (first | refine blk_drewN ?_ _ | refine blk_drew ?_ | refine blk_alloc ?_ _)); exact BK257.out) hb); have n7_ := Aside0.mk (blk_below (g := gb259) (o := .cells #[.int .i64 ((rd_T24 y252 x36_2).f0), .int .i64 ((rd_T24 y252 x36_2).f1), .string ((rd_T24 y252 x36_2).f2)] 24 (0, 0)) (by (with_reducible repeat (first | refine blk_drewN ?_ _ | refine blk_drew ?_ | refine blk_alloc ?_ _)); refine blk_put (cs := #[.int .i64 ((rd_T24 y252 x36_2).f0), .int .i64 ((rd_T24 y252 x36_2).f1), .string (⟨#[]⟩ : ByteArray)]) ?_ 2 _ rfl; (with_reducible repeat (first | refine blk_drewN ?_ _ | refine blk_drew ?_ | refine blk_alloc ?_ _)); refine blk_put (cs := #[.int .i64 ((rd_T24 y252 x36_2).f0), .int .i64 0, .string (⟨#[]⟩ : ByteArray)]) ?_ 1 _ rfl; (with_reducible repeat (first | refine blk_drewN ?_ _ | refine blk_drew ?_ | refine blk_alloc ?_ _)); refine blk_put (cs := #[.int .i64 0, .int .i64 0, .string (⟨#[]⟩ : ByteArray)]) ?_ 0 _ rfl; (with_reducible repeat (first | refine blk_drewN ?_ _ | refine blk_drew ?_ | refine blk_alloc ?_ _)); exact BK259.out) hb); have n8_ := Aside0.mk (below_step (by repeat (first | (with_reducible first | exact HB.out | apply below_alloc | apply pw_below_drewN | apply below_drew1 | refine below_set ?_ GE238.out | refine below_set ?_ GE239.out | refine below_set ?_ GE240.out | refine below_set ?_ GE257.out | refine below_set ?_ GE259.out) | exact HB.out)) hb); clear HO_10; clear HO_28; clear HO_34; clear BK238; clear BK239; clear BK240; clear BK257; clear BK259; clear HB; have HO_10 := n0_; have HO_28 := n1_; have HO_34 := n2_; have BK238 := n3_; have BK239 := n4_; have BK240 := n5_; have BK257 := n6_; have BK259 := n7_; have HB := n8_; clear n0_ n1_ n2_ n3_ n4_ n5_ n6_ n7_ n8_; (try clear hb); (try clear hb2); (try clear hk); (try clear hi)))
                      (try simp only [Act.put, List.setIfInBounds_toArray, List.set_cons_zero, List.set_cons_succ])
                      go_cut [63] (fun v63 wc => ∃ (kq : Nat) (x63_29 : Bool), v63 = .bool x63_29 ∧ Aside0 (partsynclaw01_ValueCompares.j2 kq y252 t260 y252 (y252.length : Int) x30_1 y252 (y252.length : Int) x36_2 x63_29 ((rd_T24 y252 x30_1).f0) ((rd_T24 y252 x30_1).f1) ((rd_T24 y252 x30_1).f2) ((rd_T24 y252 x36_2).f0) ((rd_T24 y252 x36_2).f1) ((rd_T24 y252 x36_2).f2) = some r) ∧ Aside0 (kq ≤ k2) ∧ Aside0 (Kd.R k24 24 wc w.heap.size (fun k_ => k_ ≠ gb238 ∧ k_ ≠ gb239 ∧ k_ ≠ gb240 ∧ k_ ≠ gb257 ∧ k_ ≠ gb259) (.slice (some ad256) y252.length co17) y252) ∧ Aside0 (Kd.R k24 24 wc w.heap.size (fun k_ => k_ ≠ gb238 ∧ k_ ≠ gb239 ∧ k_ ≠ gb240 ∧ k_ ≠ gb257 ∧ k_ ≠ gb259) (.slice (some ad256) y252.length co17) y252) ∧ Aside0 (Kd.R k24 24 wc w.heap.size (fun k_ => k_ ≠ gb238 ∧ k_ ≠ gb239 ∧ k_ ≠ gb240 ∧ k_ ≠ gb257 ∧ k_ ≠ gb259) (.slice (some ad256) y252.length co17) y252) ∧ Aside0 (wc.heap[gb238]? = some (.cells #[.int .i64 a1_0, .int .i64 a1_1, .string a1_2] 24 (0, 0))) ∧ Aside0 (wc.heap[gb239]? = some (.cells #[.int .i64 a2_0, .int .i64 a2_1, .string a2_2] 24 (0, 0))) ∧ Aside0 (wc.heap[gb240]? = some (.cells #[.int .i64 a3_0, .int .i64 a3_1, .string a3_2] 24 (0, 0))) ∧ Aside0 (wc.heap[gb257]? = some (.cells #[.int .i64 ((rd_T24 y252 x30_1).f0), .int .i64 ((rd_T24 y252 x30_1).f1), .string ((rd_T24 y252 x30_1).f2)] 24 (0, 0))) ∧ Aside0 (wc.heap[gb259]? = some (.cells #[.int .i64 ((rd_T24 y252 x36_2).f0), .int .i64 ((rd_T24 y252 x36_2).f1), .string ((rd_T24 y252 x36_2).f2)] 24 (0, 0))) ∧ Aside0 (Below w.heap.size w wc))
                      case first =>
                        have H := HC30.out
                        clear HC30
                        replace H := Option.bind_eq_some_iff.mp H
                        obtain ⟨t261, A420, H⟩ := H
                        replace H : (if t260 = t261 then ((value_Compare.f ((rd_T24 y252 x36_2).f0) ((rd_T24 y252 x36_2).f1) ((rd_T24 y252 x36_2).f2) ((rd_T24 y252 x30_1).f0) ((rd_T24 y252 x30_1).f1) ((rd_T24 y252 x30_1).f2)).bind fun t262 => (if t260 = (wrap64 (-t262)) then (partsynclaw01_ValueCompares.j2 k2 y252 t260 y252 (y252.length : Int) x30_1 y252 (y252.length : Int) x36_2 ((t260 == 0) != (((rd_T24 y252 x30_1).f0) == ((rd_T24 y252 x36_2).f0) && (((rd_T24 y252 x30_1).f1) == ((rd_T24 y252 x36_2).f1) && (((rd_T24 y252 x30_1).f2).toList == (((rd_T24 y252 x36_2).f2).toList))))) ((rd_T24 y252 x30_1).f0) ((rd_T24 y252 x30_1).f1) ((rd_T24 y252 x30_1).f2) ((rd_T24 y252 x36_2).f0) ((rd_T24 y252 x36_2).f1) ((rd_T24 y252 x36_2).f2)) else (partsynclaw01_ValueCompares.j2 k2 y252 t260 y252 (y252.length : Int) x30_1 y252 (y252.length : Int) x36_2 true ((rd_T24 y252 x30_1).f0) ((rd_T24 y252 x30_1).f1) ((rd_T24 y252 x30_1).f2) ((rd_T24 y252 x36_2).f0) ((rd_T24 y252 x36_2).f1) ((rd_T24 y252 x36_2).f2)))) else (partsynclaw01_ValueCompares.j2 k2 y252 t260 y252 (y252.length : Int) x30_1 y252 (y252.length : Int) x36_2 true ((rd_T24 y252 x30_1).f0) ((rd_T24 y252 x30_1).f1) ((rd_T24 y252 x30_1).f2) ((rd_T24 y252 x36_2).f0) ((rd_T24 y252 x36_2).f1) ((rd_T24 y252 x36_2).f2))) = some r := H
                        have A42 := Aside0.mk A420
                        clear A420
                        by_cases c43 : t260 = t261
                        · rw [if_pos c43] at H
                          have c43b0 : (t260 == t261) = true := beq_iff_eq.mpr c43
                          have c43b1 : (t260 != t261) = false := bne_eq_false_iff_eq.mpr c43
                          clear c43
                          (first | rw [c43b0] | (simp only [i64_w, i32_w]; rw [c43b0]) | skip)
                          replace H := Option.bind_eq_some_iff.mp H
                          obtain ⟨t262, A440, H⟩ := H
                          replace H : (if t260 = (wrap64 (-t262)) then (partsynclaw01_ValueCompares.j2 k2 y252 t260 y252 (y252.length : Int) x30_1 y252 (y252.length : Int) x36_2 ((t260 == 0) != (((rd_T24 y252 x30_1).f0) == ((rd_T24 y252 x36_2).f0) && (((rd_T24 y252 x30_1).f1) == ((rd_T24 y252 x36_2).f1) && (((rd_T24 y252 x30_1).f2).toList == (((rd_T24 y252 x36_2).f2).toList))))) ((rd_T24 y252 x30_1).f0) ((rd_T24 y252 x30_1).f1) ((rd_T24 y252 x30_1).f2) ((rd_T24 y252 x36_2).f0) ((rd_T24 y252 x36_2).f1) ((rd_T24 y252 x36_2).f2)) else (partsynclaw01_ValueCompares.j2 k2 y252 t260 y252 (y252.length : Int) x30_1 y252 (y252.length : Int) x36_2 true ((rd_T24 y252 x30_1).f0) ((rd_T24 y252 x30_1).f1) ((rd_T24 y252 x30_1).f2) ((rd_T24 y252 x36_2).f0) ((rd_T24 y252 x36_2).f1) ((rd_T24 y252 x36_2).f2))) = some r := H
                          have A44 := Aside0.mk A440
                          clear A440
                          by_cases c45 : t260 = (wrap64 (-t262))
                          · rw [if_pos c45] at H
                            have c45b0 : (t260 == (wrap64 (-t262))) = true := beq_iff_eq.mpr c45
                            have c45b1 : (t260 != (wrap64 (-t262))) = false := bne_eq_false_iff_eq.mpr c45
                            clear c45
                            have H' := Aside0.mk H
                            clear H
                            have hnb46 := NB257_238.out
                            have hnc46 := NB238_257.out
                            have hnb47 := NB257_239.out
                            have hnc47 := NB239_257.out
                            have hnb48 := NB257_240.out
                            have hnc48 := NB240_257.out
                            have hnb49 := NB257_259.out
                            have hnc49 := NB259_257.out
                            have hcz50_0 : w41.cell? ⟨gb257, 0, none⟩ = some (.int .i64 ((rd_T24 y252 x30_1).f0)) := (blk_cell BK257.out 0).trans rfl
                            have hcz50_1 : w41.cell? ⟨gb257, 1, none⟩ = some (.int .i64 ((rd_T24 y252 x30_1).f1)) := (blk_cell BK257.out 1).trans rfl
                            have hcz50_2 : w41.cell? ⟨gb257, 2, none⟩ = some (.string ((rd_T24 y252 x30_1).f2)) := (blk_cell BK257.out 2).trans rfl
                            have hfz50_0 := blk_frozen BK257.out 0
                            have hfz50_1 := blk_frozen BK257.out 1
                            have hfz50_2 := blk_frozen BK257.out 2
                            have hnb51 := NB259_238.out
                            have hnc51 := NB238_259.out
                            have hnb52 := NB259_239.out
                            have hnc52 := NB239_259.out
                            have hnb53 := NB259_240.out
                            have hnc53 := NB240_259.out
                            have hcz54_0 : w41.cell? ⟨gb259, 0, none⟩ = some (.int .i64 ((rd_T24 y252 x36_2).f0)) := (blk_cell BK259.out 0).trans rfl
                            have hcz54_1 : w41.cell? ⟨gb259, 1, none⟩ = some (.int .i64 ((rd_T24 y252 x36_2).f1)) := (blk_cell BK259.out 1).trans rfl
                            have hcz54_2 : w41.cell? ⟨gb259, 2, none⟩ = some (.string ((rd_T24 y252 x36_2).f2)) := (blk_cell BK259.out 2).trans rfl
                            have hfz54_0 := blk_frozen BK259.out 0
                            have hfz54_1 := blk_frozen BK259.out 1
                            have hfz54_2 := blk_frozen BK259.out 2
                            go_wp2_with (first | ((with_reducible refine gate_callee (f := 26) rfl ?_); refine goesL_ (some 46) rfl rfl Try.func26 (by kernel_rfl) rfl #[.agg #[.int .i64 ((rd_T24 y252 x30_1).f0), .int .i64 ((rd_T24 y252 x30_1).f1), .string ((rd_T24 y252 x30_1).f2)], .agg #[.int .i64 ((rd_T24 y252 x36_2).f0), .int .i64 ((rd_T24 y252 x36_2).f1), .string ((rd_T24 y252 x36_2).f2)]] rfl (by (try simp only [List.map_toArray, List.map_cons, List.map_nil]); first | done | rfl | (simp only [List.length_drop, List.length_take]; rfl)) ?_; (with_reducible refine (partsyncref01_Compare.calls ((rd_T24 y252 x30_1).f0) ((rd_T24 y252 x30_1).f1) ((rd_T24 y252 x30_1).f2) ((rd_T24 y252 x36_2).f0) ((rd_T24 y252 x36_2).f1) ((rd_T24 y252 x36_2).f2) t261 _ A42.out).mono ?_); rintro e w55 ⟨rfl, hb⟩; refine ⟨_, rfl, ?_⟩; have n0_ := Aside0.mk (Kd.R_below (by (with_reducible repeat (first | apply Kd.R_alloc | apply Kd.R_drewN | apply Kd.R_drew)); exact HO_10.out) hb); have n1_ := Aside0.mk (Kd.R_below (by (with_reducible repeat (first | apply Kd.R_alloc | apply Kd.R_drewN | apply Kd.R_drew)); exact HO_28.out) hb); have n2_ := Aside0.mk (Kd.R_below (by (with_reducible repeat (first | apply Kd.R_alloc | apply Kd.R_drewN | apply Kd.R_drew)); exact HO_34.out) hb); have n3_ := Aside0.mk (blk_below (g := gb238) (o := .cells #[.int .i64 a1_0, .int .i64 a1_1, .string a1_2] 24 (0, 0)) (by (with_reducible repeat (first | refine blk_drewN ?_ _ | refine blk_drew ?_ | refine blk_alloc ?_ _)); exact BK238.out) hb); have n4_ := Aside0.mk (blk_below (g := gb239) (o := .cells #[.int .i64 a2_0, .int .i64 a2_1, .string a2_2] 24 (0, 0)) (by (with_reducible repeat (first | refine blk_drewN ?_ _ | refine blk_drew ?_ | refine blk_alloc ?_ _)); exact BK239.out) hb); have n5_ := Aside0.mk (blk_below (g := gb240) (o := .cells #[.int .i64 a3_0, .int .i64 a3_1, .string a3_2] 24 (0, 0)) (by (with_reducible repeat (first | refine blk_drewN ?_ _ | refine blk_drew ?_ | refine blk_alloc ?_ _)); exact BK240.out) hb); have n6_ := Aside0.mk (blk_below (g := gb257) (o := .cells #[.int .i64 ((rd_T24 y252 x30_1).f0), .int .i64 ((rd_T24 y252 x30_1).f1), .string ((rd_T24 y252 x30_1).f2)] 24 (0, 0)) (by (with_reducible repeat (first | refine blk_drewN ?_ _ | refine blk_drew ?_ | refine blk_alloc ?_ _)); exact BK257.out) hb); have n7_ := Aside0.mk (blk_below (g := gb259) (o := .cells #[.int .i64 ((rd_T24 y252 x36_2).f0), .int .i64 ((rd_T24 y252 x36_2).f1), .string ((rd_T24 y252 x36_2).f2)] 24 (0, 0)) (by (with_reducible repeat (first | refine blk_drewN ?_ _ | refine blk_drew ?_ | refine blk_alloc ?_ _)); exact BK259.out) hb); have n8_ := Aside0.mk (below_step (by repeat (first | (with_reducible first | exact HB.out | apply below_alloc | apply pw_below_drewN | apply below_drew1 | refine below_set ?_ GE238.out | refine below_set ?_ GE239.out | refine below_set ?_ GE240.out | refine below_set ?_ GE257.out | refine below_set ?_ GE259.out) | exact HB.out)) hb); clear HO_10; clear HO_28; clear HO_34; clear BK238; clear BK239; clear BK240; clear BK257; clear BK259; clear HB; have HO_10 := n0_; have HO_28 := n1_; have HO_34 := n2_; have BK238 := n3_; have BK239 := n4_; have BK240 := n5_; have BK257 := n6_; have BK259 := n7_; have HB := n8_; clear n0_ n1_ n2_ n3_ n4_ n5_ n6_ n7_ n8_; (try clear hb); (try clear hb2); (try clear hk); (try clear hi); have hcz56_0 : w55.cell? ⟨gb259, 0, none⟩ = some (.int .i64 ((rd_T24 y252 x36_2).f0)) := (blk_cell BK259.out 0).trans rfl; have hcz56_1 : w55.cell? ⟨gb259, 1, none⟩ = some (.int .i64 ((rd_T24 y252 x36_2).f1)) := (blk_cell BK259.out 1).trans rfl; have hcz56_2 : w55.cell? ⟨gb259, 2, none⟩ = some (.string ((rd_T24 y252 x36_2).f2)) := (blk_cell BK259.out 2).trans rfl; have hfz56_0 := blk_frozen BK259.out 0; have hfz56_1 := blk_frozen BK259.out 1; have hfz56_2 := blk_frozen BK259.out 2; have hcz57_0 : w55.cell? ⟨gb257, 0, none⟩ = some (.int .i64 ((rd_T24 y252 x30_1).f0)) := (blk_cell BK257.out 0).trans rfl; have hcz57_1 : w55.cell? ⟨gb257, 1, none⟩ = some (.int .i64 ((rd_T24 y252 x30_1).f1)) := (blk_cell BK257.out 1).trans rfl; have hcz57_2 : w55.cell? ⟨gb257, 2, none⟩ = some (.string ((rd_T24 y252 x30_1).f2)) := (blk_cell BK257.out 2).trans rfl; have hfz57_0 := blk_frozen BK257.out 0; have hfz57_1 := blk_frozen BK257.out 1; have hfz57_2 := blk_frozen BK257.out 2) | (go_at_call 25; (with_reducible refine (value_Compare.calls ((rd_T24 y252 x36_2).f0) ((rd_T24 y252 x36_2).f1) ((rd_T24 y252 x36_2).f2) ((rd_T24 y252 x30_1).f0) ((rd_T24 y252 x30_1).f1) ((rd_T24 y252 x30_1).f2) t262 _ A44.out).mono ?_); rintro e w58 ⟨rfl, hb⟩; have n0_ := Aside0.mk (Kd.R_below (by (with_reducible repeat (first | apply Kd.R_alloc | apply Kd.R_drewN | apply Kd.R_drew)); exact HO_10.out) hb); have n1_ := Aside0.mk (Kd.R_below (by (with_reducible repeat (first | apply Kd.R_alloc | apply Kd.R_drewN | apply Kd.R_drew)); exact HO_28.out) hb); have n2_ := Aside0.mk (Kd.R_below (by (with_reducible repeat (first | apply Kd.R_alloc | apply Kd.R_drewN | apply Kd.R_drew)); exact HO_34.out) hb); have n3_ := Aside0.mk (blk_below (g := gb238) (o := .cells #[.int .i64 a1_0, .int .i64 a1_1, .string a1_2] 24 (0, 0)) (by (with_reducible repeat (first | refine blk_drewN ?_ _ | refine blk_drew ?_ | refine blk_alloc ?_ _)); exact BK238.out) hb); have n4_ := Aside0.mk (blk_below (g := gb239) (o := .cells #[.int .i64 a2_0, .int .i64 a2_1, .string a2_2] 24 (0, 0)) (by (with_reducible repeat (first | refine blk_drewN ?_ _ | refine blk_drew ?_ | refine blk_alloc ?_ _)); exact BK239.out) hb); have n5_ := Aside0.mk (blk_below (g := gb240) (o := .cells #[.int .i64 a3_0, .int .i64 a3_1, .string a3_2] 24 (0, 0)) (by (with_reducible repeat (first | refine blk_drewN ?_ _ | refine blk_drew ?_ | refine blk_alloc ?_ _)); exact BK240.out) hb); have n6_ := Aside0.mk (blk_below (g := gb257) (o := .cells #[.int .i64 ((rd_T24 y252 x30_1).f0), .int .i64 ((rd_T24 y252 x30_1).f1), .string ((rd_T24 y252 x30_1).f2)] 24 (0, 0)) (by (with_reducible repeat (first | refine blk_drewN ?_ _ | refine blk_drew ?_ | refine blk_alloc ?_ _)); exact BK257.out) hb); have n7_ := Aside0.mk (blk_below (g := gb259) (o := .cells #[.int .i64 ((rd_T24 y252 x36_2).f0), .int .i64 ((rd_T24 y252 x36_2).f1), .string ((rd_T24 y252 x36_2).f2)] 24 (0, 0)) (by (with_reducible repeat (first | refine blk_drewN ?_ _ | refine blk_drew ?_ | refine blk_alloc ?_ _)); exact BK259.out) hb); have n8_ := Aside0.mk (below_step (by repeat (first | (with_reducible first | exact HB.out | apply below_alloc | apply pw_below_drewN | apply below_drew1 | refine below_set ?_ GE238.out | refine below_set ?_ GE239.out | refine below_set ?_ GE240.out | refine below_set ?_ GE257.out | refine below_set ?_ GE259.out) | exact HB.out)) hb); clear HO_10; clear HO_28; clear HO_34; clear BK238; clear BK239; clear BK240; clear BK257; clear BK259; clear HB; have HO_10 := n0_; have HO_28 := n1_; have HO_34 := n2_; have BK238 := n3_; have BK239 := n4_; have BK240 := n5_; have BK257 := n6_; have BK259 := n7_; have HB := n8_; clear n0_ n1_ n2_ n3_ n4_ n5_ n6_ n7_ n8_; (try clear hb); (try clear hb2); (try clear hk); (try clear hi); have hcz59_0 : w58.cell? ⟨gb257, 0, none⟩ = some (.int .i64 ((rd_T24 y252 x30_1).f0)) := (blk_cell BK257.out 0).trans rfl; have hcz59_1 : w58.cell? ⟨gb257, 1, none⟩ = some (.int .i64 ((rd_T24 y252 x30_1).f1)) := (blk_cell BK257.out 1).trans rfl; have hcz59_2 : w58.cell? ⟨gb257, 2, none⟩ = some (.string ((rd_T24 y252 x30_1).f2)) := (blk_cell BK257.out 2).trans rfl; have hfz59_0 := blk_frozen BK257.out 0; have hfz59_1 := blk_frozen BK257.out 1; have hfz59_2 := blk_frozen BK257.out 2; have hcz60_0 : w58.cell? ⟨gb259, 0, none⟩ = some (.int .i64 ((rd_T24 y252 x36_2).f0)) := (blk_cell BK259.out 0).trans rfl; have hcz60_1 : w58.cell? ⟨gb259, 1, none⟩ = some (.int .i64 ((rd_T24 y252 x36_2).f1)) := (blk_cell BK259.out 1).trans rfl; have hcz60_2 : w58.cell? ⟨gb259, 2, none⟩ = some (.string ((rd_T24 y252 x36_2).f2)) := (blk_cell BK259.out 2).trans rfl; have hfz60_0 := blk_frozen BK259.out 0; have hfz60_1 := blk_frozen BK259.out 1; have hfz60_2 := blk_frozen BK259.out 2))
                            go_meet
                            case rel => exact ⟨_, (((t260 == 0) != (((rd_T24 y252 x30_1).f0) == ((rd_T24 y252 x36_2).f0) && (((rd_T24 y252 x30_1).f1) == ((rd_T24 y252 x36_2).f1) && (((rd_T24 y252 x30_1).f2).toList == (((rd_T24 y252 x36_2).f2).toList)))))), (by first | rfl | (simp; done) | (simp [*]; done)), H', ⟨by have := HK1.out; have := HK2.out; first | omega | exact Nat.le_refl _⟩, ⟨by (with_reducible repeat (first | apply Kd.R_alloc | apply Kd.R_drewN | apply Kd.R_drew)); exact Kd.R_mono HO_10.out (fun _ hk => ⟨hk.1.1, ⟨hk.1.2.1, ⟨hk.1.2.2.1, ⟨hk.1.2.2.2, hk.2⟩⟩⟩⟩)⟩, ⟨by (with_reducible repeat (first | apply Kd.R_alloc | apply Kd.R_drewN | apply Kd.R_drew)); exact Kd.R_mono HO_28.out (fun _ hk => ⟨hk.1.1, ⟨hk.1.2.1, ⟨hk.1.2.2.1, ⟨hk.1.2.2.2, hk.2⟩⟩⟩⟩)⟩, ⟨by (with_reducible repeat (first | apply Kd.R_alloc | apply Kd.R_drewN | apply Kd.R_drew)); exact Kd.R_mono HO_34.out (fun _ hk => ⟨hk.1.1, ⟨hk.1.2.1, ⟨hk.1.2.2.1, ⟨hk.1.2.2.2, hk.2⟩⟩⟩⟩)⟩, ⟨by (with_reducible repeat (first | refine blk_drewN ?_ _ | refine blk_drew ?_ | refine blk_alloc ?_ _)); exact BK238.out⟩, ⟨by (with_reducible repeat (first | refine blk_drewN ?_ _ | refine blk_drew ?_ | refine blk_alloc ?_ _)); exact BK239.out⟩, ⟨by (with_reducible repeat (first | refine blk_drewN ?_ _ | refine blk_drew ?_ | refine blk_alloc ?_ _)); exact BK240.out⟩, ⟨by (with_reducible repeat (first | refine blk_drewN ?_ _ | refine blk_drew ?_ | refine blk_alloc ?_ _)); exact BK257.out⟩, ⟨by (with_reducible repeat (first | refine blk_drewN ?_ _ | refine blk_drew ?_ | refine blk_alloc ?_ _)); exact BK259.out⟩, ⟨by repeat (first | (with_reducible first | exact HB.out | apply below_alloc | apply pw_below_drewN | apply below_drew1 | refine below_set ?_ GE238.out | refine below_set ?_ GE239.out | refine below_set ?_ GE240.out | refine below_set ?_ GE257.out | refine below_set ?_ GE259.out) | exact HB.out)⟩⟩
                          · rw [if_neg c45] at H
                            have c45b0 : (t260 == (wrap64 (-t262))) = false := beq_eq_false_iff_ne.mpr c45
                            have c45b1 : (t260 != (wrap64 (-t262))) = true := bne_iff_ne.mpr c45
                            have H' := Aside0.mk H
                            clear H
                            have hnb61 := NB257_238.out
                            have hnc61 := NB238_257.out
                            have hnb62 := NB257_239.out
                            have hnc62 := NB239_257.out
                            have hnb63 := NB257_240.out
                            have hnc63 := NB240_257.out
                            have hnb64 := NB257_259.out
                            have hnc64 := NB259_257.out
                            have hcz65_0 : w41.cell? ⟨gb257, 0, none⟩ = some (.int .i64 ((rd_T24 y252 x30_1).f0)) := (blk_cell BK257.out 0).trans rfl
                            have hcz65_1 : w41.cell? ⟨gb257, 1, none⟩ = some (.int .i64 ((rd_T24 y252 x30_1).f1)) := (blk_cell BK257.out 1).trans rfl
                            have hcz65_2 : w41.cell? ⟨gb257, 2, none⟩ = some (.string ((rd_T24 y252 x30_1).f2)) := (blk_cell BK257.out 2).trans rfl
                            have hfz65_0 := blk_frozen BK257.out 0
                            have hfz65_1 := blk_frozen BK257.out 1
                            have hfz65_2 := blk_frozen BK257.out 2
                            have hnb66 := NB259_238.out
                            have hnc66 := NB238_259.out
                            have hnb67 := NB259_239.out
                            have hnc67 := NB239_259.out
                            have hnb68 := NB259_240.out
                            have hnc68 := NB240_259.out
                            have hcz69_0 : w41.cell? ⟨gb259, 0, none⟩ = some (.int .i64 ((rd_T24 y252 x36_2).f0)) := (blk_cell BK259.out 0).trans rfl
                            have hcz69_1 : w41.cell? ⟨gb259, 1, none⟩ = some (.int .i64 ((rd_T24 y252 x36_2).f1)) := (blk_cell BK259.out 1).trans rfl
                            have hcz69_2 : w41.cell? ⟨gb259, 2, none⟩ = some (.string ((rd_T24 y252 x36_2).f2)) := (blk_cell BK259.out 2).trans rfl
                            have hfz69_0 := blk_frozen BK259.out 0
                            have hfz69_1 := blk_frozen BK259.out 1
                            have hfz69_2 := blk_frozen BK259.out 2
                            go_wp2_with (first | ((with_reducible refine gate_callee (f := 26) rfl ?_); refine goesL_ (some 46) rfl rfl Try.func26 (by kernel_rfl) rfl #[.agg #[.int .i64 ((rd_T24 y252 x30_1).f0), .int .i64 ((rd_T24 y252 x30_1).f1), .string ((rd_T24 y252 x30_1).f2)], .agg #[.int .i64 ((rd_T24 y252 x36_2).f0), .int .i64 ((rd_T24 y252 x36_2).f1), .string ((rd_T24 y252 x36_2).f2)]] rfl (by (try simp only [List.map_toArray, List.map_cons, List.map_nil]); first | done | rfl | (simp only [List.length_drop, List.length_take]; rfl)) ?_; (with_reducible refine (partsyncref01_Compare.calls ((rd_T24 y252 x30_1).f0) ((rd_T24 y252 x30_1).f1) ((rd_T24 y252 x30_1).f2) ((rd_T24 y252 x36_2).f0) ((rd_T24 y252 x36_2).f1) ((rd_T24 y252 x36_2).f2) t261 _ A42.out).mono ?_); rintro e w70 ⟨rfl, hb⟩; refine ⟨_, rfl, ?_⟩; have n0_ := Aside0.mk (Kd.R_below (by (with_reducible repeat (first | apply Kd.R_alloc | apply Kd.R_drewN | apply Kd.R_drew)); exact HO_10.out) hb); have n1_ := Aside0.mk (Kd.R_below (by (with_reducible repeat (first | apply Kd.R_alloc | apply Kd.R_drewN | apply Kd.R_drew)); exact HO_28.out) hb); have n2_ := Aside0.mk (Kd.R_below (by (with_reducible repeat (first | apply Kd.R_alloc | apply Kd.R_drewN | apply Kd.R_drew)); exact HO_34.out) hb); have n3_ := Aside0.mk (blk_below (g := gb238) (o := .cells #[.int .i64 a1_0, .int .i64 a1_1, .string a1_2] 24 (0, 0)) (by (with_reducible repeat (first | refine blk_drewN ?_ _ | refine blk_drew ?_ | refine blk_alloc ?_ _)); exact BK238.out) hb); have n4_ := Aside0.mk (blk_below (g := gb239) (o := .cells #[.int .i64 a2_0, .int .i64 a2_1, .string a2_2] 24 (0, 0)) (by (with_reducible repeat (first | refine blk_drewN ?_ _ | refine blk_drew ?_ | refine blk_alloc ?_ _)); exact BK239.out) hb); have n5_ := Aside0.mk (blk_below (g := gb240) (o := .cells #[.int .i64 a3_0, .int .i64 a3_1, .string a3_2] 24 (0, 0)) (by (with_reducible repeat (first | refine blk_drewN ?_ _ | refine blk_drew ?_ | refine blk_alloc ?_ _)); exact BK240.out) hb); have n6_ := Aside0.mk (blk_below (g := gb257) (o := .cells #[.int .i64 ((rd_T24 y252 x30_1).f0), .int .i64 ((rd_T24 y252 x30_1).f1), .string ((rd_T24 y252 x30_1).f2)] 24 (0, 0)) (by (with_reducible repeat (first | refine blk_drewN ?_ _ | refine blk_drew ?_ | refine blk_alloc ?_ _)); exact BK257.out) hb); have n7_ := Aside0.mk (blk_below (g := gb259) (o := .cells #[.int .i64 ((rd_T24 y252 x36_2).f0), .int .i64 ((rd_T24 y252 x36_2).f1), .string ((rd_T24 y252 x36_2).f2)] 24 (0, 0)) (by (with_reducible repeat (first | refine blk_drewN ?_ _ | refine blk_drew ?_ | refine blk_alloc ?_ _)); exact BK259.out) hb); have n8_ := Aside0.mk (below_step (by repeat (first | (with_reducible first | exact HB.out | apply below_alloc | apply pw_below_drewN | apply below_drew1 | refine below_set ?_ GE238.out | refine below_set ?_ GE239.out | refine below_set ?_ GE240.out | refine below_set ?_ GE257.out | refine below_set ?_ GE259.out) | exact HB.out)) hb); clear HO_10; clear HO_28; clear HO_34; clear BK238; clear BK239; clear BK240; clear BK257; clear BK259; clear HB; have HO_10 := n0_; have HO_28 := n1_; have HO_34 := n2_; have BK238 := n3_; have BK239 := n4_; have BK240 := n5_; have BK257 := n6_; have BK259 := n7_; have HB := n8_; clear n0_ n1_ n2_ n3_ n4_ n5_ n6_ n7_ n8_; (try clear hb); (try clear hb2); (try clear hk); (try clear hi); have hcz71_0 : w70.cell? ⟨gb259, 0, none⟩ = some (.int .i64 ((rd_T24 y252 x36_2).f0)) := (blk_cell BK259.out 0).trans rfl; have hcz71_1 : w70.cell? ⟨gb259, 1, none⟩ = some (.int .i64 ((rd_T24 y252 x36_2).f1)) := (blk_cell BK259.out 1).trans rfl; have hcz71_2 : w70.cell? ⟨gb259, 2, none⟩ = some (.string ((rd_T24 y252 x36_2).f2)) := (blk_cell BK259.out 2).trans rfl; have hfz71_0 := blk_frozen BK259.out 0; have hfz71_1 := blk_frozen BK259.out 1; have hfz71_2 := blk_frozen BK259.out 2; have hcz72_0 : w70.cell? ⟨gb257, 0, none⟩ = some (.int .i64 ((rd_T24 y252 x30_1).f0)) := (blk_cell BK257.out 0).trans rfl; have hcz72_1 : w70.cell? ⟨gb257, 1, none⟩ = some (.int .i64 ((rd_T24 y252 x30_1).f1)) := (blk_cell BK257.out 1).trans rfl; have hcz72_2 : w70.cell? ⟨gb257, 2, none⟩ = some (.string ((rd_T24 y252 x30_1).f2)) := (blk_cell BK257.out 2).trans rfl; have hfz72_0 := blk_frozen BK257.out 0; have hfz72_1 := blk_frozen BK257.out 1; have hfz72_2 := blk_frozen BK257.out 2) | (go_at_call 25; (with_reducible refine (value_Compare.calls ((rd_T24 y252 x36_2).f0) ((rd_T24 y252 x36_2).f1) ((rd_T24 y252 x36_2).f2) ((rd_T24 y252 x30_1).f0) ((rd_T24 y252 x30_1).f1) ((rd_T24 y252 x30_1).f2) t262 _ A44.out).mono ?_); rintro e w73 ⟨rfl, hb⟩; have n0_ := Aside0.mk (Kd.R_below (by (with_reducible repeat (first | apply Kd.R_alloc | apply Kd.R_drewN | apply Kd.R_drew)); exact HO_10.out) hb); have n1_ := Aside0.mk (Kd.R_below (by (with_reducible repeat (first | apply Kd.R_alloc | apply Kd.R_drewN | apply Kd.R_drew)); exact HO_28.out) hb); have n2_ := Aside0.mk (Kd.R_below (by (with_reducible repeat (first | apply Kd.R_alloc | apply Kd.R_drewN | apply Kd.R_drew)); exact HO_34.out) hb); have n3_ := Aside0.mk (blk_below (g := gb238) (o := .cells #[.int .i64 a1_0, .int .i64 a1_1, .string a1_2] 24 (0, 0)) (by (with_reducible repeat (first | refine blk_drewN ?_ _ | refine blk_drew ?_ | refine blk_alloc ?_ _)); exact BK238.out) hb); have n4_ := Aside0.mk (blk_below (g := gb239) (o := .cells #[.int .i64 a2_0, .int .i64 a2_1, .string a2_2] 24 (0, 0)) (by (with_reducible repeat (first | refine blk_drewN ?_ _ | refine blk_drew ?_ | refine blk_alloc ?_ _)); exact BK239.out) hb); have n5_ := Aside0.mk (blk_below (g := gb240) (o := .cells #[.int .i64 a3_0, .int .i64 a3_1, .string a3_2] 24 (0, 0)) (by (with_reducible repeat (first | refine blk_drewN ?_ _ | refine blk_drew ?_ | refine blk_alloc ?_ _)); exact BK240.out) hb); have n6_ := Aside0.mk (blk_below (g := gb257) (o := .cells #[.int .i64 ((rd_T24 y252 x30_1).f0), .int .i64 ((rd_T24 y252 x30_1).f1), .string ((rd_T24 y252 x30_1).f2)] 24 (0, 0)) (by (with_reducible repeat (first | refine blk_drewN ?_ _ | refine blk_drew ?_ | refine blk_alloc ?_ _)); exact BK257.out) hb); have n7_ := Aside0.mk (blk_below (g := gb259) (o := .cells #[.int .i64 ((rd_T24 y252 x36_2).f0), .int .i64 ((rd_T24 y252 x36_2).f1), .string ((rd_T24 y252 x36_2).f2)] 24 (0, 0)) (by (with_reducible repeat (first | refine blk_drewN ?_ _ | refine blk_drew ?_ | refine blk_alloc ?_ _)); exact BK259.out) hb); have n8_ := Aside0.mk (below_step (by repeat (first | (with_reducible first | exact HB.out | apply below_alloc | apply pw_below_drewN | apply below_drew1 | refine below_set ?_ GE238.out | refine below_set ?_ GE239.out | refine below_set ?_ GE240.out | refine below_set ?_ GE257.out | refine below_set ?_ GE259.out) | exact HB.out)) hb); clear HO_10; clear HO_28; clear HO_34; clear BK238; clear BK239; clear BK240; clear BK257; clear BK259; clear HB; have HO_10 := n0_; have HO_28 := n1_; have HO_34 := n2_; have BK238 := n3_; have BK239 := n4_; have BK240 := n5_; have BK257 := n6_; have BK259 := n7_; have HB := n8_; clear n0_ n1_ n2_ n3_ n4_ n5_ n6_ n7_ n8_; (try clear hb); (try clear hb2); (try clear hk); (try clear hi)))
                            go_meet
                            case rel => exact ⟨_, (true), (by first | rfl | (simp; done) | (simp [*]; done)), H', ⟨by have := HK1.out; have := HK2.out; first | omega | exact Nat.le_refl _⟩, ⟨by (with_reducible repeat (first | apply Kd.R_alloc | apply Kd.R_drewN | apply Kd.R_drew)); exact Kd.R_mono HO_10.out (fun _ hk => ⟨hk.1.1, ⟨hk.1.2.1, ⟨hk.1.2.2.1, ⟨hk.1.2.2.2, hk.2⟩⟩⟩⟩)⟩, ⟨by (with_reducible repeat (first | apply Kd.R_alloc | apply Kd.R_drewN | apply Kd.R_drew)); exact Kd.R_mono HO_28.out (fun _ hk => ⟨hk.1.1, ⟨hk.1.2.1, ⟨hk.1.2.2.1, ⟨hk.1.2.2.2, hk.2⟩⟩⟩⟩)⟩, ⟨by (with_reducible repeat (first | apply Kd.R_alloc | apply Kd.R_drewN | apply Kd.R_drew)); exact Kd.R_mono HO_34.out (fun _ hk => ⟨hk.1.1, ⟨hk.1.2.1, ⟨hk.1.2.2.1, ⟨hk.1.2.2.2, hk.2⟩⟩⟩⟩)⟩, ⟨by (with_reducible repeat (first | refine blk_drewN ?_ _ | refine blk_drew ?_ | refine blk_alloc ?_ _)); exact BK238.out⟩, ⟨by (with_reducible repeat (first | refine blk_drewN ?_ _ | refine blk_drew ?_ | refine blk_alloc ?_ _)); exact BK239.out⟩, ⟨by (with_reducible repeat (first | refine blk_drewN ?_ _ | refine blk_drew ?_ | refine blk_alloc ?_ _)); exact BK240.out⟩, ⟨by (with_reducible repeat (first | refine blk_drewN ?_ _ | refine blk_drew ?_ | refine blk_alloc ?_ _)); exact BK257.out⟩, ⟨by (with_reducible repeat (first | refine blk_drewN ?_ _ | refine blk_drew ?_ | refine blk_alloc ?_ _)); exact BK259.out⟩, ⟨by repeat (first | (with_reducible first | exact HB.out | apply below_alloc | apply pw_below_drewN | apply below_drew1 | refine below_set ?_ GE238.out | refine below_set ?_ GE239.out | refine below_set ?_ GE240.out | refine below_set ?_ GE257.out | refine below_set ?_ GE259.out) | exact HB.out)⟩⟩
                        · rw [if_neg c43] at H
                          have c43b0 : (t260 == t261) = false := beq_eq_false_iff_ne.mpr c43
                          have c43b1 : (t260 != t261) = true := bne_iff_ne.mpr c43
                          (first | rw [c43b0] | (simp only [i64_w, i32_w]; rw [c43b0]) | skip)
                          have H' := Aside0.mk H
                          clear H
                          have hnb74 := NB257_238.out
                          have hnc74 := NB238_257.out
                          have hnb75 := NB257_239.out
                          have hnc75 := NB239_257.out
                          have hnb76 := NB257_240.out
                          have hnc76 := NB240_257.out
                          have hnb77 := NB257_259.out
                          have hnc77 := NB259_257.out
                          have hcz78_0 : w41.cell? ⟨gb257, 0, none⟩ = some (.int .i64 ((rd_T24 y252 x30_1).f0)) := (blk_cell BK257.out 0).trans rfl
                          have hcz78_1 : w41.cell? ⟨gb257, 1, none⟩ = some (.int .i64 ((rd_T24 y252 x30_1).f1)) := (blk_cell BK257.out 1).trans rfl
                          have hcz78_2 : w41.cell? ⟨gb257, 2, none⟩ = some (.string ((rd_T24 y252 x30_1).f2)) := (blk_cell BK257.out 2).trans rfl
                          have hfz78_0 := blk_frozen BK257.out 0
                          have hfz78_1 := blk_frozen BK257.out 1
                          have hfz78_2 := blk_frozen BK257.out 2
                          have hnb79 := NB259_238.out
                          have hnc79 := NB238_259.out
                          have hnb80 := NB259_239.out
                          have hnc80 := NB239_259.out
                          have hnb81 := NB259_240.out
                          have hnc81 := NB240_259.out
                          have hcz82_0 : w41.cell? ⟨gb259, 0, none⟩ = some (.int .i64 ((rd_T24 y252 x36_2).f0)) := (blk_cell BK259.out 0).trans rfl
                          have hcz82_1 : w41.cell? ⟨gb259, 1, none⟩ = some (.int .i64 ((rd_T24 y252 x36_2).f1)) := (blk_cell BK259.out 1).trans rfl
                          have hcz82_2 : w41.cell? ⟨gb259, 2, none⟩ = some (.string ((rd_T24 y252 x36_2).f2)) := (blk_cell BK259.out 2).trans rfl
                          have hfz82_0 := blk_frozen BK259.out 0
                          have hfz82_1 := blk_frozen BK259.out 1
                          have hfz82_2 := blk_frozen BK259.out 2
                          go_wp2_with (first | ((with_reducible refine gate_callee (f := 26) rfl ?_); refine goesL_ (some 46) rfl rfl Try.func26 (by kernel_rfl) rfl #[.agg #[.int .i64 ((rd_T24 y252 x30_1).f0), .int .i64 ((rd_T24 y252 x30_1).f1), .string ((rd_T24 y252 x30_1).f2)], .agg #[.int .i64 ((rd_T24 y252 x36_2).f0), .int .i64 ((rd_T24 y252 x36_2).f1), .string ((rd_T24 y252 x36_2).f2)]] rfl (by (try simp only [List.map_toArray, List.map_cons, List.map_nil]); first | done | rfl | (simp only [List.length_drop, List.length_take]; rfl)) ?_; (with_reducible refine (partsyncref01_Compare.calls ((rd_T24 y252 x30_1).f0) ((rd_T24 y252 x30_1).f1) ((rd_T24 y252 x30_1).f2) ((rd_T24 y252 x36_2).f0) ((rd_T24 y252 x36_2).f1) ((rd_T24 y252 x36_2).f2) t261 _ A42.out).mono ?_); rintro e w83 ⟨rfl, hb⟩; refine ⟨_, rfl, ?_⟩; have n0_ := Aside0.mk (Kd.R_below (by (with_reducible repeat (first | apply Kd.R_alloc | apply Kd.R_drewN | apply Kd.R_drew)); exact HO_10.out) hb); have n1_ := Aside0.mk (Kd.R_below (by (with_reducible repeat (first | apply Kd.R_alloc | apply Kd.R_drewN | apply Kd.R_drew)); exact HO_28.out) hb); have n2_ := Aside0.mk (Kd.R_below (by (with_reducible repeat (first | apply Kd.R_alloc | apply Kd.R_drewN | apply Kd.R_drew)); exact HO_34.out) hb); have n3_ := Aside0.mk (blk_below (g := gb238) (o := .cells #[.int .i64 a1_0, .int .i64 a1_1, .string a1_2] 24 (0, 0)) (by (with_reducible repeat (first | refine blk_drewN ?_ _ | refine blk_drew ?_ | refine blk_alloc ?_ _)); exact BK238.out) hb); have n4_ := Aside0.mk (blk_below (g := gb239) (o := .cells #[.int .i64 a2_0, .int .i64 a2_1, .string a2_2] 24 (0, 0)) (by (with_reducible repeat (first | refine blk_drewN ?_ _ | refine blk_drew ?_ | refine blk_alloc ?_ _)); exact BK239.out) hb); have n5_ := Aside0.mk (blk_below (g := gb240) (o := .cells #[.int .i64 a3_0, .int .i64 a3_1, .string a3_2] 24 (0, 0)) (by (with_reducible repeat (first | refine blk_drewN ?_ _ | refine blk_drew ?_ | refine blk_alloc ?_ _)); exact BK240.out) hb); have n6_ := Aside0.mk (blk_below (g := gb257) (o := .cells #[.int .i64 ((rd_T24 y252 x30_1).f0), .int .i64 ((rd_T24 y252 x30_1).f1), .string ((rd_T24 y252 x30_1).f2)] 24 (0, 0)) (by (with_reducible repeat (first | refine blk_drewN ?_ _ | refine blk_drew ?_ | refine blk_alloc ?_ _)); exact BK257.out) hb); have n7_ := Aside0.mk (blk_below (g := gb259) (o := .cells #[.int .i64 ((rd_T24 y252 x36_2).f0), .int .i64 ((rd_T24 y252 x36_2).f1), .string ((rd_T24 y252 x36_2).f2)] 24 (0, 0)) (by (with_reducible repeat (first | refine blk_drewN ?_ _ | refine blk_drew ?_ | refine blk_alloc ?_ _)); exact BK259.out) hb); have n8_ := Aside0.mk (below_step (by repeat (first | (with_reducible first | exact HB.out | apply below_alloc | apply pw_below_drewN | apply below_drew1 | refine below_set ?_ GE238.out | refine below_set ?_ GE239.out | refine below_set ?_ GE240.out | refine below_set ?_ GE257.out | refine below_set ?_ GE259.out) | exact HB.out)) hb); clear HO_10; clear HO_28; clear HO_34; clear BK238; clear BK239; clear BK240; clear BK257; clear BK259; clear HB; have HO_10 := n0_; have HO_28 := n1_; have HO_34 := n2_; have BK238 := n3_; have BK239 := n4_; have BK240 := n5_; have BK257 := n6_; have BK259 := n7_; have HB := n8_; clear n0_ n1_ n2_ n3_ n4_ n5_ n6_ n7_ n8_; (try clear hb); (try clear hb2); (try clear hk); (try clear hi)))
                          go_meet
                          case rel => exact ⟨_, (true), (by first | rfl | (simp; done) | (simp [*]; done)), H', ⟨by have := HK1.out; have := HK2.out; first | omega | exact Nat.le_refl _⟩, ⟨by (with_reducible repeat (first | apply Kd.R_alloc | apply Kd.R_drewN | apply Kd.R_drew)); exact Kd.R_mono HO_10.out (fun _ hk => ⟨hk.1.1, ⟨hk.1.2.1, ⟨hk.1.2.2.1, ⟨hk.1.2.2.2, hk.2⟩⟩⟩⟩)⟩, ⟨by (with_reducible repeat (first | apply Kd.R_alloc | apply Kd.R_drewN | apply Kd.R_drew)); exact Kd.R_mono HO_28.out (fun _ hk => ⟨hk.1.1, ⟨hk.1.2.1, ⟨hk.1.2.2.1, ⟨hk.1.2.2.2, hk.2⟩⟩⟩⟩)⟩, ⟨by (with_reducible repeat (first | apply Kd.R_alloc | apply Kd.R_drewN | apply Kd.R_drew)); exact Kd.R_mono HO_34.out (fun _ hk => ⟨hk.1.1, ⟨hk.1.2.1, ⟨hk.1.2.2.1, ⟨hk.1.2.2.2, hk.2⟩⟩⟩⟩)⟩, ⟨by (with_reducible repeat (first | refine blk_drewN ?_ _ | refine blk_drew ?_ | refine blk_alloc ?_ _)); exact BK238.out⟩, ⟨by (with_reducible repeat (first | refine blk_drewN ?_ _ | refine blk_drew ?_ | refine blk_alloc ?_ _)); exact BK239.out⟩, ⟨by (with_reducible repeat (first | refine blk_drewN ?_ _ | refine blk_drew ?_ | refine blk_alloc ?_ _)); exact BK240.out⟩, ⟨by (with_reducible repeat (first | refine blk_drewN ?_ _ | refine blk_drew ?_ | refine blk_alloc ?_ _)); exact BK257.out⟩, ⟨by (with_reducible repeat (first | refine blk_drewN ?_ _ | refine blk_drew ?_ | refine blk_alloc ?_ _)); exact BK259.out⟩, ⟨by repeat (first | (with_reducible first | exact HB.out | apply below_alloc | apply pw_below_drewN | apply below_drew1 | refine below_set ?_ GE238.out | refine below_set ?_ GE239.out | refine below_set ?_ GE240.out | refine below_set ?_ GE257.out | refine below_set ?_ GE259.out) | exact HB.out)⟩⟩
                      case rest =>
                        clear HC30
                        try clear c1
                        try clear c2
                        try clear p2
                        try clear q2
                        try clear hx2
                        try clear c3
                        try clear c4
                        try clear c5
                        try clear c6
                        try clear p6
                        try clear c7
                        try clear c8
                        try clear c18
                        try clear c18b0
                        try clear c19
                        try clear c19b0
                        try clear c20
                        try clear c20b0
                        try clear c22
                        try clear c23
                        try clear c24
                        try clear c25
                        try clear p25
                        try clear q25
                        try clear hx25
                        try clear c26
                        try clear c26b0
                        try clear c27
                        try clear c27b0
                        try clear c28
                        try clear c28b0
                        try clear c32
                        try clear c33
                        try clear c34
                        try clear c35
                        try clear c37
                        try clear c38
                        try clear c39
                        try clear c43
                        try clear c43b0
                        try clear c43b1
                        try clear c45
                        try clear c45b0
                        try clear c45b1
                        try clear c46
                        try clear c47
                        try clear c48
                        try clear c49
                        try clear c51
                        try clear c52
                        try clear c53
                        try clear c61
                        try clear c62
                        try clear c63
                        try clear c64
                        try clear p64
                        try clear c66
                        try clear c67
                        try clear c68
                        try clear c74
                        try clear c75
                        try clear c76
                        try clear c77
                        try clear c79
                        try clear c80
                        try clear c81
                        try clear hcz25_0
                        try clear hcz25_1
                        try clear hcz25_2
                        try clear hcz36_0
                        try clear hcz36_1
                        try clear hcz36_2
                        try clear hcz40_0
                        try clear hcz40_1
                        try clear hcz40_2
                        try clear hcz50_0
                        try clear hcz50_1
                        try clear hcz50_2
                        try clear hcz54_0
                        try clear hcz54_1
                        try clear hcz54_2
                        try clear hcz56_0
                        try clear hcz56_1
                        try clear hcz56_2
                        try clear hcz57_0
                        try clear hcz57_1
                        try clear hcz57_2
                        try clear hcz59_0
                        try clear hcz59_1
                        try clear hcz59_2
                        try clear hcz60_0
                        try clear hcz60_1
                        try clear hcz60_2
                        try clear hcz65_0
                        try clear hcz65_1
                        try clear hcz65_2
                        try clear hcz69_0
                        try clear hcz69_1
                        try clear hcz69_2
                        try clear hcz71_0
                        try clear hcz71_1
                        try clear hcz71_2
                        try clear hcz72_0
                        try clear hcz72_1
                        try clear hcz72_2
                        try clear hcz78_0
                        try clear hcz78_1
                        try clear hcz78_2
                        try clear hcz82_0
                        try clear hcz82_1
                        try clear hcz82_2
                        try clear hfz25_0
                        try clear hfz25_1
                        try clear hfz25_2
                        try clear hfz36_0
                        try clear hfz36_1
                        try clear hfz36_2
                        try clear hfz40_0
                        try clear hfz40_1
                        try clear hfz40_2
                        try clear hfz50_0
                        try clear hfz50_1
                        try clear hfz50_2
                        try clear hfz54_0
                        try clear hfz54_1
                        try clear hfz54_2
                        try clear hfz56_0
                        try clear hfz56_1
                        try clear hfz56_2
                        try clear hfz57_0
                        try clear hfz57_1
                        try clear hfz57_2
                        try clear hfz59_0
                        try clear hfz59_1
                        try clear hfz59_2
                        try clear hfz60_0
                        try clear hfz60_1
                        try clear hfz60_2
                        try clear hfz65_0
                        try clear hfz65_1
                        try clear hfz65_2
                        try clear hfz69_0
                        try clear hfz69_1
                        try clear hfz69_2
                        try clear hfz71_0
                        try clear hfz71_1
                        try clear hfz71_2
                        try clear hfz72_0
                        try clear hfz72_1
                        try clear hfz72_2
                        try clear hfz78_0
                        try clear hfz78_1
                        try clear hfz78_2
                        try clear hfz82_0
                        try clear hfz82_1
                        try clear hfz82_2
                        try clear hx256_0
                        try clear hx256_1
                        try clear hx256_2
                        try clear hx258_0
                        try clear hx258_1
                        try clear hx258_2
                        try clear p2
                        try clear p25
                        try clear p256
                        try clear p258
                        try clear q2
                        try clear q25
                        try clear q256
                        try clear q258
                        obtain ⟨kq, x63_29, rfl, HA, HJ29, HO_10, HO_28, HO_34, BK238, BK239, BK240, BK257, BK259, HB⟩ := hcut
                        cases kq with
                        | zero => exact absurd HA.out (by simp [partsynclaw01_ValueCompares.j2])
                        | succ kj29 =>
                          have H := HA.out
                          clear HA
                          simp only [partsynclaw01_ValueCompares.j2] at H
                          by_cases c84 : x63_29 = true
                          · subst c84
                            have H1 : (some false) = some r := by rw [if_pos rfl] at H; exact H
                            clear H
                            have H := H1
                            clear H1
                            exact absurd (H.trans (congrArg some HRT.out)) (by simp)
                          · replace c84 := Bool.eq_false_iff.mpr c84
                            subst c84
                            have H1 : (partsynclaw01_ValueCompares.l2 kj29 y252 t260 y252 (y252.length : Int) x30_1 y252 (y252.length : Int) x36_2 y252 (y252.length : Int) 0 ((rd_T24 y252 x30_1).f0) ((rd_T24 y252 x30_1).f1) ((rd_T24 y252 x30_1).f2) ((rd_T24 y252 x36_2).f0) ((rd_T24 y252 x36_2).f1) ((rd_T24 y252 x36_2).f2)) = some r := by rw [if_neg (show ¬ (false = true) by decide)] at H; exact H
                            clear H
                            have H := H1
                            clear H1
                            have H' := Aside0.mk H
                            clear H
                            go_wp2
                            go_loopg [66] kj29 (fun kq v66 w' => ∃ (x66_4 : Int), v66 = .int .i64 x66_4 ∧ Aside0 (partsynclaw01_ValueCompares.l2 kq y252 t260 y252 (y252.length : Int) x30_1 y252 (y252.length : Int) x36_2 y252 (y252.length : Int) x66_4 ((rd_T24 y252 x30_1).f0) ((rd_T24 y252 x30_1).f1) ((rd_T24 y252 x30_1).f2) ((rd_T24 y252 x36_2).f0) ((rd_T24 y252 x36_2).f1) ((rd_T24 y252 x36_2).f2) = some r) ∧ Aside0 (kq ≤ kj29) ∧ Aside0 (Kd.R k24 24 w' w.heap.size (fun k_ => k_ ≠ gb238 ∧ k_ ≠ gb239 ∧ k_ ≠ gb240 ∧ k_ ≠ gb257 ∧ k_ ≠ gb259) (.slice (some ad256) y252.length co17) y252) ∧ Aside0 (Kd.R k24 24 w' w.heap.size (fun k_ => k_ ≠ gb238 ∧ k_ ≠ gb239 ∧ k_ ≠ gb240 ∧ k_ ≠ gb257 ∧ k_ ≠ gb259) (.slice (some ad256) y252.length co17) y252) ∧ Aside0 (Kd.R k24 24 w' w.heap.size (fun k_ => k_ ≠ gb238 ∧ k_ ≠ gb239 ∧ k_ ≠ gb240 ∧ k_ ≠ gb257 ∧ k_ ≠ gb259) (.slice (some ad256) y252.length co17) y252) ∧ Aside0 (Kd.R k24 24 w' w.heap.size (fun k_ => k_ ≠ gb238 ∧ k_ ≠ gb239 ∧ k_ ≠ gb240 ∧ k_ ≠ gb257 ∧ k_ ≠ gb259) (.slice (some ad256) y252.length co17) y252) ∧ Aside0 (w'.heap[gb238]? = some (.cells #[.int .i64 a1_0, .int .i64 a1_1, .string a1_2] 24 (0, 0))) ∧ Aside0 (w'.heap[gb239]? = some (.cells #[.int .i64 a2_0, .int .i64 a2_1, .string a2_2] 24 (0, 0))) ∧ Aside0 (w'.heap[gb240]? = some (.cells #[.int .i64 a3_0, .int .i64 a3_1, .string a3_2] 24 (0, 0))) ∧ Aside0 (w'.heap[gb257]? = some (.cells #[.int .i64 ((rd_T24 y252 x30_1).f0), .int .i64 ((rd_T24 y252 x30_1).f1), .string ((rd_T24 y252 x30_1).f2)] 24 (0, 0))) ∧ Aside0 (w'.heap[gb259]? = some (.cells #[.int .i64 ((rd_T24 y252 x36_2).f0), .int .i64 ((rd_T24 y252 x36_2).f1), .string ((rd_T24 y252 x36_2).f2)] 24 (0, 0))) ∧ Aside0 (Below w.heap.size w w'))
                            case atStart => exact ⟨(0), (by first | rfl | (simp; done) | (simp [*]; done)), H', ⟨Nat.le_refl _⟩, ⟨by (with_reducible repeat (first | apply Kd.R_alloc | apply Kd.R_drewN | apply Kd.R_drew)); exact HO_10.out⟩, ⟨by (with_reducible repeat (first | apply Kd.R_alloc | apply Kd.R_drewN | apply Kd.R_drew)); exact HO_28.out⟩, ⟨by (with_reducible repeat (first | apply Kd.R_alloc | apply Kd.R_drewN | apply Kd.R_drew)); exact HO_34.out⟩, ⟨by (with_reducible repeat (first | apply Kd.R_alloc | apply Kd.R_drewN | apply Kd.R_drew)); exact HO_10.out⟩, ⟨by (with_reducible repeat (first | refine blk_drewN ?_ _ | refine blk_drew ?_ | refine blk_alloc ?_ _)); exact BK238.out⟩, ⟨by (with_reducible repeat (first | refine blk_drewN ?_ _ | refine blk_drew ?_ | refine blk_alloc ?_ _)); exact BK239.out⟩, ⟨by (with_reducible repeat (first | refine blk_drewN ?_ _ | refine blk_drew ?_ | refine blk_alloc ?_ _)); exact BK240.out⟩, ⟨by (with_reducible repeat (first | refine blk_drewN ?_ _ | refine blk_drew ?_ | refine blk_alloc ?_ _)); exact BK257.out⟩, ⟨by (with_reducible repeat (first | refine blk_drewN ?_ _ | refine blk_drew ?_ | refine blk_alloc ?_ _)); exact BK259.out⟩, ⟨by repeat (first | (with_reducible first | exact HB.out | apply below_alloc | apply pw_below_drewN | apply below_drew1 | refine below_set ?_ GE238.out | refine below_set ?_ GE239.out | refine below_set ?_ GE240.out | refine below_set ?_ GE257.out | refine below_set ?_ GE259.out) | exact HB.out)⟩⟩
                            case round =>
                              clear H'
                              try clear c1
                              try clear c2
                              try clear p2
                              try clear q2
                              try clear hx2
                              try clear c3
                              try clear c4
                              try clear c5
                              try clear c6
                              try clear p6
                              try clear c7
                              try clear c8
                              try clear c18
                              try clear c18b0
                              try clear c19
                              try clear c19b0
                              try clear c20
                              try clear c20b0
                              try clear c22
                              try clear c23
                              try clear c24
                              try clear c25
                              try clear p25
                              try clear q25
                              try clear hx25
                              try clear c26
                              try clear c26b0
                              try clear c27
                              try clear c27b0
                              try clear c28
                              try clear c28b0
                              try clear c32
                              try clear c33
                              try clear c34
                              try clear c35
                              try clear c37
                              try clear c38
                              try clear c39
                              try clear c43
                              try clear c43b0
                              try clear c43b1
                              try clear c45
                              try clear c45b0
                              try clear c45b1
                              try clear c46
                              try clear c47
                              try clear c48
                              try clear c49
                              try clear c51
                              try clear c52
                              try clear c53
                              try clear c61
                              try clear c62
                              try clear c63
                              try clear c64
                              try clear p64
                              try clear c66
                              try clear c67
                              try clear c68
                              try clear c74
                              try clear c75
                              try clear c76
                              try clear c77
                              try clear c79
                              try clear c80
                              try clear c81
                              try clear c84
                              try clear hcz25_0
                              try clear hcz25_1
                              try clear hcz25_2
                              try clear hcz36_0
                              try clear hcz36_1
                              try clear hcz36_2
                              try clear hcz40_0
                              try clear hcz40_1
                              try clear hcz40_2
                              try clear hcz50_0
                              try clear hcz50_1
                              try clear hcz50_2
                              try clear hcz54_0
                              try clear hcz54_1
                              try clear hcz54_2
                              try clear hcz56_0
                              try clear hcz56_1
                              try clear hcz56_2
                              try clear hcz57_0
                              try clear hcz57_1
                              try clear hcz57_2
                              try clear hcz59_0
                              try clear hcz59_1
                              try clear hcz59_2
                              try clear hcz60_0
                              try clear hcz60_1
                              try clear hcz60_2
                              try clear hcz65_0
                              try clear hcz65_1
                              try clear hcz65_2
                              try clear hcz69_0
                              try clear hcz69_1
                              try clear hcz69_2
                              try clear hcz71_0
                              try clear hcz71_1
                              try clear hcz71_2
                              try clear hcz72_0
                              try clear hcz72_1
                              try clear hcz72_2
                              try clear hcz78_0
                              try clear hcz78_1
                              try clear hcz78_2
                              try clear hcz82_0
                              try clear hcz82_1
                              try clear hcz82_2
                              try clear hfz25_0
                              try clear hfz25_1
                              try clear hfz25_2
                              try clear hfz36_0
                              try clear hfz36_1
                              try clear hfz36_2
                              try clear hfz40_0
                              try clear hfz40_1
                              try clear hfz40_2
                              try clear hfz50_0
                              try clear hfz50_1
                              try clear hfz50_2
                              try clear hfz54_0
                              try clear hfz54_1
                              try clear hfz54_2
                              try clear hfz56_0
                              try clear hfz56_1
                              try clear hfz56_2
                              try clear hfz57_0
                              try clear hfz57_1
                              try clear hfz57_2
                              try clear hfz59_0
                              try clear hfz59_1
                              try clear hfz59_2
                              try clear hfz60_0
                              try clear hfz60_1
                              try clear hfz60_2
                              try clear hfz65_0
                              try clear hfz65_1
                              try clear hfz65_2
                              try clear hfz69_0
                              try clear hfz69_1
                              try clear hfz69_2
                              try clear hfz71_0
                              try clear hfz71_1
                              try clear hfz71_2
                              try clear hfz72_0
                              try clear hfz72_1
                              try clear hfz72_2
                              try clear hfz78_0
                              try clear hfz78_1
                              try clear hfz78_2
                              try clear hfz82_0
                              try clear hfz82_1
                              try clear hfz82_2
                              try clear hx256_0
                              try clear hx256_1
                              try clear hx256_2
                              try clear hx258_0
                              try clear hx258_1
                              try clear hx258_2
                              try clear p2
                              try clear p25
                              try clear p256
                              try clear p258
                              try clear p6
                              try clear p64
                              try clear q2
                              try clear q25
                              try clear q256
                              try clear q258
                              obtain ⟨x66_4, rfl, HA, HK4, HO_10, HO_28, HO_34, HO_64, BK238, BK239, BK240, BK257, BK259, HB⟩ := hrel
                              cases gk with
                              | zero => exact absurd HA.out (by simp [partsynclaw01_ValueCompares.l2])
                              | succ k4 =>
                                have H := HA.out
                                clear HA
                                simp only [partsynclaw01_ValueCompares.l2] at H
                                by_cases c85 : x66_4 < (y252.length : Int)
                                · rw [if_pos c85] at H
                                  have c85b0 : decide (x66_4 < (y252.length : Int)) = true := decide_eq_true c85
                                  clear c85
                                  by_cases c86 : 0 ≤ x66_4
                                  · rw [if_pos c86] at H
                                    have c86b0 : decide (0 ≤ x66_4) = true := decide_eq_true c86
                                    clear c86
                                    by_cases c87 : x66_4 < (y252.length : Int)
                                    · rw [if_pos c87] at H
                                      have c87b0 : decide (x66_4 < (y252.length : Int)) = true := decide_eq_true c87
                                      clear c87
                                      by_cases c88 : t260 ≤ 0
                                      · rw [if_pos c88] at H
                                        have c88b0 : decide (t260 ≤ 0) = true := decide_eq_true c88
                                        clear c88
                                        replace H := Option.bind_eq_some_iff.mp H
                                        obtain ⟨t265, A890, H⟩ := H
                                        replace H : (if t265 ≤ 0 then ((value_Compare.f ((rd_T24 y252 x30_1).f0) ((rd_T24 y252 x30_1).f1) ((rd_T24 y252 x30_1).f2) ((rd_T24 y252 x66_4).f0) ((rd_T24 y252 x66_4).f1) ((rd_T24 y252 x66_4).f2)).bind fun t266 => (if t266 > 0 then (some false) else (partsynclaw01_ValueCompares.l2 k4 y252 t260 y252 (y252.length : Int) x30_1 y252 (y252.length : Int) x36_2 y252 (y252.length : Int) (wrap64 (x66_4 + 1)) ((rd_T24 y252 x30_1).f0) ((rd_T24 y252 x30_1).f1) ((rd_T24 y252 x30_1).f2) ((rd_T24 y252 x36_2).f0) ((rd_T24 y252 x36_2).f1) ((rd_T24 y252 x36_2).f2)))) else (partsynclaw01_ValueCompares.l2 k4 y252 t260 y252 (y252.length : Int) x30_1 y252 (y252.length : Int) x36_2 y252 (y252.length : Int) (wrap64 (x66_4 + 1)) ((rd_T24 y252 x30_1).f0) ((rd_T24 y252 x30_1).f1) ((rd_T24 y252 x30_1).f2) ((rd_T24 y252 x36_2).f0) ((rd_T24 y252 x36_2).f1) ((rd_T24 y252 x36_2).f2))) = some r := H
                                        have A89 := Aside0.mk A890
                                        clear A890
                                        by_cases c90 : t265 ≤ 0
                                        · rw [if_pos c90] at H
                                          have c90b0 : decide (t265 ≤ 0) = true := decide_eq_true c90
                                          clear c90
                                          replace H := Option.bind_eq_some_iff.mp H
                                          obtain ⟨t266, A910, H⟩ := H
                                          replace H : (if t266 > 0 then (some false) else (partsynclaw01_ValueCompares.l2 k4 y252 t260 y252 (y252.length : Int) x30_1 y252 (y252.length : Int) x36_2 y252 (y252.length : Int) (wrap64 (x66_4 + 1)) ((rd_T24 y252 x30_1).f0) ((rd_T24 y252 x30_1).f1) ((rd_T24 y252 x30_1).f2) ((rd_T24 y252 x36_2).f0) ((rd_T24 y252 x36_2).f1) ((rd_T24 y252 x36_2).f2))) = some r := H
                                          have A91 := Aside0.mk A910
                                          clear A910
                                          by_cases c92 : t266 > 0
                                          · rw [if_pos c92] at H
                                            have c92b0 : decide (0 < t266) = true := decide_eq_true c92
                                            clear c92
                                            exact absurd (H.trans (congrArg some HRT.out)) (by simp)
                                          · rw [if_neg c92] at H
                                            have c92b0 : decide (0 < t266) = false := decide_eq_false c92
                                            clear c92
                                            have H' := Aside0.mk H
                                            clear H
                                            have p263 : 0 ≤ (x66_4 : Int) := of_decide_eq_true (by first | (with_reducible assumption) | assumption)
                                            have q263 : x66_4 < (y252.length : Int) := of_decide_eq_true (by first | (with_reducible assumption) | assumption)
                                            obtain ⟨ad263, e263, hx263_0, hx263_1, hx263_2⟩ := at_T24 (Kd.R_reads' HO_64.out).2.2 x66_4 p263 q263
                                            obtain rfl : ad256 = ad263 := (by injection e263)
                                            replace p263 := eq_true p263
                                            replace q263 := eq_true q263
                                            go_wp2_with (first | ((with_reducible refine gate_dst (N := 17) rfl ?_); refine box_event ?hg (N := 17) ?hd (cs := #[.int .i64 0, .int .i64 0, .string (⟨#[]⟩ : ByteArray)]) (t := 24) ?hr ?_; (case hd => rfl); (case hg => rfl); (case hr => first | (go_simp; done) | (go_simp; rfl)); intro gb264 hg w93 hbox hb; have n0_ := Aside0.mk (Kd.R_below (Kd.R_elderB (by (with_reducible repeat (first | apply Kd.R_alloc | apply Kd.R_drewN | apply Kd.R_drew)); exact HO_10.out) gb264 (Nat.le_of_eq hg.symm)) hb); have n1_ := Aside0.mk (Kd.R_below (Kd.R_elderB (by (with_reducible repeat (first | apply Kd.R_alloc | apply Kd.R_drewN | apply Kd.R_drew)); exact HO_28.out) gb264 (Nat.le_of_eq hg.symm)) hb); have n2_ := Aside0.mk (Kd.R_below (Kd.R_elderB (by (with_reducible repeat (first | apply Kd.R_alloc | apply Kd.R_drewN | apply Kd.R_drew)); exact HO_34.out) gb264 (Nat.le_of_eq hg.symm)) hb); have n3_ := Aside0.mk (Kd.R_below (Kd.R_elderB (by (with_reducible repeat (first | apply Kd.R_alloc | apply Kd.R_drewN | apply Kd.R_drew)); exact HO_64.out) gb264 (Nat.le_of_eq hg.symm)) hb); have n4_ := Aside0.mk (blk_below (g := gb238) (o := .cells #[.int .i64 a1_0, .int .i64 a1_1, .string a1_2] 24 (0, 0)) (by (with_reducible repeat (first | refine blk_drewN ?_ _ | refine blk_drew ?_ | refine blk_alloc ?_ _)); exact BK238.out) hb); have n5_ := Aside0.mk (blk_below (g := gb239) (o := .cells #[.int .i64 a2_0, .int .i64 a2_1, .string a2_2] 24 (0, 0)) (by (with_reducible repeat (first | refine blk_drewN ?_ _ | refine blk_drew ?_ | refine blk_alloc ?_ _)); exact BK239.out) hb); have n6_ := Aside0.mk (blk_below (g := gb240) (o := .cells #[.int .i64 a3_0, .int .i64 a3_1, .string a3_2] 24 (0, 0)) (by (with_reducible repeat (first | refine blk_drewN ?_ _ | refine blk_drew ?_ | refine blk_alloc ?_ _)); exact BK240.out) hb); have n7_ := Aside0.mk (blk_below (g := gb257) (o := .cells #[.int .i64 ((rd_T24 y252 x30_1).f0), .int .i64 ((rd_T24 y252 x30_1).f1), .string ((rd_T24 y252 x30_1).f2)] 24 (0, 0)) (by (with_reducible repeat (first | refine blk_drewN ?_ _ | refine blk_drew ?_ | refine blk_alloc ?_ _)); exact BK257.out) hb); have n8_ := Aside0.mk (blk_below (g := gb259) (o := .cells #[.int .i64 ((rd_T24 y252 x36_2).f0), .int .i64 ((rd_T24 y252 x36_2).f1), .string ((rd_T24 y252 x36_2).f2)] 24 (0, 0)) (by (with_reducible repeat (first | refine blk_drewN ?_ _ | refine blk_drew ?_ | refine blk_alloc ?_ _)); exact BK259.out) hb); have n9_ := Aside0.mk (below_step (by repeat (first | (with_reducible first | exact HB.out | apply below_alloc | apply pw_below_drewN | apply below_drew1 | refine below_set ?_ GE238.out | refine below_set ?_ GE239.out | refine below_set ?_ GE240.out | refine below_set ?_ GE257.out | refine below_set ?_ GE259.out) | exact HB.out)) hb); have n10_ := Aside0.mk (hbox); have n11_ := Aside0.mk ((by rw [hg]; exact (below_size (by repeat (first | (with_reducible first | exact HB.out | apply below_alloc | apply pw_below_drewN | apply below_drew1 | refine below_set ?_ GE238.out | refine below_set ?_ GE239.out | refine below_set ?_ GE240.out | refine below_set ?_ GE257.out | refine below_set ?_ GE259.out) | exact HB.out))) : w.heap.size ≤ gb264)); have n12_ := Aside0.mk ((by rw [hg]; exact (below_size (by repeat (first | (with_reducible first | exact HB.out | apply below_alloc | apply pw_below_drewN | apply below_drew1 | refine below_set ?_ GE238.out | refine below_set ?_ GE239.out | refine below_set ?_ GE240.out | refine below_set ?_ GE257.out | refine below_set ?_ GE259.out) | exact HB.out))) : w.heap.size ≤ gb264)); have n13_ := Aside0.mk ((by rw [hg]; exact Nat.ne_of_lt (blk_lt (g := gb238) (o := .cells #[.int .i64 a1_0, .int .i64 a1_1, .string a1_2] 24 (0, 0)) (by (with_reducible repeat (first | refine blk_drewN ?_ _ | refine blk_drew ?_ | refine blk_alloc ?_ _)); exact BK238.out)) : gb238 ≠ gb264)); have n14_ := Aside0.mk ((by rw [hg]; exact Nat.ne_of_gt (blk_lt (g := gb238) (o := .cells #[.int .i64 a1_0, .int .i64 a1_1, .string a1_2] 24 (0, 0)) (by (with_reducible repeat (first | refine blk_drewN ?_ _ | refine blk_drew ?_ | refine blk_alloc ?_ _)); exact BK238.out)) : gb264 ≠ gb238)); have n15_ := Aside0.mk ((by rw [hg]; exact Nat.ne_of_lt (blk_lt (g := gb239) (o := .cells #[.int .i64 a2_0, .int .i64 a2_1, .string a2_2] 24 (0, 0)) (by (with_reducible repeat (first | refine blk_drewN ?_ _ | refine blk_drew ?_ | refine blk_alloc ?_ _)); exact BK239.out)) : gb239 ≠ gb264)); have n16_ := Aside0.mk ((by rw [hg]; exact Nat.ne_of_gt (blk_lt (g := gb239) (o := .cells #[.int .i64 a2_0, .int .i64 a2_1, .string a2_2] 24 (0, 0)) (by (with_reducible repeat (first | refine blk_drewN ?_ _ | refine blk_drew ?_ | refine blk_alloc ?_ _)); exact BK239.out)) : gb264 ≠ gb239)); have n17_ := Aside0.mk ((by rw [hg]; exact Nat.ne_of_lt (blk_lt (g := gb240) (o := .cells #[.int .i64 a3_0, .int .i64 a3_1, .string a3_2] 24 (0, 0)) (by (with_reducible repeat (first | refine blk_drewN ?_ _ | refine blk_drew ?_ | refine blk_alloc ?_ _)); exact BK240.out)) : gb240 ≠ gb264)); have n18_ := Aside0.mk ((by rw [hg]; exact Nat.ne_of_gt (blk_lt (g := gb240) (o := .cells #[.int .i64 a3_0, .int .i64 a3_1, .string a3_2] 24 (0, 0)) (by (with_reducible repeat (first | refine blk_drewN ?_ _ | refine blk_drew ?_ | refine blk_alloc ?_ _)); exact BK240.out)) : gb264 ≠ gb240)); have n19_ := Aside0.mk ((by rw [hg]; exact Nat.ne_of_lt (blk_lt (g := gb257) (o := .cells #[.int .i64 ((rd_T24 y252 x30_1).f0), .int .i64 ((rd_T24 y252 x30_1).f1), .string ((rd_T24 y252 x30_1).f2)] 24 (0, 0)) (by (with_reducible repeat (first | refine blk_drewN ?_ _ | refine blk_drew ?_ | refine blk_alloc ?_ _)); exact BK257.out)) : gb257 ≠ gb264)); have n20_ := Aside0.mk ((by rw [hg]; exact Nat.ne_of_gt (blk_lt (g := gb257) (o := .cells #[.int .i64 ((rd_T24 y252 x30_1).f0), .int .i64 ((rd_T24 y252 x30_1).f1), .string ((rd_T24 y252 x30_1).f2)] 24 (0, 0)) (by (with_reducible repeat (first | refine blk_drewN ?_ _ | refine blk_drew ?_ | refine blk_alloc ?_ _)); exact BK257.out)) : gb264 ≠ gb257)); have n21_ := Aside0.mk ((by rw [hg]; exact Nat.ne_of_lt (blk_lt (g := gb259) (o := .cells #[.int .i64 ((rd_T24 y252 x36_2).f0), .int .i64 ((rd_T24 y252 x36_2).f1), .string ((rd_T24 y252 x36_2).f2)] 24 (0, 0)) (by (with_reducible repeat (first | refine blk_drewN ?_ _ | refine blk_drew ?_ | refine blk_alloc ?_ _)); exact BK259.out)) : gb259 ≠ gb264)); have n22_ := Aside0.mk ((by rw [hg]; exact Nat.ne_of_gt (blk_lt (g := gb259) (o := .cells #[.int .i64 ((rd_T24 y252 x36_2).f0), .int .i64 ((rd_T24 y252 x36_2).f1), .string ((rd_T24 y252 x36_2).f2)] 24 (0, 0)) (by (with_reducible repeat (first | refine blk_drewN ?_ _ | refine blk_drew ?_ | refine blk_alloc ?_ _)); exact BK259.out)) : gb264 ≠ gb259)); clear HO_10; clear HO_28; clear HO_34; clear HO_64; clear BK238; clear BK239; clear BK240; clear BK257; clear BK259; clear HB; have HO_10 := n0_; have HO_28 := n1_; have HO_34 := n2_; have HO_64 := n3_; have BK238 := n4_; have BK239 := n5_; have BK240 := n6_; have BK257 := n7_; have BK259 := n8_; have HB := n9_; have BK264 := n10_; have GW264 := n11_; have GE264 := n12_; have NB238_264 := n13_; have NB264_238 := n14_; have NB239_264 := n15_; have NB264_239 := n16_; have NB240_264 := n17_; have NB264_240 := n18_; have NB257_264 := n19_; have NB264_257 := n20_; have NB259_264 := n21_; have NB264_259 := n22_; clear n0_ n1_ n2_ n3_ n4_ n5_ n6_ n7_ n8_ n9_ n10_ n11_ n12_ n13_ n14_ n15_ n16_ n17_ n18_ n19_ n20_ n21_ n22_; clear hb hbox hg; have hnb94 := NB264_238.out; have hnc94 := NB238_264.out; have hnb95 := NB264_239.out; have hnc95 := NB239_264.out; have hnb96 := NB264_240.out; have hnc96 := NB240_264.out; have hnb97 := NB264_257.out; have hnc97 := NB257_264.out; have hnb98 := NB264_259.out; have hnc98 := NB259_264.out; have hcz99_0 : w93.cell? ⟨gb264, 0, none⟩ = some (.int .i64 0) := (blk_cell BK264.out 0).trans rfl; have hcz99_1 : w93.cell? ⟨gb264, 1, none⟩ = some (.int .i64 0) := (blk_cell BK264.out 1).trans rfl; have hcz99_2 : w93.cell? ⟨gb264, 2, none⟩ = some (.string (⟨#[]⟩ : ByteArray)) := (blk_cell BK264.out 2).trans rfl; have hfz99_0 := blk_frozen BK264.out 0; have hfz99_1 := blk_frozen BK264.out 1; have hfz99_2 := blk_frozen BK264.out 2; have hnb100 := NB259_238.out; have hnc100 := NB238_259.out; have hnb101 := NB259_239.out; have hnc101 := NB239_259.out; have hnb102 := NB259_240.out; have hnc102 := NB240_259.out; have hnb103 := NB259_257.out; have hnc103 := NB257_259.out; have hcz104_0 : w93.cell? ⟨gb259, 0, none⟩ = some (.int .i64 ((rd_T24 y252 x36_2).f0)) := (blk_cell BK259.out 0).trans rfl; have hcz104_1 : w93.cell? ⟨gb259, 1, none⟩ = some (.int .i64 ((rd_T24 y252 x36_2).f1)) := (blk_cell BK259.out 1).trans rfl; have hcz104_2 : w93.cell? ⟨gb259, 2, none⟩ = some (.string ((rd_T24 y252 x36_2).f2)) := (blk_cell BK259.out 2).trans rfl; have hfz104_0 := blk_frozen BK259.out 0; have hfz104_1 := blk_frozen BK259.out 1; have hfz104_2 := blk_frozen BK259.out 2) | (go_at_call 25; (with_reducible refine (value_Compare.calls ((rd_T24 y252 x36_2).f0) ((rd_T24 y252 x36_2).f1) ((rd_T24 y252 x36_2).f2) ((rd_T24 y252 x66_4).f0) ((rd_T24 y252 x66_4).f1) ((rd_T24 y252 x66_4).f2) t265 _ A89.out).mono ?_); rintro e w105 ⟨rfl, hb⟩; have n0_ := Aside0.mk (Kd.R_below (by (with_reducible repeat (first | apply Kd.R_alloc | apply Kd.R_drewN | apply Kd.R_drew)); exact (Kd.R_mono (Kd.R_far (p := ⟨gb264, 2, none⟩) (Kd.R_far (p := ⟨gb264, 1, none⟩) (Kd.R_far (p := ⟨gb264, 0, none⟩) (Kd.R_mono HO_10.out (fun k_ hk => (⟨hk, hk.2⟩ : _ ∧ k_ ≠ gb264))) (fun _ hk => hk.2) (.int .i64 ((rd_T24 y252 x66_4).f0))) (fun _ hk => hk.2) (.int .i64 ((rd_T24 y252 x66_4).f1))) (fun _ hk => hk.2) (.string ((rd_T24 y252 x66_4).f2))) (fun _ h_ => h_.1))) hb); have n1_ := Aside0.mk (Kd.R_below (by (with_reducible repeat (first | apply Kd.R_alloc | apply Kd.R_drewN | apply Kd.R_drew)); exact (Kd.R_mono (Kd.R_far (p := ⟨gb264, 2, none⟩) (Kd.R_far (p := ⟨gb264, 1, none⟩) (Kd.R_far (p := ⟨gb264, 0, none⟩) (Kd.R_mono HO_28.out (fun k_ hk => (⟨hk, hk.2⟩ : _ ∧ k_ ≠ gb264))) (fun _ hk => hk.2) (.int .i64 ((rd_T24 y252 x66_4).f0))) (fun _ hk => hk.2) (.int .i64 ((rd_T24 y252 x66_4).f1))) (fun _ hk => hk.2) (.string ((rd_T24 y252 x66_4).f2))) (fun _ h_ => h_.1))) hb); have n2_ := Aside0.mk (Kd.R_below (by (with_reducible repeat (first | apply Kd.R_alloc | apply Kd.R_drewN | apply Kd.R_drew)); exact (Kd.R_mono (Kd.R_far (p := ⟨gb264, 2, none⟩) (Kd.R_far (p := ⟨gb264, 1, none⟩) (Kd.R_far (p := ⟨gb264, 0, none⟩) (Kd.R_mono HO_34.out (fun k_ hk => (⟨hk, hk.2⟩ : _ ∧ k_ ≠ gb264))) (fun _ hk => hk.2) (.int .i64 ((rd_T24 y252 x66_4).f0))) (fun _ hk => hk.2) (.int .i64 ((rd_T24 y252 x66_4).f1))) (fun _ hk => hk.2) (.string ((rd_T24 y252 x66_4).f2))) (fun _ h_ => h_.1))) hb); have n3_ := Aside0.mk (Kd.R_below (by (with_reducible repeat (first | apply Kd.R_alloc | apply Kd.R_drewN | apply Kd.R_drew)); exact (Kd.R_mono (Kd.R_far (p := ⟨gb264, 2, none⟩) (Kd.R_far (p := ⟨gb264, 1, none⟩) (Kd.R_far (p := ⟨gb264, 0, none⟩) (Kd.R_mono HO_64.out (fun k_ hk => (⟨hk, hk.2⟩ : _ ∧ k_ ≠ gb264))) (fun _ hk => hk.2) (.int .i64 ((rd_T24 y252 x66_4).f0))) (fun _ hk => hk.2) (.int .i64 ((rd_T24 y252 x66_4).f1))) (fun _ hk => hk.2) (.string ((rd_T24 y252 x66_4).f2))) (fun _ h_ => h_.1))) hb); have n4_ := Aside0.mk (blk_below (g := gb238) (o := .cells #[.int .i64 a1_0, .int .i64 a1_1, .string a1_2] 24 (0, 0)) (by (with_reducible repeat (first | refine blk_drewN ?_ _ | refine blk_drew ?_ | refine blk_alloc ?_ _)); refine blk_far ?_ NB238_264.out _; (with_reducible repeat (first | refine blk_drewN ?_ _ | refine blk_drew ?_ | refine blk_alloc ?_ _)); refine blk_far ?_ NB238_264.out _; (with_reducible repeat (first | refine blk_drewN ?_ _ | refine blk_drew ?_ | refine blk_alloc ?_ _)); refine blk_far ?_ NB238_264.out _; (with_reducible repeat (first | refine blk_drewN ?_ _ | refine blk_drew ?_ | refine blk_alloc ?_ _)); exact BK238.out) hb); have n5_ := Aside0.mk (blk_below (g := gb239) (o := .cells #[.int .i64 a2_0, .int .i64 a2_1, .string a2_2] 24 (0, 0)) (by (with_reducible repeat (first | refine blk_drewN ?_ _ | refine blk_drew ?_ | refine blk_alloc ?_ _)); refine blk_far ?_ NB239_264.out _; (with_reducible repeat (first | refine blk_drewN ?_ _ | refine blk_drew ?_ | refine blk_alloc ?_ _)); refine blk_far ?_ NB239_264.out _; (with_reducible repeat (first | refine blk_drewN ?_ _ | refine blk_drew ?_ | refine blk_alloc ?_ _)); refine blk_far ?_ NB239_264.out _; (with_reducible repeat (first | refine blk_drewN ?_ _ | refine blk_drew ?_ | refine blk_alloc ?_ _)); exact BK239.out) hb); have n6_ := Aside0.mk (blk_below (g := gb240) (o := .cells #[.int .i64 a3_0, .int .i64 a3_1, .string a3_2] 24 (0, 0)) (by (with_reducible repeat (first | refine blk_drewN ?_ _ | refine blk_drew ?_ | refine blk_alloc ?_ _)); refine blk_far ?_ NB240_264.out _; (with_reducible repeat (first | refine blk_drewN ?_ _ | refine blk_drew ?_ | refine blk_alloc ?_ _)); refine blk_far ?_ NB240_264.out _; (with_reducible repeat (first | refine blk_drewN ?_ _ | refine blk_drew ?_ | refine blk_alloc ?_ _)); refine blk_far ?_ NB240_264.out _; (with_reducible repeat (first | refine blk_drewN ?_ _ | refine blk_drew ?_ | refine blk_alloc ?_ _)); exact BK240.out) hb); have n7_ := Aside0.mk (blk_below (g := gb257) (o := .cells #[.int .i64 ((rd_T24 y252 x30_1).f0), .int .i64 ((rd_T24 y252 x30_1).f1), .string ((rd_T24 y252 x30_1).f2)] 24 (0, 0)) (by (with_reducible repeat (first | refine blk_drewN ?_ _ | refine blk_drew ?_ | refine blk_alloc ?_ _)); refine blk_far ?_ NB257_264.out _; (with_reducible repeat (first | refine blk_drewN ?_ _ | refine blk_drew ?_ | refine blk_alloc ?_ _)); refine blk_far ?_ NB257_264.out _; (with_reducible repeat (first | refine blk_drewN ?_ _ | refine blk_drew ?_ | refine blk_alloc ?_ _)); refine blk_far ?_ NB257_264.out _; (with_reducible repeat (first | refine blk_drewN ?_ _ | refine blk_drew ?_ | refine blk_alloc ?_ _)); exact BK257.out) hb); have n8_ := Aside0.mk (blk_below (g := gb259) (o := .cells #[.int .i64 ((rd_T24 y252 x36_2).f0), .int .i64 ((rd_T24 y252 x36_2).f1), .string ((rd_T24 y252 x36_2).f2)] 24 (0, 0)) (by (with_reducible repeat (first | refine blk_drewN ?_ _ | refine blk_drew ?_ | refine blk_alloc ?_ _)); refine blk_far ?_ NB259_264.out _; (with_reducible repeat (first | refine blk_drewN ?_ _ | refine blk_drew ?_ | refine blk_alloc ?_ _)); refine blk_far ?_ NB259_264.out _; (with_reducible repeat (first | refine blk_drewN ?_ _ | refine blk_drew ?_ | refine blk_alloc ?_ _)); refine blk_far ?_ NB259_264.out _; (with_reducible repeat (first | refine blk_drewN ?_ _ | refine blk_drew ?_ | refine blk_alloc ?_ _)); exact BK259.out) hb); have n9_ := Aside0.mk (blk_below (g := gb264) (o := .cells #[.int .i64 ((rd_T24 y252 x66_4).f0), .int .i64 ((rd_T24 y252 x66_4).f1), .string ((rd_T24 y252 x66_4).f2)] 24 (0, 0)) (by (with_reducible repeat (first | refine blk_drewN ?_ _ | refine blk_drew ?_ | refine blk_alloc ?_ _)); refine blk_put (cs := #[.int .i64 ((rd_T24 y252 x66_4).f0), .int .i64 ((rd_T24 y252 x66_4).f1), .string (⟨#[]⟩ : ByteArray)]) ?_ 2 _ rfl; (with_reducible repeat (first | refine blk_drewN ?_ _ | refine blk_drew ?_ | refine blk_alloc ?_ _)); refine blk_put (cs := #[.int .i64 ((rd_T24 y252 x66_4).f0), .int .i64 0, .string (⟨#[]⟩ : ByteArray)]) ?_ 1 _ rfl; (with_reducible repeat (first | refine blk_drewN ?_ _ | refine blk_drew ?_ | refine blk_alloc ?_ _)); refine blk_put (cs := #[.int .i64 0, .int .i64 0, .string (⟨#[]⟩ : ByteArray)]) ?_ 0 _ rfl; (with_reducible repeat (first | refine blk_drewN ?_ _ | refine blk_drew ?_ | refine blk_alloc ?_ _)); exact BK264.out) hb); have n10_ := Aside0.mk (below_step (by repeat (first | (with_reducible first | exact HB.out | apply below_alloc | apply pw_below_drewN | apply below_drew1 | refine below_set ?_ GE238.out | refine below_set ?_ GE239.out | refine below_set ?_ GE240.out | refine below_set ?_ GE257.out | refine below_set ?_ GE259.out | refine below_set ?_ GE264.out) | exact HB.out)) hb); clear HO_10; clear HO_28; clear HO_34; clear HO_64; clear BK238; clear BK239; clear BK240; clear BK257; clear BK259; clear BK264; clear HB; have HO_10 := n0_; have HO_28 := n1_; have HO_34 := n2_; have HO_64 := n3_; have BK238 := n4_; have BK239 := n5_; have BK240 := n6_; have BK257 := n7_; have BK259 := n8_; have BK264 := n9_; have HB := n10_; clear n0_ n1_ n2_ n3_ n4_ n5_ n6_ n7_ n8_ n9_ n10_; (try clear hb); (try clear hb2); (try clear hk); (try clear hi); have hnb106 := NB257_238.out; have hnc106 := NB238_257.out; have hnb107 := NB257_239.out; have hnc107 := NB239_257.out; have hnb108 := NB257_240.out; have hnc108 := NB240_257.out; have hcz109_0 : w105.cell? ⟨gb257, 0, none⟩ = some (.int .i64 ((rd_T24 y252 x30_1).f0)) := (blk_cell BK257.out 0).trans rfl; have hcz109_1 : w105.cell? ⟨gb257, 1, none⟩ = some (.int .i64 ((rd_T24 y252 x30_1).f1)) := (blk_cell BK257.out 1).trans rfl; have hcz109_2 : w105.cell? ⟨gb257, 2, none⟩ = some (.string ((rd_T24 y252 x30_1).f2)) := (blk_cell BK257.out 2).trans rfl; have hfz109_0 := blk_frozen BK257.out 0; have hfz109_1 := blk_frozen BK257.out 1; have hfz109_2 := blk_frozen BK257.out 2; have hcz110_0 : w105.cell? ⟨gb264, 0, none⟩ = some (.int .i64 ((rd_T24 y252 x66_4).f0)) := (blk_cell BK264.out 0).trans rfl; have hcz110_1 : w105.cell? ⟨gb264, 1, none⟩ = some (.int .i64 ((rd_T24 y252 x66_4).f1)) := (blk_cell BK264.out 1).trans rfl; have hcz110_2 : w105.cell? ⟨gb264, 2, none⟩ = some (.string ((rd_T24 y252 x66_4).f2)) := (blk_cell BK264.out 2).trans rfl; have hfz110_0 := blk_frozen BK264.out 0; have hfz110_1 := blk_frozen BK264.out 1; have hfz110_2 := blk_frozen BK264.out 2) | (go_at_call 25; (with_reducible refine (value_Compare.calls ((rd_T24 y252 x30_1).f0) ((rd_T24 y252 x30_1).f1) ((rd_T24 y252 x30_1).f2) ((rd_T24 y252 x66_4).f0) ((rd_T24 y252 x66_4).f1) ((rd_T24 y252 x66_4).f2) t266 _ A91.out).mono ?_); rintro e w111 ⟨rfl, hb⟩; have n0_ := Aside0.mk (Kd.R_below (by (with_reducible repeat (first | apply Kd.R_alloc | apply Kd.R_drewN | apply Kd.R_drew)); exact HO_10.out) hb); have n1_ := Aside0.mk (Kd.R_below (by (with_reducible repeat (first | apply Kd.R_alloc | apply Kd.R_drewN | apply Kd.R_drew)); exact HO_28.out) hb); have n2_ := Aside0.mk (Kd.R_below (by (with_reducible repeat (first | apply Kd.R_alloc | apply Kd.R_drewN | apply Kd.R_drew)); exact HO_34.out) hb); have n3_ := Aside0.mk (Kd.R_below (by (with_reducible repeat (first | apply Kd.R_alloc | apply Kd.R_drewN | apply Kd.R_drew)); exact HO_64.out) hb); have n4_ := Aside0.mk (blk_below (g := gb238) (o := .cells #[.int .i64 a1_0, .int .i64 a1_1, .string a1_2] 24 (0, 0)) (by (with_reducible repeat (first | refine blk_drewN ?_ _ | refine blk_drew ?_ | refine blk_alloc ?_ _)); exact BK238.out) hb); have n5_ := Aside0.mk (blk_below (g := gb239) (o := .cells #[.int .i64 a2_0, .int .i64 a2_1, .string a2_2] 24 (0, 0)) (by (with_reducible repeat (first | refine blk_drewN ?_ _ | refine blk_drew ?_ | refine blk_alloc ?_ _)); exact BK239.out) hb); have n6_ := Aside0.mk (blk_below (g := gb240) (o := .cells #[.int .i64 a3_0, .int .i64 a3_1, .string a3_2] 24 (0, 0)) (by (with_reducible repeat (first | refine blk_drewN ?_ _ | refine blk_drew ?_ | refine blk_alloc ?_ _)); exact BK240.out) hb); have n7_ := Aside0.mk (blk_below (g := gb257) (o := .cells #[.int .i64 ((rd_T24 y252 x30_1).f0), .int .i64 ((rd_T24 y252 x30_1).f1), .string ((rd_T24 y252 x30_1).f2)] 24 (0, 0)) (by (with_reducible repeat (first | refine blk_drewN ?_ _ | refine blk_drew ?_ | refine blk_alloc ?_ _)); exact BK257.out) hb); have n8_ := Aside0.mk (blk_below (g := gb259) (o := .cells #[.int .i64 ((rd_T24 y252 x36_2).f0), .int .i64 ((rd_T24 y252 x36_2).f1), .string ((rd_T24 y252 x36_2).f2)] 24 (0, 0)) (by (with_reducible repeat (first | refine blk_drewN ?_ _ | refine blk_drew ?_ | refine blk_alloc ?_ _)); exact BK259.out) hb); have n9_ := Aside0.mk (blk_below (g := gb264) (o := .cells #[.int .i64 ((rd_T24 y252 x66_4).f0), .int .i64 ((rd_T24 y252 x66_4).f1), .string ((rd_T24 y252 x66_4).f2)] 24 (0, 0)) (by (with_reducible repeat (first | refine blk_drewN ?_ _ | refine blk_drew ?_ | refine blk_alloc ?_ _)); exact BK264.out) hb); have n10_ := Aside0.mk (below_step (by repeat (first | (with_reducible first | exact HB.out | apply below_alloc | apply pw_below_drewN | apply below_drew1 | refine below_set ?_ GE238.out | refine below_set ?_ GE239.out | refine below_set ?_ GE240.out | refine below_set ?_ GE257.out | refine below_set ?_ GE259.out | refine below_set ?_ GE264.out) | exact HB.out)) hb); clear HO_10; clear HO_28; clear HO_34; clear HO_64; clear BK238; clear BK239; clear BK240; clear BK257; clear BK259; clear BK264; clear HB; have HO_10 := n0_; have HO_28 := n1_; have HO_34 := n2_; have HO_64 := n3_; have BK238 := n4_; have BK239 := n5_; have BK240 := n6_; have BK257 := n7_; have BK259 := n8_; have BK264 := n9_; have HB := n10_; clear n0_ n1_ n2_ n3_ n4_ n5_ n6_ n7_ n8_ n9_ n10_; (try clear hb); (try clear hb2); (try clear hk); (try clear hi)))
                                            go_roundg k4
                                            case measure => have := HK1.out; have := HK2.out; have := HJ29.out; have := HK4.out; omega
                                            case rel => exact ⟨(wrap64 (x66_4 + 1)), (by first | rfl | (simp; done) | (simp [*]; done)), H', ⟨by have := HK1.out; have := HK2.out; have := HJ29.out; have := HK4.out; omega⟩, ⟨by (with_reducible repeat (first | apply Kd.R_alloc | apply Kd.R_drewN | apply Kd.R_drew)); exact Kd.R_mono HO_10.out (fun _ hk => ⟨hk.1.1, ⟨hk.1.2.1, ⟨hk.1.2.2.1, ⟨hk.1.2.2.2.1, hk.1.2.2.2.2⟩⟩⟩⟩)⟩, ⟨by (with_reducible repeat (first | apply Kd.R_alloc | apply Kd.R_drewN | apply Kd.R_drew)); exact Kd.R_mono HO_28.out (fun _ hk => ⟨hk.1.1, ⟨hk.1.2.1, ⟨hk.1.2.2.1, ⟨hk.1.2.2.2.1, hk.1.2.2.2.2⟩⟩⟩⟩)⟩, ⟨by (with_reducible repeat (first | apply Kd.R_alloc | apply Kd.R_drewN | apply Kd.R_drew)); exact Kd.R_mono HO_34.out (fun _ hk => ⟨hk.1.1, ⟨hk.1.2.1, ⟨hk.1.2.2.1, ⟨hk.1.2.2.2.1, hk.1.2.2.2.2⟩⟩⟩⟩)⟩, ⟨by (with_reducible repeat (first | apply Kd.R_alloc | apply Kd.R_drewN | apply Kd.R_drew)); exact Kd.R_mono HO_64.out (fun _ hk => ⟨hk.1.1, ⟨hk.1.2.1, ⟨hk.1.2.2.1, ⟨hk.1.2.2.2.1, hk.1.2.2.2.2⟩⟩⟩⟩)⟩, ⟨by (with_reducible repeat (first | refine blk_drewN ?_ _ | refine blk_drew ?_ | refine blk_alloc ?_ _)); exact BK238.out⟩, ⟨by (with_reducible repeat (first | refine blk_drewN ?_ _ | refine blk_drew ?_ | refine blk_alloc ?_ _)); exact BK239.out⟩, ⟨by (with_reducible repeat (first | refine blk_drewN ?_ _ | refine blk_drew ?_ | refine blk_alloc ?_ _)); exact BK240.out⟩, ⟨by (with_reducible repeat (first | refine blk_drewN ?_ _ | refine blk_drew ?_ | refine blk_alloc ?_ _)); exact BK257.out⟩, ⟨by (with_reducible repeat (first | refine blk_drewN ?_ _ | refine blk_drew ?_ | refine blk_alloc ?_ _)); exact BK259.out⟩, ⟨by repeat (first | (with_reducible first | exact HB.out | apply below_alloc | apply pw_below_drewN | apply below_drew1 | refine below_set ?_ GE238.out | refine below_set ?_ GE239.out | refine below_set ?_ GE240.out | refine below_set ?_ GE257.out | refine below_set ?_ GE259.out | refine below_set ?_ GE264.out) | exact HB.out)⟩⟩
                                        · rw [if_neg c90] at H
                                          have c90b0 : decide (t265 ≤ 0) = false := decide_eq_false c90
                                          clear c90
                                          have H' := Aside0.mk H
                                          clear H
                                          have p263 : 0 ≤ (x66_4 : Int) := of_decide_eq_true (by first | (with_reducible assumption) | assumption)
                                          have q263 : x66_4 < (y252.length : Int) := of_decide_eq_true (by first | (with_reducible assumption) | assumption)
                                          obtain ⟨ad263, e263, hx263_0, hx263_1, hx263_2⟩ := at_T24 (Kd.R_reads' HO_64.out).2.2 x66_4 p263 q263
                                          obtain rfl : ad256 = ad263 := (by injection e263)
                                          replace p263 := eq_true p263
                                          replace q263 := eq_true q263
                                          go_wp2_with (first | ((with_reducible refine gate_dst (N := 17) rfl ?_); refine box_event ?hg (N := 17) ?hd (cs := #[.int .i64 0, .int .i64 0, .string (⟨#[]⟩ : ByteArray)]) (t := 24) ?hr ?_; (case hd => rfl); (case hg => rfl); (case hr => first | (go_simp; done) | (go_simp; rfl)); intro gb264 hg w112 hbox hb; have n0_ := Aside0.mk (Kd.R_below (Kd.R_elderB (by (with_reducible repeat (first | apply Kd.R_alloc | apply Kd.R_drewN | apply Kd.R_drew)); exact HO_10.out) gb264 (Nat.le_of_eq hg.symm)) hb); have n1_ := Aside0.mk (Kd.R_below (Kd.R_elderB (by (with_reducible repeat (first | apply Kd.R_alloc | apply Kd.R_drewN | apply Kd.R_drew)); exact HO_28.out) gb264 (Nat.le_of_eq hg.symm)) hb); have n2_ := Aside0.mk (Kd.R_below (Kd.R_elderB (by (with_reducible repeat (first | apply Kd.R_alloc | apply Kd.R_drewN | apply Kd.R_drew)); exact HO_34.out) gb264 (Nat.le_of_eq hg.symm)) hb); have n3_ := Aside0.mk (Kd.R_below (Kd.R_elderB (by (with_reducible repeat (first | apply Kd.R_alloc | apply Kd.R_drewN | apply Kd.R_drew)); exact HO_64.out) gb264 (Nat.le_of_eq hg.symm)) hb); have n4_ := Aside0.mk (blk_below (g := gb238) (o := .cells #[.int .i64 a1_0, .int .i64 a1_1, .string a1_2] 24 (0, 0)) (by (with_reducible repeat (first | refine blk_drewN ?_ _ | refine blk_drew ?_ | refine blk_alloc ?_ _)); exact BK238.out) hb); have n5_ := Aside0.mk (blk_below (g := gb239) (o := .cells #[.int .i64 a2_0, .int .i64 a2_1, .string a2_2] 24 (0, 0)) (by (with_reducible repeat (first | refine blk_drewN ?_ _ | refine blk_drew ?_ | refine blk_alloc ?_ _)); exact BK239.out) hb); have n6_ := Aside0.mk (blk_below (g := gb240) (o := .cells #[.int .i64 a3_0, .int .i64 a3_1, .string a3_2] 24 (0, 0)) (by (with_reducible repeat (first | refine blk_drewN ?_ _ | refine blk_drew ?_ | refine blk_alloc ?_ _)); exact BK240.out) hb); have n7_ := Aside0.mk (blk_below (g := gb257) (o := .cells #[.int .i64 ((rd_T24 y252 x30_1).f0), .int .i64 ((rd_T24 y252 x30_1).f1), .string ((rd_T24 y252 x30_1).f2)] 24 (0, 0)) (by (with_reducible repeat (first | refine blk_drewN ?_ _ | refine blk_drew ?_ | refine blk_alloc ?_ _)); exact BK257.out) hb); have n8_ := Aside0.mk (blk_below (g := gb259) (o := .cells #[.int .i64 ((rd_T24 y252 x36_2).f0), .int .i64 ((rd_T24 y252 x36_2).f1), .string ((rd_T24 y252 x36_2).f2)] 24 (0, 0)) (by (with_reducible repeat (first | refine blk_drewN ?_ _ | refine blk_drew ?_ | refine blk_alloc ?_ _)); exact BK259.out) hb); have n9_ := Aside0.mk (below_step (by repeat (first | (with_reducible first | exact HB.out | apply below_alloc | apply pw_below_drewN | apply below_drew1 | refine below_set ?_ GE238.out | refine below_set ?_ GE239.out | refine below_set ?_ GE240.out | refine below_set ?_ GE257.out | refine below_set ?_ GE259.out) | exact HB.out)) hb); have n10_ := Aside0.mk (hbox); have n11_ := Aside0.mk ((by rw [hg]; exact (below_size (by repeat (first | (with_reducible first | exact HB.out | apply below_alloc | apply pw_below_drewN | apply below_drew1 | refine below_set ?_ GE238.out | refine below_set ?_ GE239.out | refine below_set ?_ GE240.out | refine below_set ?_ GE257.out | refine below_set ?_ GE259.out) | exact HB.out))) : w.heap.size ≤ gb264)); have n12_ := Aside0.mk ((by rw [hg]; exact (below_size (by repeat (first | (with_reducible first | exact HB.out | apply below_alloc | apply pw_below_drewN | apply below_drew1 | refine below_set ?_ GE238.out | refine below_set ?_ GE239.out | refine below_set ?_ GE240.out | refine below_set ?_ GE257.out | refine below_set ?_ GE259.out) | exact HB.out))) : w.heap.size ≤ gb264)); have n13_ := Aside0.mk ((by rw [hg]; exact Nat.ne_of_lt (blk_lt (g := gb238) (o := .cells #[.int .i64 a1_0, .int .i64 a1_1, .string a1_2] 24 (0, 0)) (by (with_reducible repeat (first | refine blk_drewN ?_ _ | refine blk_drew ?_ | refine blk_alloc ?_ _)); exact BK238.out)) : gb238 ≠ gb264)); have n14_ := Aside0.mk ((by rw [hg]; exact Nat.ne_of_gt (blk_lt (g := gb238) (o := .cells #[.int .i64 a1_0, .int .i64 a1_1, .string a1_2] 24 (0, 0)) (by (with_reducible repeat (first | refine blk_drewN ?_ _ | refine blk_drew ?_ | refine blk_alloc ?_ _)); exact BK238.out)) : gb264 ≠ gb238)); have n15_ := Aside0.mk ((by rw [hg]; exact Nat.ne_of_lt (blk_lt (g := gb239) (o := .cells #[.int .i64 a2_0, .int .i64 a2_1, .string a2_2] 24 (0, 0)) (by (with_reducible repeat (first | refine blk_drewN ?_ _ | refine blk_drew ?_ | refine blk_alloc ?_ _)); exact BK239.out)) : gb239 ≠ gb264)); have n16_ := Aside0.mk ((by rw [hg]; exact Nat.ne_of_gt (blk_lt (g := gb239) (o := .cells #[.int .i64 a2_0, .int .i64 a2_1, .string a2_2] 24 (0, 0)) (by (with_reducible repeat (first | refine blk_drewN ?_ _ | refine blk_drew ?_ | refine blk_alloc ?_ _)); exact BK239.out)) : gb264 ≠ gb239)); have n17_ := Aside0.mk ((by rw [hg]; exact Nat.ne_of_lt (blk_lt (g := gb240) (o := .cells #[.int .i64 a3_0, .int .i64 a3_1, .string a3_2] 24 (0, 0)) (by (with_reducible repeat (first | refine blk_drewN ?_ _ | refine blk_drew ?_ | refine blk_alloc ?_ _)); exact BK240.out)) : gb240 ≠ gb264)); have n18_ := Aside0.mk ((by rw [hg]; exact Nat.ne_of_gt (blk_lt (g := gb240) (o := .cells #[.int .i64 a3_0, .int .i64 a3_1, .string a3_2] 24 (0, 0)) (by (with_reducible repeat (first | refine blk_drewN ?_ _ | refine blk_drew ?_ | refine blk_alloc ?_ _)); exact BK240.out)) : gb264 ≠ gb240)); have n19_ := Aside0.mk ((by rw [hg]; exact Nat.ne_of_lt (blk_lt (g := gb257) (o := .cells #[.int .i64 ((rd_T24 y252 x30_1).f0), .int .i64 ((rd_T24 y252 x30_1).f1), .string ((rd_T24 y252 x30_1).f2)] 24 (0, 0)) (by (with_reducible repeat (first | refine blk_drewN ?_ _ | refine blk_drew ?_ | refine blk_alloc ?_ _)); exact BK257.out)) : gb257 ≠ gb264)); have n20_ := Aside0.mk ((by rw [hg]; exact Nat.ne_of_gt (blk_lt (g := gb257) (o := .cells #[.int .i64 ((rd_T24 y252 x30_1).f0), .int .i64 ((rd_T24 y252 x30_1).f1), .string ((rd_T24 y252 x30_1).f2)] 24 (0, 0)) (by (with_reducible repeat (first | refine blk_drewN ?_ _ | refine blk_drew ?_ | refine blk_alloc ?_ _)); exact BK257.out)) : gb264 ≠ gb257)); have n21_ := Aside0.mk ((by rw [hg]; exact Nat.ne_of_lt (blk_lt (g := gb259) (o := .cells #[.int .i64 ((rd_T24 y252 x36_2).f0), .int .i64 ((rd_T24 y252 x36_2).f1), .string ((rd_T24 y252 x36_2).f2)] 24 (0, 0)) (by (with_reducible repeat (first | refine blk_drewN ?_ _ | refine blk_drew ?_ | refine blk_alloc ?_ _)); exact BK259.out)) : gb259 ≠ gb264)); have n22_ := Aside0.mk ((by rw [hg]; exact Nat.ne_of_gt (blk_lt (g := gb259) (o := .cells #[.int .i64 ((rd_T24 y252 x36_2).f0), .int .i64 ((rd_T24 y252 x36_2).f1), .string ((rd_T24 y252 x36_2).f2)] 24 (0, 0)) (by (with_reducible repeat (first | refine blk_drewN ?_ _ | refine blk_drew ?_ | refine blk_alloc ?_ _)); exact BK259.out)) : gb264 ≠ gb259)); clear HO_10; clear HO_28; clear HO_34; clear HO_64; clear BK238; clear BK239; clear BK240; clear BK257; clear BK259; clear HB; have HO_10 := n0_; have HO_28 := n1_; have HO_34 := n2_; have HO_64 := n3_; have BK238 := n4_; have BK239 := n5_; have BK240 := n6_; have BK257 := n7_; have BK259 := n8_; have HB := n9_; have BK264 := n10_; have GW264 := n11_; have GE264 := n12_; have NB238_264 := n13_; have NB264_238 := n14_; have NB239_264 := n15_; have NB264_239 := n16_; have NB240_264 := n17_; have NB264_240 := n18_; have NB257_264 := n19_; have NB264_257 := n20_; have NB259_264 := n21_; have NB264_259 := n22_; clear n0_ n1_ n2_ n3_ n4_ n5_ n6_ n7_ n8_ n9_ n10_ n11_ n12_ n13_ n14_ n15_ n16_ n17_ n18_ n19_ n20_ n21_ n22_; clear hb hbox hg; have hnb113 := NB264_238.out; have hnc113 := NB238_264.out; have hnb114 := NB264_239.out; have hnc114 := NB239_264.out; have hnb115 := NB264_240.out; have hnc115 := NB240_264.out; have hnb116 := NB264_257.out; have hnc116 := NB257_264.out; have hnb117 := NB264_259.out; have hnc117 := NB259_264.out; have hcz118_0 : w112.cell? ⟨gb264, 0, none⟩ = some (.int .i64 0) := (blk_cell BK264.out 0).trans rfl; have hcz118_1 : w112.cell? ⟨gb264, 1, none⟩ = some (.int .i64 0) := (blk_cell BK264.out 1).trans rfl; have hcz118_2 : w112.cell? ⟨gb264, 2, none⟩ = some (.string (⟨#[]⟩ : ByteArray)) := (blk_cell BK264.out 2).trans rfl; have hfz118_0 := blk_frozen BK264.out 0; have hfz118_1 := blk_frozen BK264.out 1; have hfz118_2 := blk_frozen BK264.out 2; have hnb119 := NB259_238.out; have hnc119 := NB238_259.out; have hnb120 := NB259_239.out; have hnc120 := NB239_259.out; have hnb121 := NB259_240.out; have hnc121 := NB240_259.out; have hnb122 := NB259_257.out; have hnc122 := NB257_259.out; have hcz123_0 : w112.cell? ⟨gb259, 0, none⟩ = some (.int .i64 ((rd_T24 y252 x36_2).f0)) := (blk_cell BK259.out 0).trans rfl; have hcz123_1 : w112.cell? ⟨gb259, 1, none⟩ = some (.int .i64 ((rd_T24 y252 x36_2).f1)) := (blk_cell BK259.out 1).trans rfl; have hcz123_2 : w112.cell? ⟨gb259, 2, none⟩ = some (.string ((rd_T24 y252 x36_2).f2)) := (blk_cell BK259.out 2).trans rfl; have hfz123_0 := blk_frozen BK259.out 0; have hfz123_1 := blk_frozen BK259.out 1; have hfz123_2 := blk_frozen BK259.out 2) | (go_at_call 25; (with_reducible refine (value_Compare.calls ((rd_T24 y252 x36_2).f0) ((rd_T24 y252 x36_2).f1) ((rd_T24 y252 x36_2).f2) ((rd_T24 y252 x66_4).f0) ((rd_T24 y252 x66_4).f1) ((rd_T24 y252 x66_4).f2) t265 _ A89.out).mono ?_); rintro e w124 ⟨rfl, hb⟩; have n0_ := Aside0.mk (Kd.R_below (by (with_reducible repeat (first | apply Kd.R_alloc | apply Kd.R_drewN | apply Kd.R_drew)); exact (Kd.R_mono (Kd.R_far (p := ⟨gb264, 2, none⟩) (Kd.R_far (p := ⟨gb264, 1, none⟩) (Kd.R_far (p := ⟨gb264, 0, none⟩) (Kd.R_mono HO_10.out (fun k_ hk => (⟨hk, hk.2⟩ : _ ∧ k_ ≠ gb264))) (fun _ hk => hk.2) (.int .i64 ((rd_T24 y252 x66_4).f0))) (fun _ hk => hk.2) (.int .i64 ((rd_T24 y252 x66_4).f1))) (fun _ hk => hk.2) (.string ((rd_T24 y252 x66_4).f2))) (fun _ h_ => h_.1))) hb); have n1_ := Aside0.mk (Kd.R_below (by (with_reducible repeat (first | apply Kd.R_alloc | apply Kd.R_drewN | apply Kd.R_drew)); exact (Kd.R_mono (Kd.R_far (p := ⟨gb264, 2, none⟩) (Kd.R_far (p := ⟨gb264, 1, none⟩) (Kd.R_far (p := ⟨gb264, 0, none⟩) (Kd.R_mono HO_28.out (fun k_ hk => (⟨hk, hk.2⟩ : _ ∧ k_ ≠ gb264))) (fun _ hk => hk.2) (.int .i64 ((rd_T24 y252 x66_4).f0))) (fun _ hk => hk.2) (.int .i64 ((rd_T24 y252 x66_4).f1))) (fun _ hk => hk.2) (.string ((rd_T24 y252 x66_4).f2))) (fun _ h_ => h_.1))) hb); have n2_ := Aside0.mk (Kd.R_below (by (with_reducible repeat (first | apply Kd.R_alloc | apply Kd.R_drewN | apply Kd.R_drew)); exact (Kd.R_mono (Kd.R_far (p := ⟨gb264, 2, none⟩) (Kd.R_far (p := ⟨gb264, 1, none⟩) (Kd.R_far (p := ⟨gb264, 0, none⟩) (Kd.R_mono HO_34.out (fun k_ hk => (⟨hk, hk.2⟩ : _ ∧ k_ ≠ gb264))) (fun _ hk => hk.2) (.int .i64 ((rd_T24 y252 x66_4).f0))) (fun _ hk => hk.2) (.int .i64 ((rd_T24 y252 x66_4).f1))) (fun _ hk => hk.2) (.string ((rd_T24 y252 x66_4).f2))) (fun _ h_ => h_.1))) hb); have n3_ := Aside0.mk (Kd.R_below (by (with_reducible repeat (first | apply Kd.R_alloc | apply Kd.R_drewN | apply Kd.R_drew)); exact (Kd.R_mono (Kd.R_far (p := ⟨gb264, 2, none⟩) (Kd.R_far (p := ⟨gb264, 1, none⟩) (Kd.R_far (p := ⟨gb264, 0, none⟩) (Kd.R_mono HO_64.out (fun k_ hk => (⟨hk, hk.2⟩ : _ ∧ k_ ≠ gb264))) (fun _ hk => hk.2) (.int .i64 ((rd_T24 y252 x66_4).f0))) (fun _ hk => hk.2) (.int .i64 ((rd_T24 y252 x66_4).f1))) (fun _ hk => hk.2) (.string ((rd_T24 y252 x66_4).f2))) (fun _ h_ => h_.1))) hb); have n4_ := Aside0.mk (blk_below (g := gb238) (o := .cells #[.int .i64 a1_0, .int .i64 a1_1, .string a1_2] 24 (0, 0)) (by (with_reducible repeat (first | refine blk_drewN ?_ _ | refine blk_drew ?_ | refine blk_alloc ?_ _)); refine blk_far ?_ NB238_264.out _; (with_reducible repeat (first | refine blk_drewN ?_ _ | refine blk_drew ?_ | refine blk_alloc ?_ _)); refine blk_far ?_ NB238_264.out _; (with_reducible repeat (first | refine blk_drewN ?_ _ | refine blk_drew ?_ | refine blk_alloc ?_ _)); refine blk_far ?_ NB238_264.out _; (with_reducible repeat (first | refine blk_drewN ?_ _ | refine blk_drew ?_ | refine blk_alloc ?_ _)); exact BK238.out) hb); have n5_ := Aside0.mk (blk_below (g := gb239) (o := .cells #[.int .i64 a2_0, .int .i64 a2_1, .string a2_2] 24 (0, 0)) (by (with_reducible repeat (first | refine blk_drewN ?_ _ | refine blk_drew ?_ | refine blk_alloc ?_ _)); refine blk_far ?_ NB239_264.out _; (with_reducible repeat (first | refine blk_drewN ?_ _ | refine blk_drew ?_ | refine blk_alloc ?_ _)); refine blk_far ?_ NB239_264.out _; (with_reducible repeat (first | refine blk_drewN ?_ _ | refine blk_drew ?_ | refine blk_alloc ?_ _)); refine blk_far ?_ NB239_264.out _; (with_reducible repeat (first | refine blk_drewN ?_ _ | refine blk_drew ?_ | refine blk_alloc ?_ _)); exact BK239.out) hb); have n6_ := Aside0.mk (blk_below (g := gb240) (o := .cells #[.int .i64 a3_0, .int .i64 a3_1, .string a3_2] 24 (0, 0)) (by (with_reducible repeat (first | refine blk_drewN ?_ _ | refine blk_drew ?_ | refine blk_alloc ?_ _)); refine blk_far ?_ NB240_264.out _; (with_reducible repeat (first | refine blk_drewN ?_ _ | refine blk_drew ?_ | refine blk_alloc ?_ _)); refine blk_far ?_ NB240_264.out _; (with_reducible repeat (first | refine blk_drewN ?_ _ | refine blk_drew ?_ | refine blk_alloc ?_ _)); refine blk_far ?_ NB240_264.out _; (with_reducible repeat (first | refine blk_drewN ?_ _ | refine blk_drew ?_ | refine blk_alloc ?_ _)); exact BK240.out) hb); have n7_ := Aside0.mk (blk_below (g := gb257) (o := .cells #[.int .i64 ((rd_T24 y252 x30_1).f0), .int .i64 ((rd_T24 y252 x30_1).f1), .string ((rd_T24 y252 x30_1).f2)] 24 (0, 0)) (by (with_reducible repeat (first | refine blk_drewN ?_ _ | refine blk_drew ?_ | refine blk_alloc ?_ _)); refine blk_far ?_ NB257_264.out _; (with_reducible repeat (first | refine blk_drewN ?_ _ | refine blk_drew ?_ | refine blk_alloc ?_ _)); refine blk_far ?_ NB257_264.out _; (with_reducible repeat (first | refine blk_drewN ?_ _ | refine blk_drew ?_ | refine blk_alloc ?_ _)); refine blk_far ?_ NB257_264.out _; (with_reducible repeat (first | refine blk_drewN ?_ _ | refine blk_drew ?_ | refine blk_alloc ?_ _)); exact BK257.out) hb); have n8_ := Aside0.mk (blk_below (g := gb259) (o := .cells #[.int .i64 ((rd_T24 y252 x36_2).f0), .int .i64 ((rd_T24 y252 x36_2).f1), .string ((rd_T24 y252 x36_2).f2)] 24 (0, 0)) (by (with_reducible repeat (first | refine blk_drewN ?_ _ | refine blk_drew ?_ | refine blk_alloc ?_ _)); refine blk_far ?_ NB259_264.out _; (with_reducible repeat (first | refine blk_drewN ?_ _ | refine blk_drew ?_ | refine blk_alloc ?_ _)); refine blk_far ?_ NB259_264.out _; (with_reducible repeat (first | refine blk_drewN ?_ _ | refine blk_drew ?_ | refine blk_alloc ?_ _)); refine blk_far ?_ NB259_264.out _; (with_reducible repeat (first | refine blk_drewN ?_ _ | refine blk_drew ?_ | refine blk_alloc ?_ _)); exact BK259.out) hb); have n9_ := Aside0.mk (blk_below (g := gb264) (o := .cells #[.int .i64 ((rd_T24 y252 x66_4).f0), .int .i64 ((rd_T24 y252 x66_4).f1), .string ((rd_T24 y252 x66_4).f2)] 24 (0, 0)) (by (with_reducible repeat (first | refine blk_drewN ?_ _ | refine blk_drew ?_ | refine blk_alloc ?_ _)); refine blk_put (cs := #[.int .i64 ((rd_T24 y252 x66_4).f0), .int .i64 ((rd_T24 y252 x66_4).f1), .string (⟨#[]⟩ : ByteArray)]) ?_ 2 _ rfl; (with_reducible repeat (first | refine blk_drewN ?_ _ | refine blk_drew ?_ | refine blk_alloc ?_ _)); refine blk_put (cs := #[.int .i64 ((rd_T24 y252 x66_4).f0), .int .i64 0, .string (⟨#[]⟩ : ByteArray)]) ?_ 1 _ rfl; (with_reducible repeat (first | refine blk_drewN ?_ _ | refine blk_drew ?_ | refine blk_alloc ?_ _)); refine blk_put (cs := #[.int .i64 0, .int .i64 0, .string (⟨#[]⟩ : ByteArray)]) ?_ 0 _ rfl; (with_reducible repeat (first | refine blk_drewN ?_ _ | refine blk_drew ?_ | refine blk_alloc ?_ _)); exact BK264.out) hb); have n10_ := Aside0.mk (below_step (by repeat (first | (with_reducible first | exact HB.out | apply below_alloc | apply pw_below_drewN | apply below_drew1 | refine below_set ?_ GE238.out | refine below_set ?_ GE239.out | refine below_set ?_ GE240.out | refine below_set ?_ GE257.out | refine below_set ?_ GE259.out | refine below_set ?_ GE264.out) | exact HB.out)) hb); clear HO_10; clear HO_28; clear HO_34; clear HO_64; clear BK238; clear BK239; clear BK240; clear BK257; clear BK259; clear BK264; clear HB; have HO_10 := n0_; have HO_28 := n1_; have HO_34 := n2_; have HO_64 := n3_; have BK238 := n4_; have BK239 := n5_; have BK240 := n6_; have BK257 := n7_; have BK259 := n8_; have BK264 := n9_; have HB := n10_; clear n0_ n1_ n2_ n3_ n4_ n5_ n6_ n7_ n8_ n9_ n10_; (try clear hb); (try clear hb2); (try clear hk); (try clear hi)))
                                          go_roundg k4
                                          case measure => have := HK1.out; have := HK2.out; have := HJ29.out; have := HK4.out; omega
                                          case rel => exact ⟨(wrap64 (x66_4 + 1)), (by first | rfl | (simp; done) | (simp [*]; done)), H', ⟨by have := HK1.out; have := HK2.out; have := HJ29.out; have := HK4.out; omega⟩, ⟨by (with_reducible repeat (first | apply Kd.R_alloc | apply Kd.R_drewN | apply Kd.R_drew)); exact Kd.R_mono HO_10.out (fun _ hk => ⟨hk.1.1, ⟨hk.1.2.1, ⟨hk.1.2.2.1, ⟨hk.1.2.2.2.1, hk.1.2.2.2.2⟩⟩⟩⟩)⟩, ⟨by (with_reducible repeat (first | apply Kd.R_alloc | apply Kd.R_drewN | apply Kd.R_drew)); exact Kd.R_mono HO_28.out (fun _ hk => ⟨hk.1.1, ⟨hk.1.2.1, ⟨hk.1.2.2.1, ⟨hk.1.2.2.2.1, hk.1.2.2.2.2⟩⟩⟩⟩)⟩, ⟨by (with_reducible repeat (first | apply Kd.R_alloc | apply Kd.R_drewN | apply Kd.R_drew)); exact Kd.R_mono HO_34.out (fun _ hk => ⟨hk.1.1, ⟨hk.1.2.1, ⟨hk.1.2.2.1, ⟨hk.1.2.2.2.1, hk.1.2.2.2.2⟩⟩⟩⟩)⟩, ⟨by (with_reducible repeat (first | apply Kd.R_alloc | apply Kd.R_drewN | apply Kd.R_drew)); exact Kd.R_mono HO_64.out (fun _ hk => ⟨hk.1.1, ⟨hk.1.2.1, ⟨hk.1.2.2.1, ⟨hk.1.2.2.2.1, hk.1.2.2.2.2⟩⟩⟩⟩)⟩, ⟨by (with_reducible repeat (first | refine blk_drewN ?_ _ | refine blk_drew ?_ | refine blk_alloc ?_ _)); exact BK238.out⟩, ⟨by (with_reducible repeat (first | refine blk_drewN ?_ _ | refine blk_drew ?_ | refine blk_alloc ?_ _)); exact BK239.out⟩, ⟨by (with_reducible repeat (first | refine blk_drewN ?_ _ | refine blk_drew ?_ | refine blk_alloc ?_ _)); exact BK240.out⟩, ⟨by (with_reducible repeat (first | refine blk_drewN ?_ _ | refine blk_drew ?_ | refine blk_alloc ?_ _)); exact BK257.out⟩, ⟨by (with_reducible repeat (first | refine blk_drewN ?_ _ | refine blk_drew ?_ | refine blk_alloc ?_ _)); exact BK259.out⟩, ⟨by repeat (first | (with_reducible first | exact HB.out | apply below_alloc | apply pw_below_drewN | apply below_drew1 | refine below_set ?_ GE238.out | refine below_set ?_ GE239.out | refine below_set ?_ GE240.out | refine below_set ?_ GE257.out | refine below_set ?_ GE259.out | refine below_set ?_ GE264.out) | exact HB.out)⟩⟩
                                      · rw [if_neg c88] at H
                                        have c88b0 : decide (t260 ≤ 0) = false := decide_eq_false c88
                                        clear c88
                                        have H' := Aside0.mk H
                                        clear H
                                        have p263 : 0 ≤ (x66_4 : Int) := of_decide_eq_true (by first | (with_reducible assumption) | assumption)
                                        have q263 : x66_4 < (y252.length : Int) := of_decide_eq_true (by first | (with_reducible assumption) | assumption)
                                        obtain ⟨ad263, e263, hx263_0, hx263_1, hx263_2⟩ := at_T24 (Kd.R_reads' HO_64.out).2.2 x66_4 p263 q263
                                        obtain rfl : ad256 = ad263 := (by injection e263)
                                        replace p263 := eq_true p263
                                        replace q263 := eq_true q263
                                        go_wp2_with (first | ((with_reducible refine gate_dst (N := 17) rfl ?_); refine box_event ?hg (N := 17) ?hd (cs := #[.int .i64 0, .int .i64 0, .string (⟨#[]⟩ : ByteArray)]) (t := 24) ?hr ?_; (case hd => rfl); (case hg => rfl); (case hr => first | (go_simp; done) | (go_simp; rfl)); intro gb264 hg w125 hbox hb; have n0_ := Aside0.mk (Kd.R_below (Kd.R_elderB (by (with_reducible repeat (first | apply Kd.R_alloc | apply Kd.R_drewN | apply Kd.R_drew)); exact HO_10.out) gb264 (Nat.le_of_eq hg.symm)) hb); have n1_ := Aside0.mk (Kd.R_below (Kd.R_elderB (by (with_reducible repeat (first | apply Kd.R_alloc | apply Kd.R_drewN | apply Kd.R_drew)); exact HO_28.out) gb264 (Nat.le_of_eq hg.symm)) hb); have n2_ := Aside0.mk (Kd.R_below (Kd.R_elderB (by (with_reducible repeat (first | apply Kd.R_alloc | apply Kd.R_drewN | apply Kd.R_drew)); exact HO_34.out) gb264 (Nat.le_of_eq hg.symm)) hb); have n3_ := Aside0.mk (Kd.R_below (Kd.R_elderB (by (with_reducible repeat (first | apply Kd.R_alloc | apply Kd.R_drewN | apply Kd.R_drew)); exact HO_64.out) gb264 (Nat.le_of_eq hg.symm)) hb); have n4_ := Aside0.mk (blk_below (g := gb238) (o := .cells #[.int .i64 a1_0, .int .i64 a1_1, .string a1_2] 24 (0, 0)) (by (with_reducible repeat (first | refine blk_drewN ?_ _ | refine blk_drew ?_ | refine blk_alloc ?_ _)); exact BK238.out) hb); have n5_ := Aside0.mk (blk_below (g := gb239) (o := .cells #[.int .i64 a2_0, .int .i64 a2_1, .string a2_2] 24 (0, 0)) (by (with_reducible repeat (first | refine blk_drewN ?_ _ | refine blk_drew ?_ | refine blk_alloc ?_ _)); exact BK239.out) hb); have n6_ := Aside0.mk (blk_below (g := gb240) (o := .cells #[.int .i64 a3_0, .int .i64 a3_1, .string a3_2] 24 (0, 0)) (by (with_reducible repeat (first | refine blk_drewN ?_ _ | refine blk_drew ?_ | refine blk_alloc ?_ _)); exact BK240.out) hb); have n7_ := Aside0.mk (blk_below (g := gb257) (o := .cells #[.int .i64 ((rd_T24 y252 x30_1).f0), .int .i64 ((rd_T24 y252 x30_1).f1), .string ((rd_T24 y252 x30_1).f2)] 24 (0, 0)) (by (with_reducible repeat (first | refine blk_drewN ?_ _ | refine blk_drew ?_ | refine blk_alloc ?_ _)); exact BK257.out) hb); have n8_ := Aside0.mk (blk_below (g := gb259) (o := .cells #[.int .i64 ((rd_T24 y252 x36_2).f0), .int .i64 ((rd_T24 y252 x36_2).f1), .string ((rd_T24 y252 x36_2).f2)] 24 (0, 0)) (by (with_reducible repeat (first | refine blk_drewN ?_ _ | refine blk_drew ?_ | refine blk_alloc ?_ _)); exact BK259.out) hb); have n9_ := Aside0.mk (below_step (by repeat (first | (with_reducible first | exact HB.out | apply below_alloc | apply pw_below_drewN | apply below_drew1 | refine below_set ?_ GE238.out | refine below_set ?_ GE239.out | refine below_set ?_ GE240.out | refine below_set ?_ GE257.out | refine below_set ?_ GE259.out) | exact HB.out)) hb); have n10_ := Aside0.mk (hbox); have n11_ := Aside0.mk ((by rw [hg]; exact (below_size (by repeat (first | (with_reducible first | exact HB.out | apply below_alloc | apply pw_below_drewN | apply below_drew1 | refine below_set ?_ GE238.out | refine below_set ?_ GE239.out | refine below_set ?_ GE240.out | refine below_set ?_ GE257.out | refine below_set ?_ GE259.out) | exact HB.out))) : w.heap.size ≤ gb264)); have n12_ := Aside0.mk ((by rw [hg]; exact (below_size (by repeat (first | (with_reducible first | exact HB.out | apply below_alloc | apply pw_below_drewN | apply below_drew1 | refine below_set ?_ GE238.out | refine below_set ?_ GE239.out | refine below_set ?_ GE240.out | refine below_set ?_ GE257.out | refine below_set ?_ GE259.out) | exact HB.out))) : w.heap.size ≤ gb264)); have n13_ := Aside0.mk ((by rw [hg]; exact Nat.ne_of_lt (blk_lt (g := gb238) (o := .cells #[.int .i64 a1_0, .int .i64 a1_1, .string a1_2] 24 (0, 0)) (by (with_reducible repeat (first | refine blk_drewN ?_ _ | refine blk_drew ?_ | refine blk_alloc ?_ _)); exact BK238.out)) : gb238 ≠ gb264)); have n14_ := Aside0.mk ((by rw [hg]; exact Nat.ne_of_gt (blk_lt (g := gb238) (o := .cells #[.int .i64 a1_0, .int .i64 a1_1, .string a1_2] 24 (0, 0)) (by (with_reducible repeat (first | refine blk_drewN ?_ _ | refine blk_drew ?_ | refine blk_alloc ?_ _)); exact BK238.out)) : gb264 ≠ gb238)); have n15_ := Aside0.mk ((by rw [hg]; exact Nat.ne_of_lt (blk_lt (g := gb239) (o := .cells #[.int .i64 a2_0, .int .i64 a2_1, .string a2_2] 24 (0, 0)) (by (with_reducible repeat (first | refine blk_drewN ?_ _ | refine blk_drew ?_ | refine blk_alloc ?_ _)); exact BK239.out)) : gb239 ≠ gb264)); have n16_ := Aside0.mk ((by rw [hg]; exact Nat.ne_of_gt (blk_lt (g := gb239) (o := .cells #[.int .i64 a2_0, .int .i64 a2_1, .string a2_2] 24 (0, 0)) (by (with_reducible repeat (first | refine blk_drewN ?_ _ | refine blk_drew ?_ | refine blk_alloc ?_ _)); exact BK239.out)) : gb264 ≠ gb239)); have n17_ := Aside0.mk ((by rw [hg]; exact Nat.ne_of_lt (blk_lt (g := gb240) (o := .cells #[.int .i64 a3_0, .int .i64 a3_1, .string a3_2] 24 (0, 0)) (by (with_reducible repeat (first | refine blk_drewN ?_ _ | refine blk_drew ?_ | refine blk_alloc ?_ _)); exact BK240.out)) : gb240 ≠ gb264)); have n18_ := Aside0.mk ((by rw [hg]; exact Nat.ne_of_gt (blk_lt (g := gb240) (o := .cells #[.int .i64 a3_0, .int .i64 a3_1, .string a3_2] 24 (0, 0)) (by (with_reducible repeat (first | refine blk_drewN ?_ _ | refine blk_drew ?_ | refine blk_alloc ?_ _)); exact BK240.out)) : gb264 ≠ gb240)); have n19_ := Aside0.mk ((by rw [hg]; exact Nat.ne_of_lt (blk_lt (g := gb257) (o := .cells #[.int .i64 ((rd_T24 y252 x30_1).f0), .int .i64 ((rd_T24 y252 x30_1).f1), .string ((rd_T24 y252 x30_1).f2)] 24 (0, 0)) (by (with_reducible repeat (first | refine blk_drewN ?_ _ | refine blk_drew ?_ | refine blk_alloc ?_ _)); exact BK257.out)) : gb257 ≠ gb264)); have n20_ := Aside0.mk ((by rw [hg]; exact Nat.ne_of_gt (blk_lt (g := gb257) (o := .cells #[.int .i64 ((rd_T24 y252 x30_1).f0), .int .i64 ((rd_T24 y252 x30_1).f1), .string ((rd_T24 y252 x30_1).f2)] 24 (0, 0)) (by (with_reducible repeat (first | refine blk_drewN ?_ _ | refine blk_drew ?_ | refine blk_alloc ?_ _)); exact BK257.out)) : gb264 ≠ gb257)); have n21_ := Aside0.mk ((by rw [hg]; exact Nat.ne_of_lt (blk_lt (g := gb259) (o := .cells #[.int .i64 ((rd_T24 y252 x36_2).f0), .int .i64 ((rd_T24 y252 x36_2).f1), .string ((rd_T24 y252 x36_2).f2)] 24 (0, 0)) (by (with_reducible repeat (first | refine blk_drewN ?_ _ | refine blk_drew ?_ | refine blk_alloc ?_ _)); exact BK259.out)) : gb259 ≠ gb264)); have n22_ := Aside0.mk ((by rw [hg]; exact Nat.ne_of_gt (blk_lt (g := gb259) (o := .cells #[.int .i64 ((rd_T24 y252 x36_2).f0), .int .i64 ((rd_T24 y252 x36_2).f1), .string ((rd_T24 y252 x36_2).f2)] 24 (0, 0)) (by (with_reducible repeat (first | refine blk_drewN ?_ _ | refine blk_drew ?_ | refine blk_alloc ?_ _)); exact BK259.out)) : gb264 ≠ gb259)); clear HO_10; clear HO_28; clear HO_34; clear HO_64; clear BK238; clear BK239; clear BK240; clear BK257; clear BK259; clear HB; have HO_10 := n0_; have HO_28 := n1_; have HO_34 := n2_; have HO_64 := n3_; have BK238 := n4_; have BK239 := n5_; have BK240 := n6_; have BK257 := n7_; have BK259 := n8_; have HB := n9_; have BK264 := n10_; have GW264 := n11_; have GE264 := n12_; have NB238_264 := n13_; have NB264_238 := n14_; have NB239_264 := n15_; have NB264_239 := n16_; have NB240_264 := n17_; have NB264_240 := n18_; have NB257_264 := n19_; have NB264_257 := n20_; have NB259_264 := n21_; have NB264_259 := n22_; clear n0_ n1_ n2_ n3_ n4_ n5_ n6_ n7_ n8_ n9_ n10_ n11_ n12_ n13_ n14_ n15_ n16_ n17_ n18_ n19_ n20_ n21_ n22_; clear hb hbox hg; have hnb126 := NB264_238.out; have hnc126 := NB238_264.out; have hnb127 := NB264_239.out; have hnc127 := NB239_264.out; have hnb128 := NB264_240.out; have hnc128 := NB240_264.out; have hnb129 := NB264_257.out; have hnc129 := NB257_264.out; have hnb130 := NB264_259.out; have hnc130 := NB259_264.out; have hcz131_0 : w125.cell? ⟨gb264, 0, none⟩ = some (.int .i64 0) := (blk_cell BK264.out 0).trans rfl; have hcz131_1 : w125.cell? ⟨gb264, 1, none⟩ = some (.int .i64 0) := (blk_cell BK264.out 1).trans rfl; have hcz131_2 : w125.cell? ⟨gb264, 2, none⟩ = some (.string (⟨#[]⟩ : ByteArray)) := (blk_cell BK264.out 2).trans rfl; have hfz131_0 := blk_frozen BK264.out 0; have hfz131_1 := blk_frozen BK264.out 1; have hfz131_2 := blk_frozen BK264.out 2))
                                        go_roundg k4
                                        case measure => have := HK1.out; have := HK2.out; have := HJ29.out; have := HK4.out; omega
                                        case rel => exact ⟨(wrap64 (x66_4 + 1)), (by first | rfl | (simp; done) | (simp [*]; done)), H', ⟨by have := HK1.out; have := HK2.out; have := HJ29.out; have := HK4.out; omega⟩, ⟨by (with_reducible repeat (first | apply Kd.R_alloc | apply Kd.R_drewN | apply Kd.R_drew)); exact Kd.R_mono (Kd.R_far (p := ⟨gb264, 2, none⟩) (Kd.R_far (p := ⟨gb264, 1, none⟩) (Kd.R_far (p := ⟨gb264, 0, none⟩) (Kd.R_mono HO_10.out (fun k_ hk => (⟨hk, hk.2⟩ : _ ∧ k_ ≠ gb264))) (fun _ hk => hk.2) (.int .i64 ((rd_T24 y252 x66_4).f0))) (fun _ hk => hk.2) (.int .i64 ((rd_T24 y252 x66_4).f1))) (fun _ hk => hk.2) (.string ((rd_T24 y252 x66_4).f2))) (fun _ hk => ⟨hk.1.1.1, ⟨hk.1.1.2.1, ⟨hk.1.1.2.2.1, ⟨hk.1.1.2.2.2.1, hk.1.1.2.2.2.2⟩⟩⟩⟩)⟩, ⟨by (with_reducible repeat (first | apply Kd.R_alloc | apply Kd.R_drewN | apply Kd.R_drew)); exact Kd.R_mono (Kd.R_far (p := ⟨gb264, 2, none⟩) (Kd.R_far (p := ⟨gb264, 1, none⟩) (Kd.R_far (p := ⟨gb264, 0, none⟩) (Kd.R_mono HO_28.out (fun k_ hk => (⟨hk, hk.2⟩ : _ ∧ k_ ≠ gb264))) (fun _ hk => hk.2) (.int .i64 ((rd_T24 y252 x66_4).f0))) (fun _ hk => hk.2) (.int .i64 ((rd_T24 y252 x66_4).f1))) (fun _ hk => hk.2) (.string ((rd_T24 y252 x66_4).f2))) (fun _ hk => ⟨hk.1.1.1, ⟨hk.1.1.2.1, ⟨hk.1.1.2.2.1, ⟨hk.1.1.2.2.2.1, hk.1.1.2.2.2.2⟩⟩⟩⟩)⟩, ⟨by (with_reducible repeat (first | apply Kd.R_alloc | apply Kd.R_drewN | apply Kd.R_drew)); exact Kd.R_mono (Kd.R_far (p := ⟨gb264, 2, none⟩) (Kd.R_far (p := ⟨gb264, 1, none⟩) (Kd.R_far (p := ⟨gb264, 0, none⟩) (Kd.R_mono HO_34.out (fun k_ hk => (⟨hk, hk.2⟩ : _ ∧ k_ ≠ gb264))) (fun _ hk => hk.2) (.int .i64 ((rd_T24 y252 x66_4).f0))) (fun _ hk => hk.2) (.int .i64 ((rd_T24 y252 x66_4).f1))) (fun _ hk => hk.2) (.string ((rd_T24 y252 x66_4).f2))) (fun _ hk => ⟨hk.1.1.1, ⟨hk.1.1.2.1, ⟨hk.1.1.2.2.1, ⟨hk.1.1.2.2.2.1, hk.1.1.2.2.2.2⟩⟩⟩⟩)⟩, ⟨by (with_reducible repeat (first | apply Kd.R_alloc | apply Kd.R_drewN | apply Kd.R_drew)); exact Kd.R_mono (Kd.R_far (p := ⟨gb264, 2, none⟩) (Kd.R_far (p := ⟨gb264, 1, none⟩) (Kd.R_far (p := ⟨gb264, 0, none⟩) (Kd.R_mono HO_64.out (fun k_ hk => (⟨hk, hk.2⟩ : _ ∧ k_ ≠ gb264))) (fun _ hk => hk.2) (.int .i64 ((rd_T24 y252 x66_4).f0))) (fun _ hk => hk.2) (.int .i64 ((rd_T24 y252 x66_4).f1))) (fun _ hk => hk.2) (.string ((rd_T24 y252 x66_4).f2))) (fun _ hk => ⟨hk.1.1.1, ⟨hk.1.1.2.1, ⟨hk.1.1.2.2.1, ⟨hk.1.1.2.2.2.1, hk.1.1.2.2.2.2⟩⟩⟩⟩)⟩, ⟨by (with_reducible repeat (first | refine blk_drewN ?_ _ | refine blk_drew ?_ | refine blk_alloc ?_ _)); refine blk_far ?_ NB238_264.out _; (with_reducible repeat (first | refine blk_drewN ?_ _ | refine blk_drew ?_ | refine blk_alloc ?_ _)); refine blk_far ?_ NB238_264.out _; (with_reducible repeat (first | refine blk_drewN ?_ _ | refine blk_drew ?_ | refine blk_alloc ?_ _)); refine blk_far ?_ NB238_264.out _; (with_reducible repeat (first | refine blk_drewN ?_ _ | refine blk_drew ?_ | refine blk_alloc ?_ _)); exact BK238.out⟩, ⟨by (with_reducible repeat (first | refine blk_drewN ?_ _ | refine blk_drew ?_ | refine blk_alloc ?_ _)); refine blk_far ?_ NB239_264.out _; (with_reducible repeat (first | refine blk_drewN ?_ _ | refine blk_drew ?_ | refine blk_alloc ?_ _)); refine blk_far ?_ NB239_264.out _; (with_reducible repeat (first | refine blk_drewN ?_ _ | refine blk_drew ?_ | refine blk_alloc ?_ _)); refine blk_far ?_ NB239_264.out _; (with_reducible repeat (first | refine blk_drewN ?_ _ | refine blk_drew ?_ | refine blk_alloc ?_ _)); exact BK239.out⟩, ⟨by (with_reducible repeat (first | refine blk_drewN ?_ _ | refine blk_drew ?_ | refine blk_alloc ?_ _)); refine blk_far ?_ NB240_264.out _; (with_reducible repeat (first | refine blk_drewN ?_ _ | refine blk_drew ?_ | refine blk_alloc ?_ _)); refine blk_far ?_ NB240_264.out _; (with_reducible repeat (first | refine blk_drewN ?_ _ | refine blk_drew ?_ | refine blk_alloc ?_ _)); refine blk_far ?_ NB240_264.out _; (with_reducible repeat (first | refine blk_drewN ?_ _ | refine blk_drew ?_ | refine blk_alloc ?_ _)); exact BK240.out⟩, ⟨by (with_reducible repeat (first | refine blk_drewN ?_ _ | refine blk_drew ?_ | refine blk_alloc ?_ _)); refine blk_far ?_ NB257_264.out _; (with_reducible repeat (first | refine blk_drewN ?_ _ | refine blk_drew ?_ | refine blk_alloc ?_ _)); refine blk_far ?_ NB257_264.out _; (with_reducible repeat (first | refine blk_drewN ?_ _ | refine blk_drew ?_ | refine blk_alloc ?_ _)); refine blk_far ?_ NB257_264.out _; (with_reducible repeat (first | refine blk_drewN ?_ _ | refine blk_drew ?_ | refine blk_alloc ?_ _)); exact BK257.out⟩, ⟨by (with_reducible repeat (first | refine blk_drewN ?_ _ | refine blk_drew ?_ | refine blk_alloc ?_ _)); refine blk_far ?_ NB259_264.out _; (with_reducible repeat (first | refine blk_drewN ?_ _ | refine blk_drew ?_ | refine blk_alloc ?_ _)); refine blk_far ?_ NB259_264.out _; (with_reducible repeat (first | refine blk_drewN ?_ _ | refine blk_drew ?_ | refine blk_alloc ?_ _)); refine blk_far ?_ NB259_264.out _; (with_reducible repeat (first | refine blk_drewN ?_ _ | refine blk_drew ?_ | refine blk_alloc ?_ _)); exact BK259.out⟩, ⟨by repeat (first | (with_reducible first | exact HB.out | apply below_alloc | apply pw_below_drewN | apply below_drew1 | refine below_set ?_ GE238.out | refine below_set ?_ GE239.out | refine below_set ?_ GE240.out | refine below_set ?_ GE257.out | refine below_set ?_ GE259.out | refine below_set ?_ GE264.out) | exact HB.out)⟩⟩
                                    · rw [if_neg c87] at H
                                      exact absurd H (by simp)
                                  · rw [if_neg c86] at H
                                    exact absurd H (by simp)
                                · rw [if_neg c85] at H
                                  have c85b0 : decide (x66_4 < (y252.length : Int)) = false := decide_eq_false c85
                                  clear c85
                                  have H' := Aside0.mk H
                                  clear H
                                  go_wp2
                                  go_roundg k4
                                  case measure => have := HK1.out; have := HK2.out; have := HJ29.out; have := HK4.out; omega
                                  case rel => exact ⟨(wrap64 (x36_2 + 1)), (by first | rfl | (simp; done) | (simp [*]; done)), H', ⟨by have := HK1.out; have := HK2.out; have := HJ29.out; have := HK4.out; omega⟩, ⟨by (with_reducible repeat (first | apply Kd.R_alloc | apply Kd.R_drewN | apply Kd.R_drew)); exact Kd.R_mono HO_10.out (fun _ hk => ⟨hk.1, ⟨hk.2.1, ⟨hk.2.2.1, hk.2.2.2.1⟩⟩⟩)⟩, ⟨by (with_reducible repeat (first | apply Kd.R_alloc | apply Kd.R_drewN | apply Kd.R_drew)); exact Kd.R_mono HO_28.out (fun _ hk => ⟨hk.1, ⟨hk.2.1, ⟨hk.2.2.1, hk.2.2.2.1⟩⟩⟩)⟩, ⟨by (with_reducible repeat (first | apply Kd.R_alloc | apply Kd.R_drewN | apply Kd.R_drew)); exact Kd.R_mono HO_34.out (fun _ hk => ⟨hk.1, ⟨hk.2.1, ⟨hk.2.2.1, hk.2.2.2.1⟩⟩⟩)⟩, ⟨by (with_reducible repeat (first | refine blk_drewN ?_ _ | refine blk_drew ?_ | refine blk_alloc ?_ _)); exact BK238.out⟩, ⟨by (with_reducible repeat (first | refine blk_drewN ?_ _ | refine blk_drew ?_ | refine blk_alloc ?_ _)); exact BK239.out⟩, ⟨by (with_reducible repeat (first | refine blk_drewN ?_ _ | refine blk_drew ?_ | refine blk_alloc ?_ _)); exact BK240.out⟩, ⟨by (with_reducible repeat (first | refine blk_drewN ?_ _ | refine blk_drew ?_ | refine blk_alloc ?_ _)); exact BK257.out⟩, ⟨by repeat (first | (with_reducible first | exact HB.out | apply below_alloc | apply pw_below_drewN | apply below_drew1 | refine below_set ?_ GE238.out | refine below_set ?_ GE239.out | refine below_set ?_ GE240.out | refine below_set ?_ GE257.out | refine below_set ?_ GE259.out) | exact HB.out)⟩⟩
                    · rw [if_neg c28] at H
                      exact absurd H (by simp)
                  · rw [if_neg c27] at H
                    exact absurd H (by simp)
                · rw [if_neg c26] at H
                  have c26b0 : decide (x36_2 < (y252.length : Int)) = false := decide_eq_false c26
                  clear c26
                  have H' := Aside0.mk H
                  clear H
                  go_wp2
                  go_roundg k2
                  case measure => have := HK1.out; have := HK2.out; omega
                  case rel => exact ⟨(wrap64 (x30_1 + 1)), (by first | rfl | (simp; done) | (simp [*]; done)), H', ⟨by have := HK1.out; have := HK2.out; omega⟩, ⟨by (with_reducible repeat (first | apply Kd.R_alloc | apply Kd.R_drewN | apply Kd.R_drew)); exact Kd.R_mono HO_10.out (fun _ hk => ⟨hk.1, ⟨hk.2.1, hk.2.2.1⟩⟩)⟩, ⟨by (with_reducible repeat (first | apply Kd.R_alloc | apply Kd.R_drewN | apply Kd.R_drew)); exact Kd.R_mono HO_28.out (fun _ hk => ⟨hk.1, ⟨hk.2.1, hk.2.2.1⟩⟩)⟩, ⟨by (with_reducible repeat (first | refine blk_drewN ?_ _ | refine blk_drew ?_ | refine blk_alloc ?_ _)); exact BK238.out⟩, ⟨by (with_reducible repeat (first | refine blk_drewN ?_ _ | refine blk_drew ?_ | refine blk_alloc ?_ _)); exact BK239.out⟩, ⟨by (with_reducible repeat (first | refine blk_drewN ?_ _ | refine blk_drew ?_ | refine blk_alloc ?_ _)); exact BK240.out⟩, ⟨by repeat (first | (with_reducible first | exact HB.out | apply below_alloc | apply pw_below_drewN | apply below_drew1 | refine below_set ?_ GE238.out | refine below_set ?_ GE239.out | refine below_set ?_ GE240.out | refine below_set ?_ GE257.out) | exact HB.out)⟩⟩
          · rw [if_neg c20] at H
            exact absurd H (by simp)
        · rw [if_neg c19] at H
          exact absurd H (by simp)
      · rw [if_neg c18] at H
        have c18b0 : decide (x30_1 < (y252.length : Int)) = false := decide_eq_false c18
        clear c18
        replace H := Option.bind_eq_some_iff.mp H
        obtain ⟨t255, A1320, H⟩ := H
        replace H : (some t255) = some r := H
        have A132 := Aside0.mk A1320
        clear A1320
        obtain rfl := Option.some.inj H
        go_wp2_with (first | ((with_reducible refine gate_callee (f := 20) rfl ?_); refine goesL_ (some 87) rfl rfl Try.func20 (by kernel_rfl) rfl #[] rfl (by (try simp only [List.map_toArray, List.map_cons, List.map_nil]); first | done | rfl | (simp only [List.length_drop, List.length_take]; rfl)) ?_; (with_reducible refine (partsynclaw01_begun.calls k1  t255 _ A132.out).mono ?_); rintro e w133 ⟨rfl, hb⟩; refine ⟨_, rfl, ?_⟩; have n0_ := Aside0.mk (Kd.R_below (by (with_reducible repeat (first | apply Kd.R_alloc | apply Kd.R_drewN | apply Kd.R_drew)); exact HO_10.out) hb); have n1_ := Aside0.mk (Kd.R_below (by (with_reducible repeat (first | apply Kd.R_alloc | apply Kd.R_drewN | apply Kd.R_drew)); exact HO_28.out) hb); have n2_ := Aside0.mk (blk_below (g := gb238) (o := .cells #[.int .i64 a1_0, .int .i64 a1_1, .string a1_2] 24 (0, 0)) (by (with_reducible repeat (first | refine blk_drewN ?_ _ | refine blk_drew ?_ | refine blk_alloc ?_ _)); exact BK238.out) hb); have n3_ := Aside0.mk (blk_below (g := gb239) (o := .cells #[.int .i64 a2_0, .int .i64 a2_1, .string a2_2] 24 (0, 0)) (by (with_reducible repeat (first | refine blk_drewN ?_ _ | refine blk_drew ?_ | refine blk_alloc ?_ _)); exact BK239.out) hb); have n4_ := Aside0.mk (blk_below (g := gb240) (o := .cells #[.int .i64 a3_0, .int .i64 a3_1, .string a3_2] 24 (0, 0)) (by (with_reducible repeat (first | refine blk_drewN ?_ _ | refine blk_drew ?_ | refine blk_alloc ?_ _)); exact BK240.out) hb); have n5_ := Aside0.mk (below_step (by repeat (first | (with_reducible first | exact HB.out | apply below_alloc | apply pw_below_drewN | apply below_drew1 | refine below_set ?_ GE238.out | refine below_set ?_ GE239.out | refine below_set ?_ GE240.out) | exact HB.out)) hb); clear HO_10; clear HO_28; clear BK238; clear BK239; clear BK240; clear HB; have HO_10 := n0_; have HO_28 := n1_; have BK238 := n2_; have BK239 := n3_; have BK240 := n4_; have HB := n5_; clear n0_ n1_ n2_ n3_ n4_ n5_; (try clear hb); (try clear hb2); (try clear hk); (try clear hi)))
        go_ret
        exact ⟨by first | rfl | (simp [errW_none, errW_some] <;> rfl) | (simp [*, errW_none, errW_some] <;> rfl), _, HBWN.out, by repeat (first | (with_reducible first | exact HB.out | apply below_alloc | apply pw_below_drewN | apply below_drew1 | refine below_set ?_ GE238.out | refine below_set ?_ GE239.out | refine below_set ?_ GE240.out) | exact HB.out)⟩

theorem partsynclaw01_ValueCompares.calls (k : Nat) (A0 : Option Addr) (c0 : Nat) (l0 : List Int) (a1_0 : Int) (a1_1 : Int) (a1_2 : ByteArray) (a2_0 : Int) (a2_1 : Int) (a2_2 : ByteArray) (a3_0 : Int) (a3_1 : Int) (a3_2 : ByteArray) (r : Bool) (w : World) (hr0 : Kd.C (Kd.int .u8) w A0 l0.length l0) (hc0 : l0.length ≤ c0) (h : partsynclaw01_ValueCompares.f k l0 a1_0 a1_1 a1_2 a2_0 a2_1 a2_2 a3_0 a3_1 a3_2 = some r) (HRT : Aside0 (r = true)) :
    Calls Try.prog 4 #[.slice A0 l0.length c0, .agg #[.int .i64 a1_0, .int .i64 a1_1, .string a1_2], .agg #[.int .i64 a2_0, .int .i64 a2_1, .string a2_2], .agg #[.int .i64 a3_0, .int .i64 a3_1, .string a3_2]] w fun e w' => e = .returned (.bool r) ∧ Below w.heap.size w w' :=
  (partsynclaw01_ValueCompares.callsN k A0 c0 l0 a1_0 a1_1 a1_2 a2_0 a2_1 a2_2 a3_0 a3_1 a3_2 r w hr0 hc0 h HRT).mono fun _ _ ⟨he, _, h1, h2⟩ => ⟨he, h1.trans (h2.mono h1.size)⟩
end Go.Proofs.Ytpjcdacnhalclaa.Q
