/- A part of a proof: facts of functions that the law calls; conditions stand in each. -/
import Derived.Test.YtpjcdacnhalclaaM14x3
import Derived.Test.YtpjcdacnhalclaaM14x12
import Derived.Test.YtpjcdacnhalclaaM14x19
import Derived.Test.YtpjcdacnhalclaaM14x7
set_option linter.unusedVariables false
set_option linter.unusedSimpArgs false
namespace Go.Proofs.Ytpjcdacnhalclaa.Q
open Go.RowKit Go.Proofs.YtpjcdacnhalclaaW.PrintWords Go.Proofs.YtpjcdacnhalclaaW.PrintLast Go.Proofs.YtpjcdacnhalclaaW.PrintMore
attribute [local go_sem] max2_int min2_int max_two min_two max_three min_three max_four min_four
def r3_Join.g (l0 : List (S65)) (x : S65) : Option ((List (S65))) := (if (l0.length : Int) > 0 then (if 0 ≤ (wrap64 ((l0.length : Int) - 1)) then (if (wrap64 ((l0.length : Int) - 1)) < (l0.length : Int) then (if ((rd_T65 l0 (wrap64 ((l0.length : Int) - 1))).f2 = true) then (if l0.length < 1954687338268 then (some (l0 ++ [(⟨(⟨x.f0.f0, x.f0.f1, x.f0.f2⟩ : S24), (⟨x.f1.f0, x.f1.f1, x.f1.f2⟩ : S24), x.f2⟩ : S65)])) else (none)) else ((r1_Compare.f ((rd_T65 l0 (wrap64 ((l0.length : Int) - 1))).f1.f0) ((rd_T65 l0 (wrap64 ((l0.length : Int) - 1))).f1.f1) ((rd_T65 l0 (wrap64 ((l0.length : Int) - 1))).f1.f2) (x.f0.f0) (x.f0.f1) (x.f0.f2)).bind fun t423 => (if t423 = 0 then ((some (l0.set ((wrap64 ((l0.length : Int) - 1)) : Int).toNat (⟨(⟨(rd_T65 l0 (wrap64 ((l0.length : Int) - 1))).f0.f0, (rd_T65 l0 (wrap64 ((l0.length : Int) - 1))).f0.f1, (rd_T65 l0 (wrap64 ((l0.length : Int) - 1))).f0.f2⟩ : S24), (⟨x.f1.f0, x.f1.f1, x.f1.f2⟩ : S24), (rd_T65 l0 (wrap64 ((l0.length : Int) - 1))).f2⟩ : S65) : List (S65))).bind fun y424 => (some (y424.set ((wrap64 ((l0.length : Int) - 1)) : Int).toNat (⟨(⟨(rd_T65 y424 (wrap64 ((l0.length : Int) - 1))).f0.f0, (rd_T65 y424 (wrap64 ((l0.length : Int) - 1))).f0.f1, (rd_T65 y424 (wrap64 ((l0.length : Int) - 1))).f0.f2⟩ : S24), (⟨(rd_T65 y424 (wrap64 ((l0.length : Int) - 1))).f1.f0, (rd_T65 y424 (wrap64 ((l0.length : Int) - 1))).f1.f1, (rd_T65 y424 (wrap64 ((l0.length : Int) - 1))).f1.f2⟩ : S24), x.f2⟩ : S65)))) else (if l0.length < 1954687338268 then (some (l0 ++ [(⟨(⟨x.f0.f0, x.f0.f1, x.f0.f2⟩ : S24), (⟨x.f1.f0, x.f1.f1, x.f1.f2⟩ : S24), x.f2⟩ : S65)])) else (none))))) else (none)) else (none)) else (if l0.length < 1954687338268 then (some (l0 ++ [(⟨(⟨x.f0.f0, x.f0.f1, x.f0.f2⟩ : S24), (⟨x.f1.f0, x.f1.f1, x.f1.f2⟩ : S24), x.f2⟩ : S65)])) else (none)))
def r3_Join.x (l1 : List (S24)) (a2 : Int) : S65 := ⟨⟨(rd_T24 l1 a2).f0, (rd_T24 l1 a2).f1, (rd_T24 l1 a2).f2⟩, (if a2 = (wrap64 ((l1.length : Int) - 1)) then ⟨0, 0, ⟨#[]⟩⟩ else ⟨(rd_T24 l1 (wrap64 (a2 + 1))).f0, (rd_T24 l1 (wrap64 (a2 + 1))).f1, (rd_T24 l1 (wrap64 (a2 + 1))).f2⟩), (a2 == (wrap64 ((l1.length : Int) - 1)))⟩
def r3_Join.f (l0 : List (S65)) (l1 : List (S24)) (a2 : Int) : Option ((List (S65))) := if 0 ≤ a2 then (if a2 < (l1.length : Int) then r3_Join.g l0 (r3_Join.x l1 a2) else none) else none
def r3_Join.T5 : Bool × List (List Nat × List Nat) := (true, [([], []), ([0], [0]), ([1], [1]), ([2], [2]), ([2], [2]), ([4, 2], [2, 4]), ([3, 5, 2], [2, 3, 5]), ([6, 2], [2, 6]), ([7, 2], [2, 7]), ([8, 2], [2, 8]), ([2, 9], [2, 9]), ([10, 2], [10]), ([11], [11]), ([11], [11]), ([13, 11], [11, 13]), ([12, 14, 11], [11, 12, 14]), ([15, 11], [11, 15]), ([16, 11], [11, 16]), ([11], [11]), ([18, 11], [11, 18]), ([17, 19, 11, 11], [11, 17, 19]), ([20, 11], [11, 20]), ([11, 21], [11, 21])])
def r3_Join.B5 : List Nat := [0, 1, 3, 7, 7, 23, 63, 127, 255, 511, 1023, 2047, 4095, 4095, 12287, 32767, 65535, 131071, 4095, 266239, 1048575, 2097151, 4194303]
theorem r3_Join.tab5 : rtab .any (opsOf Try.f98 5) = r3_Join.T5 := by kernel_rfl
theorem r3_Join.bits5 : waitsOk r3_Join.T5.2 r3_Join.B5 = true := by kernel_rfl
set_option maxHeartbeats 8000000 in
set_option maxRecDepth 100000 in
theorem r3_Join.calls (P0_ : Nat → Prop) (u9000_ : Value) (l0 : List (S65)) (A1 : Option Addr) (c1 : Nat) (l1 : List (S24)) (a2 : Int) (r : List (S65)) (w0 w : World) (hB : Below w0.heap.size w0 w) (ho0 : Kd.R k65 65 w w0.heap.size P0_ u9000_ l0) (hr1 : ∀ W_, Kept w W_ (fun k_ => P0_ k_) → Kd.C k24 W_ A1 l1.length l1) (hc1 : l1.length ≤ c1) (h : r3_Join.f l0 l1 a2 = some r) :
  Calls Try.prog 98 #[u9000_, .slice A1 l1.length c1, .int .i64 a2] w fun e w' => ∃ v0_ : Value, e = .returned (v0_) ∧ Kd.R k65 65 w' w0.heap.size (fun k_ => (P0_ k_ ∨ w.heap.size ≤ k_)) v0_ r ∧ Below w0.heap.size w0 w' ∧ Kept w w' (fun k_ => P0_ k_) := by
 have hu24 := Try.underlying24
 have hu65 := Try.underlying65
 have HO0 := aK (show Kd.R k65 65 w w0.heap.size (fun k_ => (P0_ k_ ∨ w.heap.size ≤ k_)) u9000_ l0 from Kd.R_mono ho0 (fun k_ hk => (.inl hk)))
 have HR1 := Aside0.mk hr1
 have HC1 := Aside0.mk hc1
 clear hr1 hc1
 have HK := aK (Kept.refl w (fun k_ => P0_ k_))
 have HW0 := Aside0.mk hB.size
 have HB := Aside0.mk hB
 clear hB
 unfold r3_Join.f at h
 have hmax : l1.length ≤ 9223372036854775807 := (HR1.out w HK.out).2.1
 by_cases c4 : 0 ≤ a2
 rotate_left
 ·rw [if_neg c4] at h
  exact absurd h (by simp)
 rw [if_pos c4] at h
 have c4b0 : decide (0 ≤ a2) = true := decide_eq_true c4
 by_cases c5 : a2 < (l1.length : Int)
 rotate_left
 ·rw [if_neg c5] at h
  exact absurd h (by simp)
 rw [if_pos c5] at h
 have c5b0 : decide (a2 < (l1.length : Int)) = true := decide_eq_true c5
 obtain ⟨x, hx⟩ : ∃ x, x = r3_Join.x l1 a2 := ⟨_, rfl⟩
 rw [← hx] at h
 have HX := Aside0.mk hx
 have HH := Aside0.mk h
 have HMX := Aside0.mk hmax
 have HC4 := Aside0.mk c4
 have HC5 := Aside0.mk c5
 clear h hx hmax c4 c5
 have p401 : 0 ≤ (a2 : Int) := of_decide_eq_true (aA)
 have q401 : a2 < (l1.length : Int) := of_decide_eq_true (aA)
 obtain ⟨ad401, e401, hx401_0, hx401_1, hx401_2⟩ := at_T24 (Kd.C_kept_now HR1.out HK.out) a2 p401 q401
 cases e401
 replace p401 := eq_true p401
 replace q401 := eq_true q401
 go_enter Try.func98, Try.ntmps98
 go_upto_if 21 with (first | ((with_reducible refine gate_dst (N := 7) rfl ?_); refine box_event ?hg (N := 7) ?hd (cs := #[.int .i64 0, .int .i64 0, .string (⟨#[]⟩ : ByteArray), .int .i64 0, .int .i64 0, .string (⟨#[]⟩ : ByteArray), .bool false]) (t := 65) ?hr ?_; (case hd => rfl); (case hg => rfl); (case hr => exact hR); intro gb402 hg w14 hbox hb; have n0_ := aK (Kd.R_below (Kd.R_elderB (rX HO0.out) gb402 (Nat.le_of_eq hg.symm)) hb); have n1_ := aK (Kept.below (S := (fun k_ => P0_ k_)) (by repeat (first | (with_reducible first | exact HK.out | apply Kept.alloc | apply Kept.drewN | apply Kept.drew) | exact HK.out)) hb); have n2_ := aK (below_step bO hb); have n3_ := aK (hbox); have n4_ := aK ((by rw [hg]; exact (by first | exact HK.out.1 | exact (show Kept w _ (fun k_ => P0_ k_) from by repeat (first | (with_reducible first | exact HK.out | apply Kept.alloc | apply Kept.drewN | apply Kept.drew) | exact HK.out)).1) : w.heap.size ≤ gb402)); have n5_ := aK ((by rw [hg]; exact (below_size bO) : w0.heap.size ≤ gb402)); clear HO0 HK HB; have HO0 := n0_; have HK := n1_; have HB := n2_; have BK402 := n3_; have GW402 := n4_; have GE402 := n5_; clear n0_ n1_ n2_ n3_ n4_ n5_ hb hbox hg; obtain ⟨hcz15_0, hcz15_1, hcz15_2, hcz15_3, hcz15_4, hcz15_5, hcz15_6⟩ := z7 BK402.out (.int .i64 0) (.int .i64 0) (.string (⟨#[]⟩ : ByteArray)) (.int .i64 0) (.int .i64 0) (.string (⟨#[]⟩ : ByteArray)) (.bool false); obtain ⟨hfz15_0, hfz15_1, hfz15_2, hfz15_3, hfz15_4, hfz15_5, hfz15_6⟩ := f7 BK402.out; obtain ⟨Ao16, co16, eo16⟩ := Kd.R_slice HO0.out; subst eo16))
 have n0_ : Aside0 (Kd.R k65 65 (((((((w14.setCell ⟨gb402, 0, none⟩ (.int .i64 ((rd_T24 l1 a2).f0))).setCell ⟨gb402, 1, none⟩ (.int .i64 ((rd_T24 l1 a2).f1))).setCell ⟨gb402, 2, none⟩ (.string ((rd_T24 l1 a2).f2))).setCell ⟨gb402, 3, none⟩ (.int .i64 0)).setCell ⟨gb402, 4, none⟩ (.int .i64 0)).setCell ⟨gb402, 5, none⟩ (.string (⟨#[]⟩ : ByteArray))).setCell ⟨gb402, 6, none⟩ (.bool (a2 == (wrap64 ((l1.length : Int) - 1))))) w0.heap.size (fun k_ => (P0_ k_ ∨ w.heap.size ≤ k_) ∧ k_ ≠ gb402) (.slice Ao16 l0.length co16) l0) := ⟨by (with_reducible repeat (first | apply Kd.R_alloc | apply Kd.R_drewN | apply Kd.R_drew)); exact Kd.R_mono (Kd.R_far (p := ⟨gb402, 6, none⟩) (Kd.R_far (p := ⟨gb402, 5, none⟩) (Kd.R_far (p := ⟨gb402, 4, none⟩) (Kd.R_far (p := ⟨gb402, 3, none⟩) (Kd.R_far (p := ⟨gb402, 2, none⟩) (Kd.R_far (p := ⟨gb402, 1, none⟩) (Kd.R_far (p := ⟨gb402, 0, none⟩) (Kd.R_mono HO0.out (fun k_ hk => (⟨hk, hk.2⟩ : _ ∧ k_ ≠ gb402))) (fun _ hk => hk.2) (.int .i64 ((rd_T24 l1 a2).f0))) (fun _ hk => hk.2) (.int .i64 ((rd_T24 l1 a2).f1))) (fun _ hk => hk.2) (.string ((rd_T24 l1 a2).f2))) (fun _ hk => hk.2) (.int .i64 0)) (fun _ hk => hk.2) (.int .i64 0)) (fun _ hk => hk.2) (.string (⟨#[]⟩ : ByteArray))) (fun _ hk => hk.2) (.bool (a2 == (wrap64 ((l1.length : Int) - 1))))) (fun _ hk => ⟨hk.1.1, hk.1.2⟩)⟩
 have n1_ : Aside0 ((((((((w14.setCell ⟨gb402, 0, none⟩ (.int .i64 ((rd_T24 l1 a2).f0))).setCell ⟨gb402, 1, none⟩ (.int .i64 ((rd_T24 l1 a2).f1))).setCell ⟨gb402, 2, none⟩ (.string ((rd_T24 l1 a2).f2))).setCell ⟨gb402, 3, none⟩ (.int .i64 0)).setCell ⟨gb402, 4, none⟩ (.int .i64 0)).setCell ⟨gb402, 5, none⟩ (.string (⟨#[]⟩ : ByteArray))).setCell ⟨gb402, 6, none⟩ (.bool (a2 == (wrap64 ((l1.length : Int) - 1))))).heap[gb402]? = some (.cells #[.int .i64 ((rd_T24 l1 a2).f0), .int .i64 ((rd_T24 l1 a2).f1), .string ((rd_T24 l1 a2).f2), .int .i64 0, .int .i64 0, .string (⟨#[]⟩ : ByteArray), .bool (a2 == (wrap64 ((l1.length : Int) - 1)))] 65 (0, 0))) := ⟨by (with_reducible repeat (first | refine blk_drewN ?_ _ | refine blk_drew ?_ | refine blk_alloc ?_ _)); refine blk_put (cs := #[.int .i64 ((rd_T24 l1 a2).f0), .int .i64 ((rd_T24 l1 a2).f1), .string ((rd_T24 l1 a2).f2), .int .i64 0, .int .i64 0, .string (⟨#[]⟩ : ByteArray), .bool false]) ?_ 6 _ rfl; (with_reducible repeat (first | refine blk_drewN ?_ _ | refine blk_drew ?_ | refine blk_alloc ?_ _)); refine blk_put (cs := #[.int .i64 ((rd_T24 l1 a2).f0), .int .i64 ((rd_T24 l1 a2).f1), .string ((rd_T24 l1 a2).f2), .int .i64 0, .int .i64 0, .string (⟨#[]⟩ : ByteArray), .bool false]) ?_ 5 _ rfl; (with_reducible repeat (first | refine blk_drewN ?_ _ | refine blk_drew ?_ | refine blk_alloc ?_ _)); refine blk_put (cs := #[.int .i64 ((rd_T24 l1 a2).f0), .int .i64 ((rd_T24 l1 a2).f1), .string ((rd_T24 l1 a2).f2), .int .i64 0, .int .i64 0, .string (⟨#[]⟩ : ByteArray), .bool false]) ?_ 4 _ rfl; (with_reducible repeat (first | refine blk_drewN ?_ _ | refine blk_drew ?_ | refine blk_alloc ?_ _)); refine blk_put (cs := #[.int .i64 ((rd_T24 l1 a2).f0), .int .i64 ((rd_T24 l1 a2).f1), .string ((rd_T24 l1 a2).f2), .int .i64 0, .int .i64 0, .string (⟨#[]⟩ : ByteArray), .bool false]) ?_ 3 _ rfl; (with_reducible repeat (first | refine blk_drewN ?_ _ | refine blk_drew ?_ | refine blk_alloc ?_ _)); refine blk_put (cs := #[.int .i64 ((rd_T24 l1 a2).f0), .int .i64 ((rd_T24 l1 a2).f1), .string (⟨#[]⟩ : ByteArray), .int .i64 0, .int .i64 0, .string (⟨#[]⟩ : ByteArray), .bool false]) ?_ 2 _ rfl; (with_reducible repeat (first | refine blk_drewN ?_ _ | refine blk_drew ?_ | refine blk_alloc ?_ _)); refine blk_put (cs := #[.int .i64 ((rd_T24 l1 a2).f0), .int .i64 0, .string (⟨#[]⟩ : ByteArray), .int .i64 0, .int .i64 0, .string (⟨#[]⟩ : ByteArray), .bool false]) ?_ 1 _ rfl; (with_reducible repeat (first | refine blk_drewN ?_ _ | refine blk_drew ?_ | refine blk_alloc ?_ _)); refine blk_put (cs := #[.int .i64 0, .int .i64 0, .string (⟨#[]⟩ : ByteArray), .int .i64 0, .int .i64 0, .string (⟨#[]⟩ : ByteArray), .bool false]) ?_ 0 _ rfl; (with_reducible repeat (first | refine blk_drewN ?_ _ | refine blk_drew ?_ | refine blk_alloc ?_ _)); exact BK402.out⟩
 have n2_ : Aside0 (Kept w (((((((w14.setCell ⟨gb402, 0, none⟩ (.int .i64 ((rd_T24 l1 a2).f0))).setCell ⟨gb402, 1, none⟩ (.int .i64 ((rd_T24 l1 a2).f1))).setCell ⟨gb402, 2, none⟩ (.string ((rd_T24 l1 a2).f2))).setCell ⟨gb402, 3, none⟩ (.int .i64 0)).setCell ⟨gb402, 4, none⟩ (.int .i64 0)).setCell ⟨gb402, 5, none⟩ (.string (⟨#[]⟩ : ByteArray))).setCell ⟨gb402, 6, none⟩ (.bool (a2 == (wrap64 ((l1.length : Int) - 1))))) (fun k_ => P0_ k_)) := ⟨by repeat (first | (with_reducible first | exact HK.out | apply Kept.alloc | apply Kept.drewN | apply Kept.drew | refine Kept.setCell ?_ (.inr GW402.out) _) | exact HK.out)⟩
 have n3_ : Aside0 (Below w0.heap.size w0 (((((((w14.setCell ⟨gb402, 0, none⟩ (.int .i64 ((rd_T24 l1 a2).f0))).setCell ⟨gb402, 1, none⟩ (.int .i64 ((rd_T24 l1 a2).f1))).setCell ⟨gb402, 2, none⟩ (.string ((rd_T24 l1 a2).f2))).setCell ⟨gb402, 3, none⟩ (.int .i64 0)).setCell ⟨gb402, 4, none⟩ (.int .i64 0)).setCell ⟨gb402, 5, none⟩ (.string (⟨#[]⟩ : ByteArray))).setCell ⟨gb402, 6, none⟩ (.bool (a2 == (wrap64 ((l1.length : Int) - 1)))))) := ⟨bS GE402.out⟩
 (try clear HO0)
 (try clear BK402)
 (try clear HK)
 (try clear HB)
 generalize (((((((w14.setCell ⟨gb402, 0, none⟩ (.int .i64 ((rd_T24 l1 a2).f0))).setCell ⟨gb402, 1, none⟩ (.int .i64 ((rd_T24 l1 a2).f1))).setCell ⟨gb402, 2, none⟩ (.string ((rd_T24 l1 a2).f2))).setCell ⟨gb402, 3, none⟩ (.int .i64 0)).setCell ⟨gb402, 4, none⟩ (.int .i64 0)).setCell ⟨gb402, 5, none⟩ (.string (⟨#[]⟩ : ByteArray))).setCell ⟨gb402, 6, none⟩ (.bool (a2 == (wrap64 ((l1.length : Int) - 1))))) = w17 at n0_ n1_ n2_ n3_ ⊢
 have HO0 := n0_
 have BK402 := n1_
 have HK := n2_
 have HB := n3_
 clear n0_ n1_ n2_ n3_
 go_cut [7] (fun v7 wc => v7 = .pointer (some ⟨gb402, 0, none⟩) ∧ Aside0 (Kd.R k65 65 wc w0.heap.size (fun k_ => (P0_ k_ ∨ w.heap.size ≤ k_) ∧ k_ ≠ gb402) (.slice Ao16 l0.length co16) l0) ∧ Aside0 (wc.heap[gb402]? = some (.cells #[.int .i64 x.f0.f0, .int .i64 x.f0.f1, .string x.f0.f2, .int .i64 x.f1.f0, .int .i64 x.f1.f1, .string x.f1.f2, .bool x.f2] 65 (0, 0))) ∧ Aside0 (Kept w wc (fun k_ => P0_ k_)) ∧ Aside0 (Below w0.heap.size w0 wc))
 case first =>
  by_cases c6 : (a2 = (wrap64 ((l1.length : Int) - 1)))
  rotate_left
  ·have c6b0 : (a2 == (wrap64 ((l1.length : Int) - 1))) = false := beq_eq_false_iff_ne.mpr c6
   have HXE : Aside0 (x = ⟨⟨(rd_T24 l1 a2).f0, (rd_T24 l1 a2).f1, (rd_T24 l1 a2).f2⟩, ⟨(rd_T24 l1 (wrap64 (a2 + 1))).f0, (rd_T24 l1 (wrap64 (a2 + 1))).f1, (rd_T24 l1 (wrap64 (a2 + 1))).f2⟩, (a2 == (wrap64 ((l1.length : Int) - 1)))⟩) := aK (by rw [HX.out]; unfold r3_Join.x; rw [if_neg c6])
   have hmax := HMX.out
   have c4 := HC4.out
   have c5 := HC5.out
   have hw1 : wrap64 (a2 + 1) = a2 + 1 := by unfold wrap64; omega
   have hw2 : wrap64 ((l1.length : Int) - 1) = (l1.length : Int) - 1 := by unfold wrap64; omega
   have hlt1 : a2 + 1 < (l1.length : Int) := by rw [hw2] at c6; omega
   obtain ⟨ad2, e2, hy_0, hy_1, hy_2⟩ := at_T24 (Kd.C_kept_now HR1.out HK.out) (a2 + 1) (by omega) hlt1
   obtain rfl : ad401 = ad2 := (by injection e2)
   have hcz_3 : w17.cell? ⟨gb402, 3, none⟩ = some (.int .i64 0) := (blk_cell BK402.out 3).trans rfl
   have hcz_4 : w17.cell? ⟨gb402, 4, none⟩ = some (.int .i64 0) := (blk_cell BK402.out 4).trans rfl
   have hcz_5 : w17.cell? ⟨gb402, 5, none⟩ = some (.string (⟨#[]⟩ : ByteArray)) := (blk_cell BK402.out 5).trans rfl
   have hcz_6 : w17.cell? ⟨gb402, 6, none⟩ = some (.bool (a2 == (wrap64 ((l1.length : Int) - 1)))) := (blk_cell BK402.out 6).trans rfl
   have hfz_3 := blk_frozen BK402.out 3
   have hfz_4 := blk_frozen BK402.out 4
   have hfz_5 := blk_frozen BK402.out 5
   have q1 : 0 ≤ a2 + 1 := by omega
   have HW1 := Aside0.mk hw1
   clear c6 hw2 hmax c4 c5
   simp only [c6b0, Bool.not_false]
   go_wp2
   go_meet
   case rel =>
    refine ⟨rfl, ⟨Kd.R_mono (Kd.R_far (p := ⟨gb402, 5, none⟩) (Kd.R_far (p := ⟨gb402, 4, none⟩) (Kd.R_far (p := ⟨gb402, 3, none⟩) (Kd.R_mono HO0.out (fun k_ hk => (⟨hk, hk.2⟩ : _ ∧ k_ ≠ gb402))) (fun _ hk => hk.2) _) (fun _ hk => hk.2) _) (fun _ hk => hk.2) _) (fun _ hk => hk.1)⟩, ⟨?_⟩, ⟨by repeat (first | exact HK.out | refine Kept.setCell ?_ (.inr GW402.out) _)⟩, ⟨by repeat (first | exact HB.out | refine below_set ?_ GE402.out)⟩⟩
    rw [HXE.out, HW1.out]
    refine blk_put (cs := #[.int .i64 ((rd_T24 l1 a2).f0), .int .i64 ((rd_T24 l1 a2).f1), .string ((rd_T24 l1 a2).f2), .int .i64 ((rd_T24 l1 (a2 + 1)).f0), .int .i64 ((rd_T24 l1 (a2 + 1)).f1), .string (⟨#[]⟩ : ByteArray), .bool (a2 == (wrap64 ((l1.length : Int) - 1)))]) ?_ 5 _ rfl
    refine blk_put (cs := #[.int .i64 ((rd_T24 l1 a2).f0), .int .i64 ((rd_T24 l1 a2).f1), .string ((rd_T24 l1 a2).f2), .int .i64 ((rd_T24 l1 (a2 + 1)).f0), .int .i64 0, .string (⟨#[]⟩ : ByteArray), .bool (a2 == (wrap64 ((l1.length : Int) - 1)))]) ?_ 4 _ rfl
    refine blk_put (cs := #[.int .i64 ((rd_T24 l1 a2).f0), .int .i64 ((rd_T24 l1 a2).f1), .string ((rd_T24 l1 a2).f2), .int .i64 0, .int .i64 0, .string (⟨#[]⟩ : ByteArray), .bool (a2 == (wrap64 ((l1.length : Int) - 1)))]) ?_ 3 _ rfl
    exact BK402.out
  have c6b0 : (a2 == (wrap64 ((l1.length : Int) - 1))) = true := beq_iff_eq.mpr c6
  have hcz_6 : w17.cell? ⟨gb402, 6, none⟩ = some (.bool (a2 == (wrap64 ((l1.length : Int) - 1)))) := (blk_cell BK402.out 6).trans rfl
  have HXE : Aside0 (x = ⟨⟨(rd_T24 l1 a2).f0, (rd_T24 l1 a2).f1, (rd_T24 l1 a2).f2⟩, ⟨0, 0, ⟨#[]⟩⟩, (a2 == (wrap64 ((l1.length : Int) - 1)))⟩) := aK (by rw [HX.out]; unfold r3_Join.x; rw [if_pos c6])
  clear c6
  simp only [c6b0, Bool.not_true]
  go_wp2
  go_meet
  case rel => exact ⟨rfl, HO0, ⟨by rw [HXE.out]; exact BK402.out⟩, HK, HB⟩
 case rest =>
  obtain ⟨rfl, HO0, BK402, HK, HB⟩ := hcut
  clear p401 q401 hx401_0 hx401_1 hx401_2
  have H := HH.out
  clear HH
  unfold r3_Join.g at H
  by_cases c56 : (l0.length : Int) > 0
  rotate_left
  ·rw [if_neg c56] at H
   have c56b0 : decide (0 < (l0.length : Int)) = false := decide_eq_false c56
   have c56b1 : decide (0 < l0.length) = false := decide_eq_false (by omega)
   clear c56
   by_cases c94 : l0.length < 1954687338268
   rotate_left
   ·rw [if_neg c94] at H
    exact absurd H (by simp)
   rw [if_pos c94] at H
   have LMc94 := Aside0.mk c94
   clear c94
   obtain ⟨y429, hy429⟩ : ∃ y_ : List (S65), y_ = (l0 ++ [(⟨(⟨x.f0.f0, x.f0.f1, x.f0.f2⟩ : S24), (⟨x.f1.f0, x.f1.f1, x.f1.f2⟩ : S24), x.f2⟩ : S65)]) := ⟨_, rfl⟩
   replace H : (some y429) = some r := by first | (rw [hy429]; with_reducible exact H) | (have H2_ := (Option.bind_some _ _).symm.trans H; rw [hy429]; with_reducible exact H2_) | (have H2_ := (Option.bind_some _ _).symm.trans H; with_reducible exact H2_) | with_reducible exact H | (rw [hy429]; exact H) | exact H
   have Ny429 := Aside0.mk hy429
   clear hy429
   obtain rfl := Option.some.inj H
   go_wp2
   have n0_ := aK (Kd.R_drew HO0.out)
   have n1_ := aK (blk_drew BK402.out)
   have n2_ := aK (Kept.drew HK.out)
   have n3_ := aK (below_drew1 HB.out)
   clear HO0
   clear BK402
   clear HK
   clear HB
   have HO0 := n0_
   have BK402 := n1_
   have HK := n2_
   have HB := n3_
   clear n0_ n1_ n2_ n3_
   refine start_ (n := 23) (S := fun w' => True) (ds := []) #[false, false, false, false, false, false, false, false, false, false, false, false, false, false, false, false, false, false, false, false, false, false, false] (by kernel_rfl) rfl rfl trivial (fun hHeld => ?_); refine with_tabW r3_Join.tab5 r3_Join.bits5 (fun HT_ HW_ => ?_)
   generalize wc.drew = w99 at HO0 BK402 HK HB hHeld ⊢
   refine pY (i := 0) (N := some 30) (tf 1 22) rfl rfl HT_.out ?_
   refine pY (i := 1) (N := some 31) (tf 2 21) rfl rfl HT_.out ?_
   refine pY (i := 2) (N := some 32) (tf 3 20) rfl rfl HT_.out ?_
   refine pure_ (i := 3) (N := some 33) (v := undef) (a' := ?_) (tf 4 19) rfl rfl (any_of HT_.out (by kernel_rfl)) (fun _ _ _ h => h) (Or.inr ⟨by rfl, rfl⟩) ?_ ?_
   rotate_left
   ·exact aP
   refine pure_ (i := 4) (N := some 34) (v := undef) (a' := ?_) (tf 5 18) rfl rfl (any_of HT_.out (by kernel_rfl)) (fun _ _ _ h => h) (Or.inr ⟨by rfl, rfl⟩) ?_ ?_
   rotate_left
   ·exact aP
   refine pure_ (i := 5) (N := some 35) (v := undef) (a' := ?_) (tf 6 17) rfl rfl (any_of HT_.out (by kernel_rfl)) (fun _ _ _ h => h) (Or.inr ⟨by rfl, rfl⟩) ?_ ?_
   rotate_left
   ·exact aP
   refine pure_ (i := 6) (N := some 36) (v := undef) (a' := ?_) (tf 7 16) rfl rfl (any_of HT_.out (by kernel_rfl)) (fun _ _ _ h => h) (Or.inr ⟨by rfl, rfl⟩) ?_ ?_
   rotate_left
   ·exact aP
   refine pure_ (i := 7) (N := some 37) (v := undef) (a' := ?_) (tf 8 15) rfl rfl (any_of HT_.out (by kernel_rfl)) (fun _ _ _ h => h) (Or.inr ⟨by rfl, rfl⟩) ?_ ?_
   rotate_left
   ·exact aP
   refine pure_ (i := 8) (N := some 38) (v := undef) (a' := ?_) (tf 9 14) rfl rfl (any_of HT_.out (by kernel_rfl)) (fun _ _ _ h => h) (Or.inr ⟨by rfl, rfl⟩) ?_ ?_
   rotate_left
   ·exact aP
   refine pure_ (i := 9) (N := some 39) (v := undef) (a' := ?_) (tf 10 13) rfl rfl (any_of HT_.out (by kernel_rfl)) (fun _ _ _ h => h) (Or.inr ⟨by rfl, rfl⟩) ?_ ?_
   rotate_left
   ·exact aP
   refine pY (i := 10) (N := some 40) (tf 11 12) rfl rfl HT_.out ?_
   refine pY (i := 11) (N := some 41) (tf 12 11) rfl rfl HT_.out ?_
   refine pure_ (i := 12) (N := some 42) (v := undef) (a' := ?_) (tf 13 10) rfl rfl (any_of HT_.out (by kernel_rfl)) (fun _ _ _ h => h) (Or.inr ⟨by rfl, rfl⟩) ?_ ?_
   rotate_left
   ·exact aP
   refine pure_ (i := 13) (N := some 43) (v := undef) (a' := ?_) (tf 14 9) rfl rfl (any_of HT_.out (by kernel_rfl)) (fun _ _ _ h => h) (Or.inr ⟨by rfl, rfl⟩) ?_ ?_
   rotate_left
   ·exact aP
   refine pure_ (i := 14) (N := some 44) (v := undef) (a' := ?_) (tf 15 8) rfl rfl (any_of HT_.out (by kernel_rfl)) (fun _ _ _ h => h) (Or.inr ⟨by rfl, rfl⟩) ?_ ?_
   rotate_left
   ·exact aP
   refine pure_ (i := 15) (N := some 45) (v := undef) (a' := ?_) (tf 16 7) rfl rfl (any_of HT_.out (by kernel_rfl)) (fun _ _ _ h => h) (Or.inr ⟨by rfl, rfl⟩) ?_ ?_
   rotate_left
   ·exact aP
   refine pure_ (i := 16) (N := some 46) (v := undef) (a' := ?_) (tf 17 6) rfl rfl (any_of HT_.out (by kernel_rfl)) (fun _ _ _ h => h) (Or.inr ⟨by rfl, rfl⟩) ?_ ?_
   rotate_left
   ·exact aP
   refine pure_ (i := 17) (N := some 47) (v := undef) (a' := ?_) (tf 18 5) rfl rfl (any_of HT_.out (by kernel_rfl)) (fun _ _ _ h => h) (Or.inr ⟨by rfl, rfl⟩) ?_ ?_
   rotate_left
   ·exact aP
   refine pure_ (i := 18) (N := some 48) (v := undef) (a' := ?_) (tf 19 4) rfl rfl (any_of HT_.out (by kernel_rfl)) (fun _ _ _ h => h) (Or.inr ⟨by rfl, rfl⟩) ?_ ?_
   rotate_left
   ·exact aP
   refine pure_ (i := 19) (N := some 49) (v := undef) (a' := ?_) (tf 20 3) rfl rfl (any_of HT_.out (by kernel_rfl)) (fun _ _ _ h => h) (Or.inr ⟨by rfl, rfl⟩) ?_ ?_
   rotate_left
   ·exact aP
   refine pure_ (i := 20) (N := some 50) (v := undef) (a' := ?_) (tf 21 2) rfl rfl (any_of HT_.out (by kernel_rfl)) (fun _ _ _ h => h) (Or.inr ⟨by rfl, rfl⟩) ?_ ?_
   rotate_left
   ·exact aP
   refine pure_ (i := 21) (N := some 51) (v := undef) (a' := ?_) (tf 22 1) rfl rfl (any_of HT_.out (by kernel_rfl)) (fun _ _ _ h => h) (Or.inr ⟨by rfl, rfl⟩) ?_ ?_
   rotate_left
   ·exact aP
   refine pY (i := 22) (N := some 52) (tf 23 0) rfl rfl HT_.out ?_
   refine done_ (done_of HT_.out (by kernel_rfl)) ?_
   obtain ⟨hcz100_0, hcz100_1, hcz100_2, hcz100_3, hcz100_4, hcz100_5, hcz100_6⟩ := z7 BK402.out (.int .i64 (x.f0.f0)) (.int .i64 (x.f0.f1)) (.string (x.f0.f2)) (.int .i64 (x.f1.f0)) (.int .i64 (x.f1.f1)) (.string (x.f1.f2)) (.bool x.f2)
   obtain ⟨hfz100_0, hfz100_1, hfz100_2, hfz100_3, hfz100_4, hfz100_5, hfz100_6⟩ := f7 BK402.out
   try go_wp2_with (first | ((with_reducible refine gate_builtin (b := .append) (xs := #[.tmp 68, .tmp 70]) rfl ?_); at_builtin; refine Kd.R_append k65 (w0 := w0) w0.heap.size rfl (.tmp 68) (.tmp 70) 36 65 (.agg #[(.int .i64 0), (.int .i64 0), (.string ⟨#[]⟩), (.int .i64 0), (.int .i64 0), (.string ⟨#[]⟩), (.bool false)]) 72 rfl Try.underlying36 info65 rfl (by decide) (by omega) (.slice Ao16 l0.length co16) l0 (⟨(⟨x.f0.f0, x.f0.f1, x.f0.f2⟩ : S24), (⟨x.f1.f0, x.f1.f1, x.f1.f2⟩ : S24), x.f2⟩ : S65) [.int .i64 (x.f0.f0), .int .i64 (x.f0.f1), .string (x.f0.f2), .int .i64 (x.f1.f0), .int .i64 (x.f1.f1), .string (x.f1.f2), .bool x.f2] (fun k_ => (P0_ k_ ∨ w.heap.size ≤ k_) ∧ k_ ≠ gb402) (fun _ => False) rfl rfl ?aP (fun _ hk => hk.elim) ?aF ?aO ?aB ?aS ?aL ?_; (case aP => exact k65_mkM _ _ _ (⟨(⟨x.f0.f0, x.f0.f1, x.f0.f2⟩ : S24), (⟨x.f1.f0, x.f1.f1, x.f1.f2⟩ : S24), x.f2⟩ : S65)); (case aB => exact (bS GE402.out)); (case aF => exact (fun k_ hk => ⟨(.inr (Nat.le_trans (by first | exact HK.out.1 | exact (show Kept w _ (fun k_ => P0_ k_) from by repeat (first | (with_reducible first | exact HK.out | apply Kept.alloc | apply Kept.drewN | apply Kept.drew | refine Kept.setCell ?_ (.inr GW402.out) _) | exact HK.out)).1) hk)), Kd.freshB (g := gb402) (o := .cells #[.int .i64 (x.f0.f0), .int .i64 (x.f0.f1), .string (x.f0.f2), .int .i64 (x.f1.f0), .int .i64 (x.f1.f1), .string (x.f1.f2), .bool x.f2] 65 (0, 0)) (bX BK402.out) k_ hk⟩)); (case aO => exact (rX HO0.out)); (case aS => exact (below_size (bS GE402.out))); (case aL => have := LMc94.out; omega); intro v430 w101 ho hb hg hat; rw [← Ny429.out] at ho; have n0_ := aK (blk_grown (g := gb402) (o := .cells #[.int .i64 (x.f0.f0), .int .i64 (x.f0.f1), .string (x.f0.f2), .int .i64 (x.f1.f0), .int .i64 (x.f1.f1), .string (x.f1.f2), .bool x.f2] 65 (0, 0)) (bX BK402.out) hg (Kd.R_away HO0.out (fun _ hk => hk.2))); have n1_ := aK (hb); have n2_ := aK (Kept.of_grown (S := (fun k_ => P0_ k_)) hg (by repeat (first | (with_reducible first | exact HK.out | apply Kept.alloc | apply Kept.drewN | apply Kept.drew | refine Kept.setCell ?_ (.inr GW402.out) _) | exact HK.out)) (fun k_ e_ => (HO0.out.1 k_ e_).1)); have n3_ := aK (ho); clear BK402 HB HK HO0; have BK402 := n0_; have HB := n1_; have HK := n2_; have HO431 := n3_; clear n0_ n1_ n2_ n3_ ho hb hg hat))
   go_ret
   exact ⟨_, by first | rfl | (simp [errW_none, errW_some] <;> rfl) | (simp only [← hji53]; first | rfl | (simp [errW_none, errW_some] <;> rfl)) | (simp [*, errW_none, errW_some] <;> rfl), by (with_reducible repeat (first | apply Kd.R_alloc | apply Kd.R_drewN | apply Kd.R_drew)); exact Kd.R_mono HO431.out (fun _ hk => hk.1), bS GE402.out, by repeat (first | (with_reducible first | exact HK.out | apply Kept.alloc | apply Kept.drewN | apply Kept.drew | refine Kept.setCell ?_ (.inr GW402.out) _) | exact HK.out)⟩
  rw [if_pos c56] at H
  have c56b0 : decide (0 < (l0.length : Int)) = true := decide_eq_true c56
  have c56b1 : decide (0 < l0.length) = true := decide_eq_true (by omega)
  clear c56
  obtain ⟨ji57, hji57⟩ : ∃ j_ : Int, (wrap64 ((l0.length : Int) - 1)) = j_ := ⟨_, rfl⟩
  replace H : (if 0 ≤ (ji57) then (if (ji57) < (l0.length : Int) then (if ((rd_T65 l0 (ji57)).f2 = true) then (if l0.length < 1954687338268 then (some (l0 ++ [(⟨(⟨x.f0.f0, x.f0.f1, x.f0.f2⟩ : S24), (⟨x.f1.f0, x.f1.f1, x.f1.f2⟩ : S24), x.f2⟩ : S65)])) else (none)) else ((r1_Compare.f ((rd_T65 l0 (ji57)).f1.f0) ((rd_T65 l0 (ji57)).f1.f1) ((rd_T65 l0 (ji57)).f1.f2) (x.f0.f0) (x.f0.f1) (x.f0.f2)).bind fun t423 => (if t423 = 0 then ((some (l0.set ((ji57) : Int).toNat (⟨(⟨(rd_T65 l0 (ji57)).f0.f0, (rd_T65 l0 (ji57)).f0.f1, (rd_T65 l0 (ji57)).f0.f2⟩ : S24), (⟨x.f1.f0, x.f1.f1, x.f1.f2⟩ : S24), (rd_T65 l0 (ji57)).f2⟩ : S65) : List (S65))).bind fun y424 => (some (y424.set ((ji57) : Int).toNat (⟨(⟨(rd_T65 y424 (ji57)).f0.f0, (rd_T65 y424 (ji57)).f0.f1, (rd_T65 y424 (ji57)).f0.f2⟩ : S24), (⟨(rd_T65 y424 (ji57)).f1.f0, (rd_T65 y424 (ji57)).f1.f1, (rd_T65 y424 (ji57)).f1.f2⟩ : S24), x.f2⟩ : S65)))) else (if l0.length < 1954687338268 then (some (l0 ++ [(⟨(⟨x.f0.f0, x.f0.f1, x.f0.f2⟩ : S24), (⟨x.f1.f0, x.f1.f1, x.f1.f2⟩ : S24), x.f2⟩ : S65)])) else (none))))) else (none)) else (none)) = some r := by first | (rw [hji57] at H; exact H) | (simp only [hji57] at H ⊢; exact H)
  have hji57w : (IntKind.i64.wrap ((l0.length : Int) - 1)) = ji57 := (i64_w _).trans hji57
  by_cases c58 : 0 ≤ (ji57)
  rotate_left
  ·rw [if_neg c58] at H
   exact absurd H (by simp)
  rw [if_pos c58] at H
  have c58b0 : decide (0 ≤ (ji57)) = true := decide_eq_true c58
  clear c58
  by_cases c59 : (ji57) < (l0.length : Int)
  rotate_left
  ·rw [if_neg c59] at H
   exact absurd H (by simp)
  rw [if_pos c59] at H
  have c59b0 : decide ((ji57) < (l0.length : Int)) = true := decide_eq_true c59
  clear c59
  obtain ⟨bq60, hbq60⟩ : ∃ b_ : Bool, b_ = ((rd_T65 l0 (ji57)).f2) := ⟨_, rfl⟩
  replace H : (if (bq60 = true) then (if l0.length < 1954687338268 then (some (l0 ++ [(⟨(⟨x.f0.f0, x.f0.f1, x.f0.f2⟩ : S24), (⟨x.f1.f0, x.f1.f1, x.f1.f2⟩ : S24), x.f2⟩ : S65)])) else (none)) else ((r1_Compare.f ((rd_T65 l0 (ji57)).f1.f0) ((rd_T65 l0 (ji57)).f1.f1) ((rd_T65 l0 (ji57)).f1.f2) (x.f0.f0) (x.f0.f1) (x.f0.f2)).bind fun t423 => (if t423 = 0 then ((some (l0.set ((ji57) : Int).toNat (⟨(⟨(rd_T65 l0 (ji57)).f0.f0, (rd_T65 l0 (ji57)).f0.f1, (rd_T65 l0 (ji57)).f0.f2⟩ : S24), (⟨x.f1.f0, x.f1.f1, x.f1.f2⟩ : S24), bq60⟩ : S65) : List (S65))).bind fun y424 => (some (y424.set ((ji57) : Int).toNat (⟨(⟨(rd_T65 y424 (ji57)).f0.f0, (rd_T65 y424 (ji57)).f0.f1, (rd_T65 y424 (ji57)).f0.f2⟩ : S24), (⟨(rd_T65 y424 (ji57)).f1.f0, (rd_T65 y424 (ji57)).f1.f1, (rd_T65 y424 (ji57)).f1.f2⟩ : S24), x.f2⟩ : S65)))) else (if l0.length < 1954687338268 then (some (l0 ++ [(⟨(⟨x.f0.f0, x.f0.f1, x.f0.f2⟩ : S24), (⟨x.f1.f0, x.f1.f1, x.f1.f2⟩ : S24), x.f2⟩ : S65)])) else (none))))) = some r := by rw [← hbq60] at H; exact H
  have Nbq60 := Aside0.mk hbq60
  clear hbq60
  by_cases c61 : (bq60 = true)
  rotate_left
  ·replace c61 := Bool.eq_false_iff.mpr c61
   subst c61
   rw [if_neg (show ¬ (false = true) by decide)] at H
   obtain ⟨t423, A70, H⟩ := oB H
   try dsimp only at H
   by_cases c71 : t423 = 0
   rotate_left
   ·rw [if_neg c71] at H
    have c71b0 : (t423 == 0) = false := beq_eq_false_iff_ne.mpr c71
    have c71b1 : (t423 != 0) = true := bne_iff_ne.mpr c71
    by_cases c85 : l0.length < 1954687338268
    rotate_left
    ·rw [if_neg c85] at H
     exact absurd H (by simp)
    rw [if_pos c85] at H
    have LMc85 := Aside0.mk c85
    clear c85
    obtain ⟨y426, hy426⟩ : ∃ y_ : List (S65), y_ = (l0 ++ [(⟨(⟨x.f0.f0, x.f0.f1, x.f0.f2⟩ : S24), (⟨x.f1.f0, x.f1.f1, x.f1.f2⟩ : S24), x.f2⟩ : S65)]) := ⟨_, rfl⟩
    replace H : (some y426) = some r := by first | (rw [hy426]; with_reducible exact H) | (have H2_ := (Option.bind_some _ _).symm.trans H; rw [hy426]; with_reducible exact H2_) | (have H2_ := (Option.bind_some _ _).symm.trans H; with_reducible exact H2_) | with_reducible exact H | (rw [hy426]; exact H) | exact H
    have Ny426 := Aside0.mk hy426
    clear hy426
    obtain rfl := Option.some.inj H
    go_wp2
    have n0_ := aK (Kd.R_drew HO0.out)
    have n1_ := aK (blk_drew BK402.out)
    have n2_ := aK (Kept.drew HK.out)
    have n3_ := aK (below_drew1 HB.out)
    clear HO0
    clear BK402
    clear HK
    clear HB
    have HO0 := n0_
    have BK402 := n1_
    have HK := n2_
    have HB := n3_
    clear n0_ n1_ n2_ n3_
    have p418 : 0 ≤ ((ji57) : Int) := of_decide_eq_true (aA)
    have q418 : (ji57) < (l0.length : Int) := of_decide_eq_true (aA)
    obtain ⟨ad418, e418, hx418_0, hx418_1, hx418_2, hx418_3, hx418_4, hx418_5, hx418_6⟩ := at_T65 (Kd.R_reads' HO0.out).2.2 (ji57) p418 q418
    (try rw [← Nbq60.out] at hx418_6)
    cases e418
    replace p418 := eq_true p418
    replace q418 := eq_true q418
    have p422 : 0 ≤ ((ji57) : Int) := of_decide_eq_true (aA)
    have q422 : (ji57) < (l0.length : Int) := of_decide_eq_true (aA)
    obtain ⟨ad422, e422, hx422_0, hx422_1, hx422_2, hx422_3, hx422_4, hx422_5, hx422_6⟩ := at_T65 (Kd.R_reads' HO0.out).2.2 (ji57) p422 q422
    (try rw [← Nbq60.out] at hx422_6)
    obtain rfl : ad418 = ad422 := (by injection e422)
    replace p422 := eq_true p422
    replace q422 := eq_true q422
    refine start_ (n := 23) (S := fun w' => w'.cell? ⟨gb402, 0, none⟩ = some (.int .i64 (x.f0.f0)) ∧ w'.cell? ⟨gb402, 1, none⟩ = some (.int .i64 (x.f0.f1)) ∧ w'.cell? ⟨gb402, 2, none⟩ = some (.string (x.f0.f2)) ∧ w'.cell? ⟨gb402, 3, none⟩ = some (.int .i64 (x.f1.f0)) ∧ w'.cell? ⟨gb402, 4, none⟩ = some (.int .i64 (x.f1.f1)) ∧ w'.cell? ⟨gb402, 5, none⟩ = some (.string (x.f1.f2)) ∧ w'.cell? ⟨gb402, 6, none⟩ = some (.bool x.f2) ∧ w'.cell? (ad418.add (((ji57)).toNat * 7)) = some (.int .i64 ((rd_T65 l0 (ji57)).f0.f0)) ∧ w'.cell? ⟨(ad418.add (((ji57)).toNat * 7)).block, (ad418.add (((ji57)).toNat * 7)).off + 1, none⟩ = some (.int .i64 ((rd_T65 l0 (ji57)).f0.f1)) ∧ w'.cell? ⟨(ad418.add (((ji57)).toNat * 7)).block, (ad418.add (((ji57)).toNat * 7)).off + 2, none⟩ = some (.string ((rd_T65 l0 (ji57)).f0.f2)) ∧ w'.cell? ⟨(ad418.add (((ji57)).toNat * 7)).block, (ad418.add (((ji57)).toNat * 7)).off + 3, none⟩ = some (.int .i64 ((rd_T65 l0 (ji57)).f1.f0)) ∧ w'.cell? ⟨(ad418.add (((ji57)).toNat * 7)).block, (ad418.add (((ji57)).toNat * 7)).off + 4, none⟩ = some (.int .i64 ((rd_T65 l0 (ji57)).f1.f1)) ∧ w'.cell? ⟨(ad418.add (((ji57)).toNat * 7)).block, (ad418.add (((ji57)).toNat * 7)).off + 5, none⟩ = some (.string ((rd_T65 l0 (ji57)).f1.f2)) ∧ w'.cell? ⟨(ad418.add (((ji57)).toNat * 7)).block, (ad418.add (((ji57)).toNat * 7)).off + 6, none⟩ = some (.bool false) ∧ w'.cell? (ad418.add (((ji57)).toNat * 7)) = some (.int .i64 ((rd_T65 l0 (ji57)).f0.f0)) ∧ w'.cell? ⟨(ad418.add (((ji57)).toNat * 7)).block, (ad418.add (((ji57)).toNat * 7)).off + 1, none⟩ = some (.int .i64 ((rd_T65 l0 (ji57)).f0.f1)) ∧ w'.cell? ⟨(ad418.add (((ji57)).toNat * 7)).block, (ad418.add (((ji57)).toNat * 7)).off + 2, none⟩ = some (.string ((rd_T65 l0 (ji57)).f0.f2)) ∧ w'.cell? ⟨(ad418.add (((ji57)).toNat * 7)).block, (ad418.add (((ji57)).toNat * 7)).off + 3, none⟩ = some (.int .i64 ((rd_T65 l0 (ji57)).f1.f0)) ∧ w'.cell? ⟨(ad418.add (((ji57)).toNat * 7)).block, (ad418.add (((ji57)).toNat * 7)).off + 4, none⟩ = some (.int .i64 ((rd_T65 l0 (ji57)).f1.f1)) ∧ w'.cell? ⟨(ad418.add (((ji57)).toNat * 7)).block, (ad418.add (((ji57)).toNat * 7)).off + 5, none⟩ = some (.string ((rd_T65 l0 (ji57)).f1.f2)) ∧ w'.cell? ⟨(ad418.add (((ji57)).toNat * 7)).block, (ad418.add (((ji57)).toNat * 7)).off + 6, none⟩ = some (.bool (false))) (ds := []) #[false, false, false, false, false, false, false, false, false, false, false, false, false, false, false, false, false, false, false, false, false, false, false] (by kernel_rfl) rfl rfl ⟨(blk_cell BK402.out 0).trans rfl, (blk_cell BK402.out 1).trans rfl, (blk_cell BK402.out 2).trans rfl, (blk_cell BK402.out 3).trans rfl, (blk_cell BK402.out 4).trans rfl, (blk_cell BK402.out 5).trans rfl, (blk_cell BK402.out 6).trans rfl, hx418_0, hx418_1, hx418_2, hx418_3, hx418_4, hx418_5, hx418_6, hx422_0, hx422_1, hx422_2, hx422_3, hx422_4, hx422_5, hx422_6⟩ (fun hHeld => ?_); refine with_tabW r3_Join.tab5 r3_Join.bits5 (fun HT_ HW_ => ?_)
    generalize wc.drew = w90 at HO0 BK402 HK HB hx418_0 hx418_1 hx418_2 hx418_3 hx418_4 hx418_5 hx418_6 hx422_0 hx422_1 hx422_2 hx422_3 hx422_4 hx422_5 hx422_6 hHeld ⊢
    refine pY (i := 0) (N := some 30) (tf 1 22) rfl rfl HT_.out ?_
    refine pY (i := 1) (N := some 31) (tf 2 21) rfl rfl HT_.out ?_
    refine pY (i := 2) (N := some 32) (tf 3 20) rfl rfl HT_.out ?_
    refine pY (i := 3) (N := some 33) (tf 4 19) rfl rfl HT_.out ?_
    refine pY (i := 4) (N := some 34) (tf 5 18) rfl rfl HT_.out ?_
    refine pY (i := 5) (N := some 35) (tf 6 17) rfl rfl HT_.out ?_
    refine pY (i := 6) (N := some 36) (tf 7 16) rfl rfl HT_.out ?_
    refine pY (i := 7) (N := some 37) (tf 8 15) rfl rfl HT_.out ?_
    refine take_ (i := 8) (N := some 38) (v := ?_) (a' := ?_) (tf 9 14) rfl rfl (take_ofW HT_.out HW_.out (by kernel_rfl)) (fun _ _ _ h => h) (Or.inl ⟨by rfl, ?_⟩) hHeld ?_ ?_
    rotate_left
    ·rintro w' ⟨s0, s1, s2, s3, s4, s5, s6, s7, s8, s9, s10, s11, s12, s13, s14, s15, s16, s17, s18, s19, s20⟩
     go_simp
     with_reducible rfl
    rotate_left
    ·exact aP
    refine pY (i := 9) (N := some 39) (tf 10 13) rfl rfl HT_.out ?_
    refine pY (i := 10) (N := some 40) (tf 11 12) rfl rfl HT_.out ?_
    refine pY (i := 11) (N := some 41) (tf 12 11) rfl rfl HT_.out ?_
    refine pY (i := 12) (N := some 42) (tf 13 10) rfl rfl HT_.out ?_
    refine pY (i := 13) (N := some 43) (tf 14 9) rfl rfl HT_.out ?_
    refine pY (i := 14) (N := some 44) (tf 15 8) rfl rfl HT_.out ?_
    refine pY (i := 15) (N := some 45) (tf 16 7) rfl rfl HT_.out ?_
    refine pY (i := 16) (N := some 46) (tf 17 6) rfl rfl HT_.out ?_
    refine pY (i := 18) (N := some 48) #[true, true, true, true, true, true, true, true, true, true, true, true, true, true, true, true, true, false, true, false, false, false, false] rfl rfl HT_.out ?_
    refine take_ (i := 17) (N := some 47) (v := ?_) (a' := ?_) (tf 19 4) rfl rfl (take_ofW HT_.out HW_.out (by kernel_rfl)) (fun _ _ _ h => h) (Or.inl ⟨by rfl, ?_⟩) hHeld ?_ ?_
    rotate_left
    ·rintro w' ⟨s0, s1, s2, s3, s4, s5, s6, s7, s8, s9, s10, s11, s12, s13, s14, s15, s16, s17, s18, s19, s20⟩
     go_simp
     with_reducible rfl
    rotate_left
    ·exact aP
    refine take_ (i := 19) (N := some 49) (v := ?_) (a' := ?_) (tf 20 3) rfl rfl (take_ofW HT_.out HW_.out (by kernel_rfl)) (fun _ _ _ h => h) (Or.inl ⟨by rfl, ?_⟩) hHeld ?_ ?_
    rotate_left
    ·rintro w' ⟨s0, s1, s2, s3, s4, s5, s6, s7, s8, s9, s10, s11, s12, s13, s14, s15, s16, s17, s18, s19, s20⟩
     go_simp
     with_reducible rfl
    rotate_left
    ·exact aP
    refine one_ (i := 20) (N := some 50) (tf 21 2) rfl rfl (one_of HT_.out (by kernel_rfl)) (by decide) (fun K hK => ?_)
    refine goes_ Try.func26 (by kernel_rfl) rfl #[.agg #[.int .i64 ((rd_T65 l0 (ji57)).f1.f0), .int .i64 ((rd_T65 l0 (ji57)).f1.f1), .string ((rd_T65 l0 (ji57)).f1.f2)], .agg #[.int .i64 (x.f0.f0), .int .i64 (x.f0.f1), .string (x.f0.f2)]] (by rfl) rfl rfl (by (try simp only [List.map_toArray, List.map_cons, List.map_nil]); first | done | (simp only [hji57]; rfl) | rfl | (simp only [List.length_drop, List.length_take]; rfl)) ?_
    with_reducible refine (r1_Compare.calls ((rd_T65 l0 (ji57)).f1.f0) ((rd_T65 l0 (ji57)).f1.f1) ((rd_T65 l0 (ji57)).f1.f2) (x.f0.f0) (x.f0.f1) (x.f0.f2) t423 _ A70.out).mono ?_
    rintro e w91 ⟨rfl, hb⟩
    have HS7_ := (hb.cell (World.block_lt_of_cell? _ _ (hHeld.2.2.2.2.2.2.2.1))).trans (hHeld.2.2.2.2.2.2.2.1)
    have HS8_ := (hb.cell (World.block_lt_of_cell? _ _ (hHeld.2.2.2.2.2.2.2.2.1))).trans (hHeld.2.2.2.2.2.2.2.2.1)
    have HS9_ := (hb.cell (World.block_lt_of_cell? _ _ (hHeld.2.2.2.2.2.2.2.2.2.1))).trans (hHeld.2.2.2.2.2.2.2.2.2.1)
    have HS10_ := (hb.cell (World.block_lt_of_cell? _ _ (hHeld.2.2.2.2.2.2.2.2.2.2.1))).trans (hHeld.2.2.2.2.2.2.2.2.2.2.1)
    have HS11_ := (hb.cell (World.block_lt_of_cell? _ _ (hHeld.2.2.2.2.2.2.2.2.2.2.2.1))).trans (hHeld.2.2.2.2.2.2.2.2.2.2.2.1)
    have HS12_ := (hb.cell (World.block_lt_of_cell? _ _ (hHeld.2.2.2.2.2.2.2.2.2.2.2.2.1))).trans (hHeld.2.2.2.2.2.2.2.2.2.2.2.2.1)
    have HS13_ := (hb.cell (World.block_lt_of_cell? _ _ (hHeld.2.2.2.2.2.2.2.2.2.2.2.2.2.1))).trans (hHeld.2.2.2.2.2.2.2.2.2.2.2.2.2.1)
    have HS14_ := (hb.cell (World.block_lt_of_cell? _ _ (hHeld.2.2.2.2.2.2.2.2.2.2.2.2.2.2.1))).trans (hHeld.2.2.2.2.2.2.2.2.2.2.2.2.2.2.1)
    have HS15_ := (hb.cell (World.block_lt_of_cell? _ _ (hHeld.2.2.2.2.2.2.2.2.2.2.2.2.2.2.2.1))).trans (hHeld.2.2.2.2.2.2.2.2.2.2.2.2.2.2.2.1)
    have HS16_ := (hb.cell (World.block_lt_of_cell? _ _ (hHeld.2.2.2.2.2.2.2.2.2.2.2.2.2.2.2.2.1))).trans (hHeld.2.2.2.2.2.2.2.2.2.2.2.2.2.2.2.2.1)
    have HS17_ := (hb.cell (World.block_lt_of_cell? _ _ (hHeld.2.2.2.2.2.2.2.2.2.2.2.2.2.2.2.2.2.1))).trans (hHeld.2.2.2.2.2.2.2.2.2.2.2.2.2.2.2.2.2.1)
    have HS18_ := (hb.cell (World.block_lt_of_cell? _ _ (hHeld.2.2.2.2.2.2.2.2.2.2.2.2.2.2.2.2.2.2.1))).trans (hHeld.2.2.2.2.2.2.2.2.2.2.2.2.2.2.2.2.2.2.1)
    have HS19_ := (hb.cell (World.block_lt_of_cell? _ _ (hHeld.2.2.2.2.2.2.2.2.2.2.2.2.2.2.2.2.2.2.2.1))).trans (hHeld.2.2.2.2.2.2.2.2.2.2.2.2.2.2.2.2.2.2.2.1)
    have HS20_ := (hb.cell (World.block_lt_of_cell? _ _ (hHeld.2.2.2.2.2.2.2.2.2.2.2.2.2.2.2.2.2.2.2.2))).trans (hHeld.2.2.2.2.2.2.2.2.2.2.2.2.2.2.2.2.2.2.2.2)
    refine ⟨_, rfl, ?_⟩
    have n0_ := aK (Kd.R_below (rX HO0.out) hb)
    have n1_ := aK (blk_below (bX BK402.out) hb)
    have n2_ := aK (Kept.below (S := (fun k_ => P0_ k_)) (by repeat (first | (with_reducible first | exact HK.out | apply Kept.alloc | apply Kept.drewN | apply Kept.drew | refine Kept.setCell ?_ (.inr GW402.out) _) | exact HK.out)) hb)
    have n3_ := aK (below_step (bS GE402.out) hb)
    clear HO0
    clear BK402
    clear HK
    clear HB
    have HO0 := n0_
    have BK402 := n1_
    have HK := n2_
    have HB := n3_
    clear n0_ n1_ n2_ n3_
    (try clear hb)
    (try clear hb2)
    (try clear hk)
    (try clear hi)
    refine hK.out _ _ ⟨(blk_cell BK402.out 0).trans rfl, (blk_cell BK402.out 1).trans rfl, (blk_cell BK402.out 2).trans rfl, (blk_cell BK402.out 3).trans rfl, (blk_cell BK402.out 4).trans rfl, (blk_cell BK402.out 5).trans rfl, (blk_cell BK402.out 6).trans rfl, HS7_, HS8_, HS9_, HS10_, HS11_, HS12_, HS13_, HS14_, HS15_, HS16_, HS17_, HS18_, HS19_, HS20_⟩ (fun hHeld => ?_)
    clear hK K
    refine norm_ (a' := ?_) ?_ ?_
    rotate_left
    ·show Act.put _ (some 50) _ = _
     simp only [Act.put, List.setIfInBounds_toArray, List.set_cons_zero, List.set_cons_succ, i64_w, i32_w]
     rfl
    refine pY (i := 21) (N := some 51) (tf 22 1) rfl rfl HT_.out ?_
    refine pY (i := 22) (N := some 52) (tf 23 0) rfl rfl HT_.out ?_
    refine done_ (done_of HT_.out (by kernel_rfl)) ?_
    obtain ⟨hcz92_0, hcz92_1, hcz92_2, hcz92_3, hcz92_4, hcz92_5, hcz92_6⟩ := z7 BK402.out (.int .i64 (x.f0.f0)) (.int .i64 (x.f0.f1)) (.string (x.f0.f2)) (.int .i64 (x.f1.f0)) (.int .i64 (x.f1.f1)) (.string (x.f1.f2)) (.bool x.f2)
    obtain ⟨hfz92_0, hfz92_1, hfz92_2, hfz92_3, hfz92_4, hfz92_5, hfz92_6⟩ := f7 BK402.out
    try go_wp2_with (first | ((with_reducible refine gate_builtin (b := .append) (xs := #[.tmp 68, .tmp 70]) rfl ?_); at_builtin; refine Kd.R_append k65 (w0 := w0) w0.heap.size rfl (.tmp 68) (.tmp 70) 36 65 (.agg #[(.int .i64 0), (.int .i64 0), (.string ⟨#[]⟩), (.int .i64 0), (.int .i64 0), (.string ⟨#[]⟩), (.bool false)]) 72 rfl Try.underlying36 info65 rfl (by decide) (by omega) (.slice (some ad418) l0.length co16) l0 (⟨(⟨x.f0.f0, x.f0.f1, x.f0.f2⟩ : S24), (⟨x.f1.f0, x.f1.f1, x.f1.f2⟩ : S24), x.f2⟩ : S65) [.int .i64 (x.f0.f0), .int .i64 (x.f0.f1), .string (x.f0.f2), .int .i64 (x.f1.f0), .int .i64 (x.f1.f1), .string (x.f1.f2), .bool x.f2] (fun k_ => (P0_ k_ ∨ w.heap.size ≤ k_) ∧ k_ ≠ gb402) (fun _ => False) rfl rfl ?aP (fun _ hk => hk.elim) ?aF ?aO ?aB ?aS ?aL ?_; (case aP => exact k65_mkM _ _ _ (⟨(⟨x.f0.f0, x.f0.f1, x.f0.f2⟩ : S24), (⟨x.f1.f0, x.f1.f1, x.f1.f2⟩ : S24), x.f2⟩ : S65)); (case aB => exact (bS GE402.out)); (case aF => exact (fun k_ hk => ⟨(.inr (Nat.le_trans (by first | exact HK.out.1 | exact (show Kept w _ (fun k_ => P0_ k_) from by repeat (first | (with_reducible first | exact HK.out | apply Kept.alloc | apply Kept.drewN | apply Kept.drew | refine Kept.setCell ?_ (.inr GW402.out) _) | exact HK.out)).1) hk)), Kd.freshB (g := gb402) (o := .cells #[.int .i64 (x.f0.f0), .int .i64 (x.f0.f1), .string (x.f0.f2), .int .i64 (x.f1.f0), .int .i64 (x.f1.f1), .string (x.f1.f2), .bool x.f2] 65 (0, 0)) (bX BK402.out) k_ hk⟩)); (case aO => exact (rX HO0.out)); (case aS => exact (below_size (bS GE402.out))); (case aL => have := LMc85.out; omega); intro v427 w93 ho hb hg hat; rw [← Ny426.out] at ho; have n0_ := aK (blk_grown (g := gb402) (o := .cells #[.int .i64 (x.f0.f0), .int .i64 (x.f0.f1), .string (x.f0.f2), .int .i64 (x.f1.f0), .int .i64 (x.f1.f1), .string (x.f1.f2), .bool x.f2] 65 (0, 0)) (bX BK402.out) hg (Kd.R_away HO0.out (fun _ hk => hk.2))); have n1_ := aK (hb); have n2_ := aK (Kept.of_grown (S := (fun k_ => P0_ k_)) hg (by repeat (first | (with_reducible first | exact HK.out | apply Kept.alloc | apply Kept.drewN | apply Kept.drew | refine Kept.setCell ?_ (.inr GW402.out) _) | exact HK.out)) (fun k_ e_ => (HO0.out.1 k_ e_).1)); have n3_ := aK (ho); clear BK402 HB HK HO0; have BK402 := n0_; have HB := n1_; have HK := n2_; have HO428 := n3_; clear n0_ n1_ n2_ n3_ ho hb hg hat))
    go_ret
    exact ⟨_, by first | rfl | (simp [errW_none, errW_some] <;> rfl) | (simp only [← hji53, ← hji57]; first | rfl | (simp [errW_none, errW_some] <;> rfl)) | (simp [*, errW_none, errW_some] <;> rfl), by (with_reducible repeat (first | apply Kd.R_alloc | apply Kd.R_drewN | apply Kd.R_drew)); exact Kd.R_mono HO428.out (fun _ hk => hk.1), bS GE402.out, by repeat (first | (with_reducible first | exact HK.out | apply Kept.alloc | apply Kept.drewN | apply Kept.drew | refine Kept.setCell ?_ (.inr GW402.out) _) | exact HK.out)⟩
   rw [if_pos c71] at H
   have c71b0 : (t423 == 0) = true := beq_iff_eq.mpr c71
   have c71b1 : (t423 != 0) = false := bne_eq_false_iff_eq.mpr c71
   clear c71
   obtain ⟨y424, hy424⟩ : ∃ y_ : List (S65), y_ = (l0.set ((ji57) : Int).toNat (⟨(⟨(rd_T65 l0 (ji57)).f0.f0, (rd_T65 l0 (ji57)).f0.f1, (rd_T65 l0 (ji57)).f0.f2⟩ : S24), (⟨x.f1.f0, x.f1.f1, x.f1.f2⟩ : S24), false⟩ : S65)) := ⟨_, rfl⟩
   replace H : (some (y424.set ((ji57) : Int).toNat (⟨(⟨(rd_T65 y424 (ji57)).f0.f0, (rd_T65 y424 (ji57)).f0.f1, (rd_T65 y424 (ji57)).f0.f2⟩ : S24), (⟨(rd_T65 y424 (ji57)).f1.f0, (rd_T65 y424 (ji57)).f1.f1, (rd_T65 y424 (ji57)).f1.f2⟩ : S24), x.f2⟩ : S65))) = some r := by first | (rw [hy424]; with_reducible exact H) | (have H2_ := (Option.bind_some _ _).symm.trans H; rw [hy424]; with_reducible exact H2_) | (have H2_ := (Option.bind_some _ _).symm.trans H; with_reducible exact H2_) | with_reducible exact H | (rw [hy424]; exact H) | exact H
   have Ny424 := Aside0.mk hy424
   clear hy424
   obtain ⟨y425, hy425⟩ : ∃ y_ : List (S65), y_ = (y424.set ((ji57) : Int).toNat (⟨(⟨(rd_T65 y424 (ji57)).f0.f0, (rd_T65 y424 (ji57)).f0.f1, (rd_T65 y424 (ji57)).f0.f2⟩ : S24), (⟨(rd_T65 y424 (ji57)).f1.f0, (rd_T65 y424 (ji57)).f1.f1, (rd_T65 y424 (ji57)).f1.f2⟩ : S24), x.f2⟩ : S65)) := ⟨_, rfl⟩
   replace H : (some y425) = some r := by first | (rw [hy425]; with_reducible exact H) | (have H2_ := (Option.bind_some _ _).symm.trans H; rw [hy425]; with_reducible exact H2_) | (have H2_ := (Option.bind_some _ _).symm.trans H; with_reducible exact H2_) | with_reducible exact H | (rw [hy425]; exact H) | exact H
   have Ny425 := Aside0.mk hy425
   clear hy425
   obtain rfl := Option.some.inj H
   go_wp2
   have n0_ := aK (Kd.R_drew HO0.out)
   have n1_ := aK (blk_drew BK402.out)
   have n2_ := aK (Kept.drew HK.out)
   have n3_ := aK (below_drew1 HB.out)
   clear HO0
   clear BK402
   clear HK
   clear HB
   have HO0 := n0_
   have BK402 := n1_
   have HK := n2_
   have HB := n3_
   clear n0_ n1_ n2_ n3_
   have p418 : 0 ≤ ((ji57) : Int) := of_decide_eq_true (aA)
   have q418 : (ji57) < (l0.length : Int) := of_decide_eq_true (aA)
   obtain ⟨ad418, e418, hx418_0, hx418_1, hx418_2, hx418_3, hx418_4, hx418_5, hx418_6⟩ := at_T65 (Kd.R_reads' HO0.out).2.2 (ji57) p418 q418
   (try rw [← Nbq60.out] at hx418_6)
   cases e418
   replace p418 := eq_true p418
   replace q418 := eq_true q418
   have p422 : 0 ≤ ((ji57) : Int) := of_decide_eq_true (aA)
   have q422 : (ji57) < (l0.length : Int) := of_decide_eq_true (aA)
   obtain ⟨ad422, e422, hx422_0, hx422_1, hx422_2, hx422_3, hx422_4, hx422_5, hx422_6⟩ := at_T65 (Kd.R_reads' HO0.out).2.2 (ji57) p422 q422
   (try rw [← Nbq60.out] at hx422_6)
   obtain rfl : ad418 = ad422 := (by injection e422)
   replace p422 := eq_true p422
   replace q422 := eq_true q422
   refine start_ (n := 23) (S := fun w' => w'.cell? ⟨gb402, 0, none⟩ = some (.int .i64 (x.f0.f0)) ∧ w'.cell? ⟨gb402, 1, none⟩ = some (.int .i64 (x.f0.f1)) ∧ w'.cell? ⟨gb402, 2, none⟩ = some (.string (x.f0.f2)) ∧ w'.cell? ⟨gb402, 3, none⟩ = some (.int .i64 (x.f1.f0)) ∧ w'.cell? ⟨gb402, 4, none⟩ = some (.int .i64 (x.f1.f1)) ∧ w'.cell? ⟨gb402, 5, none⟩ = some (.string (x.f1.f2)) ∧ w'.cell? ⟨gb402, 6, none⟩ = some (.bool x.f2) ∧ w'.cell? (ad418.add (((ji57)).toNat * 7)) = some (.int .i64 ((rd_T65 l0 (ji57)).f0.f0)) ∧ w'.cell? ⟨(ad418.add (((ji57)).toNat * 7)).block, (ad418.add (((ji57)).toNat * 7)).off + 1, none⟩ = some (.int .i64 ((rd_T65 l0 (ji57)).f0.f1)) ∧ w'.cell? ⟨(ad418.add (((ji57)).toNat * 7)).block, (ad418.add (((ji57)).toNat * 7)).off + 2, none⟩ = some (.string ((rd_T65 l0 (ji57)).f0.f2)) ∧ w'.cell? ⟨(ad418.add (((ji57)).toNat * 7)).block, (ad418.add (((ji57)).toNat * 7)).off + 3, none⟩ = some (.int .i64 ((rd_T65 l0 (ji57)).f1.f0)) ∧ w'.cell? ⟨(ad418.add (((ji57)).toNat * 7)).block, (ad418.add (((ji57)).toNat * 7)).off + 4, none⟩ = some (.int .i64 ((rd_T65 l0 (ji57)).f1.f1)) ∧ w'.cell? ⟨(ad418.add (((ji57)).toNat * 7)).block, (ad418.add (((ji57)).toNat * 7)).off + 5, none⟩ = some (.string ((rd_T65 l0 (ji57)).f1.f2)) ∧ w'.cell? ⟨(ad418.add (((ji57)).toNat * 7)).block, (ad418.add (((ji57)).toNat * 7)).off + 6, none⟩ = some (.bool false) ∧ w'.cell? (ad418.add (((ji57)).toNat * 7)) = some (.int .i64 ((rd_T65 l0 (ji57)).f0.f0)) ∧ w'.cell? ⟨(ad418.add (((ji57)).toNat * 7)).block, (ad418.add (((ji57)).toNat * 7)).off + 1, none⟩ = some (.int .i64 ((rd_T65 l0 (ji57)).f0.f1)) ∧ w'.cell? ⟨(ad418.add (((ji57)).toNat * 7)).block, (ad418.add (((ji57)).toNat * 7)).off + 2, none⟩ = some (.string ((rd_T65 l0 (ji57)).f0.f2)) ∧ w'.cell? ⟨(ad418.add (((ji57)).toNat * 7)).block, (ad418.add (((ji57)).toNat * 7)).off + 3, none⟩ = some (.int .i64 ((rd_T65 l0 (ji57)).f1.f0)) ∧ w'.cell? ⟨(ad418.add (((ji57)).toNat * 7)).block, (ad418.add (((ji57)).toNat * 7)).off + 4, none⟩ = some (.int .i64 ((rd_T65 l0 (ji57)).f1.f1)) ∧ w'.cell? ⟨(ad418.add (((ji57)).toNat * 7)).block, (ad418.add (((ji57)).toNat * 7)).off + 5, none⟩ = some (.string ((rd_T65 l0 (ji57)).f1.f2)) ∧ w'.cell? ⟨(ad418.add (((ji57)).toNat * 7)).block, (ad418.add (((ji57)).toNat * 7)).off + 6, none⟩ = some (.bool (false))) (ds := []) #[false, false, false, false, false, false, false, false, false, false, false, false, false, false, false, false, false, false, false, false, false, false, false] (by kernel_rfl) rfl rfl ⟨(blk_cell BK402.out 0).trans rfl, (blk_cell BK402.out 1).trans rfl, (blk_cell BK402.out 2).trans rfl, (blk_cell BK402.out 3).trans rfl, (blk_cell BK402.out 4).trans rfl, (blk_cell BK402.out 5).trans rfl, (blk_cell BK402.out 6).trans rfl, hx418_0, hx418_1, hx418_2, hx418_3, hx418_4, hx418_5, hx418_6, hx422_0, hx422_1, hx422_2, hx422_3, hx422_4, hx422_5, hx422_6⟩ (fun hHeld => ?_); refine with_tabW r3_Join.tab5 r3_Join.bits5 (fun HT_ HW_ => ?_)
   generalize wc.drew = w78 at HO0 BK402 HK HB hx418_0 hx418_1 hx418_2 hx418_3 hx418_4 hx418_5 hx418_6 hx422_0 hx422_1 hx422_2 hx422_3 hx422_4 hx422_5 hx422_6 hHeld ⊢
   refine pY (i := 0) (N := some 30) (tf 1 22) rfl rfl HT_.out ?_
   refine pY (i := 1) (N := some 31) (tf 2 21) rfl rfl HT_.out ?_
   refine pY (i := 2) (N := some 32) (tf 3 20) rfl rfl HT_.out ?_
   refine pY (i := 3) (N := some 33) (tf 4 19) rfl rfl HT_.out ?_
   refine pY (i := 4) (N := some 34) (tf 5 18) rfl rfl HT_.out ?_
   refine pY (i := 5) (N := some 35) (tf 6 17) rfl rfl HT_.out ?_
   refine pY (i := 6) (N := some 36) (tf 7 16) rfl rfl HT_.out ?_
   refine pY (i := 7) (N := some 37) (tf 8 15) rfl rfl HT_.out ?_
   refine take_ (i := 8) (N := some 38) (v := ?_) (a' := ?_) (tf 9 14) rfl rfl (take_ofW HT_.out HW_.out (by kernel_rfl)) (fun _ _ _ h => h) (Or.inl ⟨by rfl, ?_⟩) hHeld ?_ ?_
   rotate_left
   ·rintro w' ⟨s0, s1, s2, s3, s4, s5, s6, s7, s8, s9, s10, s11, s12, s13, s14, s15, s16, s17, s18, s19, s20⟩
    go_simp
    with_reducible rfl
   rotate_left
   ·exact aP
   refine pY (i := 9) (N := some 39) (tf 10 13) rfl rfl HT_.out ?_
   refine pY (i := 10) (N := some 40) (tf 11 12) rfl rfl HT_.out ?_
   refine pY (i := 11) (N := some 41) (tf 12 11) rfl rfl HT_.out ?_
   refine pY (i := 12) (N := some 42) (tf 13 10) rfl rfl HT_.out ?_
   refine pY (i := 13) (N := some 43) (tf 14 9) rfl rfl HT_.out ?_
   refine pY (i := 14) (N := some 44) (tf 15 8) rfl rfl HT_.out ?_
   refine pY (i := 15) (N := some 45) (tf 16 7) rfl rfl HT_.out ?_
   refine pY (i := 16) (N := some 46) (tf 17 6) rfl rfl HT_.out ?_
   refine pY (i := 18) (N := some 48) #[true, true, true, true, true, true, true, true, true, true, true, true, true, true, true, true, true, false, true, false, false, false, false] rfl rfl HT_.out ?_
   refine take_ (i := 17) (N := some 47) (v := ?_) (a' := ?_) (tf 19 4) rfl rfl (take_ofW HT_.out HW_.out (by kernel_rfl)) (fun _ _ _ h => h) (Or.inl ⟨by rfl, ?_⟩) hHeld ?_ ?_
   rotate_left
   ·rintro w' ⟨s0, s1, s2, s3, s4, s5, s6, s7, s8, s9, s10, s11, s12, s13, s14, s15, s16, s17, s18, s19, s20⟩
    go_simp
    with_reducible rfl
   rotate_left
   ·exact aP
   refine take_ (i := 19) (N := some 49) (v := ?_) (a' := ?_) (tf 20 3) rfl rfl (take_ofW HT_.out HW_.out (by kernel_rfl)) (fun _ _ _ h => h) (Or.inl ⟨by rfl, ?_⟩) hHeld ?_ ?_
   rotate_left
   ·rintro w' ⟨s0, s1, s2, s3, s4, s5, s6, s7, s8, s9, s10, s11, s12, s13, s14, s15, s16, s17, s18, s19, s20⟩
    go_simp
    with_reducible rfl
   rotate_left
   ·exact aP
   refine one_ (i := 20) (N := some 50) (tf 21 2) rfl rfl (one_of HT_.out (by kernel_rfl)) (by decide) (fun K hK => ?_)
   refine goes_ Try.func26 (by kernel_rfl) rfl #[.agg #[.int .i64 ((rd_T65 l0 (ji57)).f1.f0), .int .i64 ((rd_T65 l0 (ji57)).f1.f1), .string ((rd_T65 l0 (ji57)).f1.f2)], .agg #[.int .i64 (x.f0.f0), .int .i64 (x.f0.f1), .string (x.f0.f2)]] (by rfl) rfl rfl (by (try simp only [List.map_toArray, List.map_cons, List.map_nil]); first | done | (simp only [hji57]; rfl) | rfl | (simp only [List.length_drop, List.length_take]; rfl)) ?_
   with_reducible refine (r1_Compare.calls ((rd_T65 l0 (ji57)).f1.f0) ((rd_T65 l0 (ji57)).f1.f1) ((rd_T65 l0 (ji57)).f1.f2) (x.f0.f0) (x.f0.f1) (x.f0.f2) t423 _ A70.out).mono ?_
   rintro e w79 ⟨rfl, hb⟩
   have HS7_ := (hb.cell (World.block_lt_of_cell? _ _ (hHeld.2.2.2.2.2.2.2.1))).trans (hHeld.2.2.2.2.2.2.2.1)
   have HS8_ := (hb.cell (World.block_lt_of_cell? _ _ (hHeld.2.2.2.2.2.2.2.2.1))).trans (hHeld.2.2.2.2.2.2.2.2.1)
   have HS9_ := (hb.cell (World.block_lt_of_cell? _ _ (hHeld.2.2.2.2.2.2.2.2.2.1))).trans (hHeld.2.2.2.2.2.2.2.2.2.1)
   have HS10_ := (hb.cell (World.block_lt_of_cell? _ _ (hHeld.2.2.2.2.2.2.2.2.2.2.1))).trans (hHeld.2.2.2.2.2.2.2.2.2.2.1)
   have HS11_ := (hb.cell (World.block_lt_of_cell? _ _ (hHeld.2.2.2.2.2.2.2.2.2.2.2.1))).trans (hHeld.2.2.2.2.2.2.2.2.2.2.2.1)
   have HS12_ := (hb.cell (World.block_lt_of_cell? _ _ (hHeld.2.2.2.2.2.2.2.2.2.2.2.2.1))).trans (hHeld.2.2.2.2.2.2.2.2.2.2.2.2.1)
   have HS13_ := (hb.cell (World.block_lt_of_cell? _ _ (hHeld.2.2.2.2.2.2.2.2.2.2.2.2.2.1))).trans (hHeld.2.2.2.2.2.2.2.2.2.2.2.2.2.1)
   have HS14_ := (hb.cell (World.block_lt_of_cell? _ _ (hHeld.2.2.2.2.2.2.2.2.2.2.2.2.2.2.1))).trans (hHeld.2.2.2.2.2.2.2.2.2.2.2.2.2.2.1)
   have HS15_ := (hb.cell (World.block_lt_of_cell? _ _ (hHeld.2.2.2.2.2.2.2.2.2.2.2.2.2.2.2.1))).trans (hHeld.2.2.2.2.2.2.2.2.2.2.2.2.2.2.2.1)
   have HS16_ := (hb.cell (World.block_lt_of_cell? _ _ (hHeld.2.2.2.2.2.2.2.2.2.2.2.2.2.2.2.2.1))).trans (hHeld.2.2.2.2.2.2.2.2.2.2.2.2.2.2.2.2.1)
   have HS17_ := (hb.cell (World.block_lt_of_cell? _ _ (hHeld.2.2.2.2.2.2.2.2.2.2.2.2.2.2.2.2.2.1))).trans (hHeld.2.2.2.2.2.2.2.2.2.2.2.2.2.2.2.2.2.1)
   have HS18_ := (hb.cell (World.block_lt_of_cell? _ _ (hHeld.2.2.2.2.2.2.2.2.2.2.2.2.2.2.2.2.2.2.1))).trans (hHeld.2.2.2.2.2.2.2.2.2.2.2.2.2.2.2.2.2.2.1)
   have HS19_ := (hb.cell (World.block_lt_of_cell? _ _ (hHeld.2.2.2.2.2.2.2.2.2.2.2.2.2.2.2.2.2.2.2.1))).trans (hHeld.2.2.2.2.2.2.2.2.2.2.2.2.2.2.2.2.2.2.2.1)
   have HS20_ := (hb.cell (World.block_lt_of_cell? _ _ (hHeld.2.2.2.2.2.2.2.2.2.2.2.2.2.2.2.2.2.2.2.2))).trans (hHeld.2.2.2.2.2.2.2.2.2.2.2.2.2.2.2.2.2.2.2.2)
   refine ⟨_, rfl, ?_⟩
   have n0_ := aK (Kd.R_below (rX HO0.out) hb)
   have n1_ := aK (blk_below (bX BK402.out) hb)
   have n2_ := aK (Kept.below (S := (fun k_ => P0_ k_)) (by repeat (first | (with_reducible first | exact HK.out | apply Kept.alloc | apply Kept.drewN | apply Kept.drew | refine Kept.setCell ?_ (.inr GW402.out) _) | exact HK.out)) hb)
   have n3_ := aK (below_step (bS GE402.out) hb)
   clear HO0
   clear BK402
   clear HK
   clear HB
   have HO0 := n0_
   have BK402 := n1_
   have HK := n2_
   have HB := n3_
   clear n0_ n1_ n2_ n3_
   (try clear hb)
   (try clear hb2)
   (try clear hk)
   (try clear hi)
   refine hK.out _ _ ⟨(blk_cell BK402.out 0).trans rfl, (blk_cell BK402.out 1).trans rfl, (blk_cell BK402.out 2).trans rfl, (blk_cell BK402.out 3).trans rfl, (blk_cell BK402.out 4).trans rfl, (blk_cell BK402.out 5).trans rfl, (blk_cell BK402.out 6).trans rfl, HS7_, HS8_, HS9_, HS10_, HS11_, HS12_, HS13_, HS14_, HS15_, HS16_, HS17_, HS18_, HS19_, HS20_⟩ (fun hHeld => ?_)
   clear hK K
   refine norm_ (a' := ?_) ?_ ?_
   rotate_left
   ·show Act.put _ (some 50) _ = _
    simp only [Act.put, List.setIfInBounds_toArray, List.set_cons_zero, List.set_cons_succ, i64_w, i32_w]
    rfl
   refine pY (i := 21) (N := some 51) (tf 22 1) rfl rfl HT_.out ?_
   refine pY (i := 22) (N := some 52) (tf 23 0) rfl rfl HT_.out ?_
   refine done_ (done_of HT_.out (by kernel_rfl)) ?_
   obtain ⟨hcz80_0, hcz80_1, hcz80_2, hcz80_3, hcz80_4, hcz80_5, hcz80_6⟩ := z7 BK402.out (.int .i64 (x.f0.f0)) (.int .i64 (x.f0.f1)) (.string (x.f0.f2)) (.int .i64 (x.f1.f0)) (.int .i64 (x.f1.f1)) (.string (x.f1.f2)) (.bool x.f2)
   obtain ⟨hfz80_0, hfz80_1, hfz80_2, hfz80_3, hfz80_4, hfz80_5, hfz80_6⟩ := f7 BK402.out
   have p72 : 0 ≤ ((ji57) : Int) := of_decide_eq_true (aA)
   have q72 : ((ji57) : Int) < ((l0.length : Int) : Int) := of_decide_eq_true (aA)
   obtain ⟨go72, co72, eo72, gb72, gl72, cl72, HG72⟩ := Kd.R_form HO0.out (by omega)
   (first | cases eo72 | (injection eo72 with ea_ en_ ec_; (first | subst ea_ | (injection ea_ with ea_; subst ea_)); subst ec_; clear en_))
   have GB72 := Aside0.mk gb72
   have GG72 := Aside0.mk HG72
   clear gb72 gl72 HG72
   have HMgo72 := aK (show (P0_ go72 ∨ w.heap.size ≤ go72) from (HO0.out.1 _ rfl).1)
   (first | simp only [add_plain] at hx418_0 | skip)
   (first | simp only [add_plain] at hx418_1 | skip)
   (first | simp only [add_plain] at hx418_2 | skip)
   (first | simp only [add_plain] at hx418_3 | skip)
   (first | simp only [add_plain] at hx418_4 | skip)
   (first | simp only [add_plain] at hx418_5 | skip)
   (first | simp only [add_plain] at hx418_6 | skip)
   (first | simp only [add_plain] at hx422_0 | skip)
   (first | simp only [add_plain] at hx422_1 | skip)
   (first | simp only [add_plain] at hx422_2 | skip)
   (first | simp only [add_plain] at hx422_3 | skip)
   (first | simp only [add_plain] at hx422_4 | skip)
   (first | simp only [add_plain] at hx422_5 | skip)
   (first | simp only [add_plain] at hx422_6 | skip)
   obtain ⟨ce72, hcl72, hM72, hcc72, hfr72⟩ := Kd.R_elem HO0.out z65 ((ji57) : Int) p72 q72
   obtain rfl := k65_openM hM72
   have hx72_0 : w79.cell? ⟨go72, ((ji57) : Int).toNat * 7, none⟩ = some (.int .i64 ((rd_T65 l0 (ji57)).f0.f0)) := hcc72 0 _ rfl
   have hx72_1 : w79.cell? ⟨go72, ((ji57) : Int).toNat * 7 + 1, none⟩ = some (.int .i64 ((rd_T65 l0 (ji57)).f0.f1)) := hcc72 1 _ rfl
   have hx72_2 : w79.cell? ⟨go72, ((ji57) : Int).toNat * 7 + 2, none⟩ = some (.string ((rd_T65 l0 (ji57)).f0.f2)) := hcc72 2 _ rfl
   have hx72_3 : w79.cell? ⟨go72, ((ji57) : Int).toNat * 7 + 3, none⟩ = some (.int .i64 ((rd_T65 l0 (ji57)).f1.f0)) := hcc72 3 _ rfl
   have hx72_4 : w79.cell? ⟨go72, ((ji57) : Int).toNat * 7 + 4, none⟩ = some (.int .i64 ((rd_T65 l0 (ji57)).f1.f1)) := hcc72 4 _ rfl
   have hx72_5 : w79.cell? ⟨go72, ((ji57) : Int).toNat * 7 + 5, none⟩ = some (.string ((rd_T65 l0 (ji57)).f1.f2)) := hcc72 5 _ rfl
   have hx72_6 : w79.cell? ⟨go72, ((ji57) : Int).toNat * 7 + 6, none⟩ = some (.bool ((rd_T65 l0 (ji57)).f2)) := hcc72 6 _ rfl
   have hf72_0 : w79.frozen? ⟨go72, ((ji57) : Int).toNat * 7, none⟩ = false := hfr72 0
   have hf72_1 : w79.frozen? ⟨go72, ((ji57) : Int).toNat * 7 + 1, none⟩ = false := hfr72 1
   have hf72_2 : w79.frozen? ⟨go72, ((ji57) : Int).toNat * 7 + 2, none⟩ = false := hfr72 2
   have hf72_3 : w79.frozen? ⟨go72, ((ji57) : Int).toNat * 7 + 3, none⟩ = false := hfr72 3
   have hf72_4 : w79.frozen? ⟨go72, ((ji57) : Int).toNat * 7 + 4, none⟩ = false := hfr72 4
   have hf72_5 : w79.frozen? ⟨go72, ((ji57) : Int).toNat * 7 + 5, none⟩ = false := hfr72 5
   have hf72_6 : w79.frozen? ⟨go72, ((ji57) : Int).toNat * 7 + 6, none⟩ = false := hfr72 6
   clear hcl72 hcc72 hfr72 hM72
   replace p72 := eq_true p72
   replace q72 := eq_true q72
   have mixed := sortVals.mixed
   have hb0_ : 0 ≤ ji57 := of_decide_eq_true (by assumption)
   have hb1_ : ji57 < (l0.length : Int) := of_decide_eq_true (by assumption)
   have hfin := aK (join_stores HO0.out ji57 hb0_ hb1_ x.f1 x.f2)
   have hy_ : Aside0 (y425 = l0.set ji57.toNat ⟨(rd_T65 l0 ji57).f0, x.f1, x.f2⟩) := aK (by
    have hg_ : rd_T65 y424 ji57 = ⟨(rd_T65 l0 ji57).f0, x.f1, (rd_T65 y424 ji57).f2⟩ := by
     rw [Ny424.out]; unfold rd_T65; rw [List.getD_eq_getElem?_getD, List.getElem?_set_self (by omega)]; rfl
    rw [Ny425.out, hg_, Ny424.out, List.set_set])
   clear hb0_ hb1_
   go_wp2_with fail
   go_region
   go_wp2
   go_ret
   refine ⟨_, rfl, ?_, ?_, ?_⟩
   ·rw [hy_.out]
    exact Kd.R_drew (Kd.R_mono hfin.out (fun _ hk => hk.1))
   ·repeat (first | exact HB.out | apply below_drew1 | refine below_set ?_ GB72.out)
   ·repeat (first | exact HK.out | apply Kept.drew | refine Kept.setCell ?_ HMgo72.out _)
  subst c61
  rw [if_pos rfl] at H
  by_cases c62 : l0.length < 1954687338268
  rotate_left
  ·rw [if_neg c62] at H
   exact absurd H (by simp)
  rw [if_pos c62] at H
  have LMc62 := Aside0.mk c62
  clear c62
  obtain ⟨y419, hy419⟩ : ∃ y_ : List (S65), y_ = (l0 ++ [(⟨(⟨x.f0.f0, x.f0.f1, x.f0.f2⟩ : S24), (⟨x.f1.f0, x.f1.f1, x.f1.f2⟩ : S24), x.f2⟩ : S65)]) := ⟨_, rfl⟩
  replace H : (some y419) = some r := by first | (rw [hy419]; with_reducible exact H) | (have H2_ := (Option.bind_some _ _).symm.trans H; rw [hy419]; with_reducible exact H2_) | (have H2_ := (Option.bind_some _ _).symm.trans H; with_reducible exact H2_) | with_reducible exact H | (rw [hy419]; exact H) | exact H
  have Ny419 := Aside0.mk hy419
  clear hy419
  obtain rfl := Option.some.inj H
  go_wp2
  have n0_ := aK (Kd.R_drew HO0.out)
  have n1_ := aK (blk_drew BK402.out)
  have n2_ := aK (Kept.drew HK.out)
  have n3_ := aK (below_drew1 HB.out)
  clear HO0
  clear BK402
  clear HK
  clear HB
  have HO0 := n0_
  have BK402 := n1_
  have HK := n2_
  have HB := n3_
  clear n0_ n1_ n2_ n3_
  have p418 : 0 ≤ ((ji57) : Int) := of_decide_eq_true (aA)
  have q418 : (ji57) < (l0.length : Int) := of_decide_eq_true (aA)
  obtain ⟨ad418, e418, hx418_0, hx418_1, hx418_2, hx418_3, hx418_4, hx418_5, hx418_6⟩ := at_T65 (Kd.R_reads' HO0.out).2.2 (ji57) p418 q418
  (try rw [← Nbq60.out] at hx418_6)
  cases e418
  replace p418 := eq_true p418
  replace q418 := eq_true q418
  refine start_ (n := 23) (S := fun w' => w'.cell? (ad418.add (((ji57)).toNat * 7)) = some (.int .i64 ((rd_T65 l0 (ji57)).f0.f0)) ∧ w'.cell? ⟨(ad418.add (((ji57)).toNat * 7)).block, (ad418.add (((ji57)).toNat * 7)).off + 1, none⟩ = some (.int .i64 ((rd_T65 l0 (ji57)).f0.f1)) ∧ w'.cell? ⟨(ad418.add (((ji57)).toNat * 7)).block, (ad418.add (((ji57)).toNat * 7)).off + 2, none⟩ = some (.string ((rd_T65 l0 (ji57)).f0.f2)) ∧ w'.cell? ⟨(ad418.add (((ji57)).toNat * 7)).block, (ad418.add (((ji57)).toNat * 7)).off + 3, none⟩ = some (.int .i64 ((rd_T65 l0 (ji57)).f1.f0)) ∧ w'.cell? ⟨(ad418.add (((ji57)).toNat * 7)).block, (ad418.add (((ji57)).toNat * 7)).off + 4, none⟩ = some (.int .i64 ((rd_T65 l0 (ji57)).f1.f1)) ∧ w'.cell? ⟨(ad418.add (((ji57)).toNat * 7)).block, (ad418.add (((ji57)).toNat * 7)).off + 5, none⟩ = some (.string ((rd_T65 l0 (ji57)).f1.f2)) ∧ w'.cell? ⟨(ad418.add (((ji57)).toNat * 7)).block, (ad418.add (((ji57)).toNat * 7)).off + 6, none⟩ = some (.bool true)) (ds := []) #[false, false, false, false, false, false, false, false, false, false, false, false, false, false, false, false, false, false, false, false, false, false, false] (by kernel_rfl) rfl rfl ⟨hx418_0, hx418_1, hx418_2, hx418_3, hx418_4, hx418_5, hx418_6⟩ (fun hHeld => ?_); refine with_tabW r3_Join.tab5 r3_Join.bits5 (fun HT_ HW_ => ?_)
  generalize wc.drew = w67 at HO0 BK402 HK HB hx418_0 hx418_1 hx418_2 hx418_3 hx418_4 hx418_5 hx418_6 hHeld ⊢
  refine pY (i := 0) (N := some 30) (tf 1 22) rfl rfl HT_.out ?_
  refine pY (i := 1) (N := some 31) (tf 2 21) rfl rfl HT_.out ?_
  refine pY (i := 2) (N := some 32) (tf 3 20) rfl rfl HT_.out ?_
  refine pY (i := 3) (N := some 33) (tf 4 19) rfl rfl HT_.out ?_
  refine pY (i := 4) (N := some 34) (tf 5 18) rfl rfl HT_.out ?_
  refine pY (i := 5) (N := some 35) (tf 6 17) rfl rfl HT_.out ?_
  refine pY (i := 6) (N := some 36) (tf 7 16) rfl rfl HT_.out ?_
  refine pY (i := 7) (N := some 37) (tf 8 15) rfl rfl HT_.out ?_
  refine take_ (i := 8) (N := some 38) (v := ?_) (a' := ?_) (tf 9 14) rfl rfl (take_ofW HT_.out HW_.out (by kernel_rfl)) (fun _ _ _ h => h) (Or.inl ⟨by rfl, ?_⟩) hHeld ?_ ?_
  rotate_left
  ·rintro w' ⟨s0, s1, s2, s3, s4, s5, s6⟩
   go_simp
   with_reducible rfl
  rotate_left
  ·exact aP
  refine pY (i := 9) (N := some 39) (tf 10 13) rfl rfl HT_.out ?_
  refine pY (i := 10) (N := some 40) (tf 11 12) rfl rfl HT_.out ?_
  refine pY (i := 11) (N := some 41) (tf 12 11) rfl rfl HT_.out ?_
  refine pure_ (i := 12) (N := some 42) (v := undef) (a' := ?_) (tf 13 10) rfl rfl (any_of HT_.out (by kernel_rfl)) (fun _ _ _ h => h) (Or.inr ⟨by rfl, rfl⟩) ?_ ?_
  rotate_left
  ·exact aP
  refine pure_ (i := 13) (N := some 43) (v := undef) (a' := ?_) (tf 14 9) rfl rfl (any_of HT_.out (by kernel_rfl)) (fun _ _ _ h => h) (Or.inr ⟨by rfl, rfl⟩) ?_ ?_
  rotate_left
  ·exact aP
  refine pure_ (i := 14) (N := some 44) (v := undef) (a' := ?_) (tf 15 8) rfl rfl (any_of HT_.out (by kernel_rfl)) (fun _ _ _ h => h) (Or.inr ⟨by rfl, rfl⟩) ?_ ?_
  rotate_left
  ·exact aP
  refine pure_ (i := 15) (N := some 45) (v := undef) (a' := ?_) (tf 16 7) rfl rfl (any_of HT_.out (by kernel_rfl)) (fun _ _ _ h => h) (Or.inr ⟨by rfl, rfl⟩) ?_ ?_
  rotate_left
  ·exact aP
  refine pure_ (i := 16) (N := some 46) (v := undef) (a' := ?_) (tf 17 6) rfl rfl (any_of HT_.out (by kernel_rfl)) (fun _ _ _ h => h) (Or.inr ⟨by rfl, rfl⟩) ?_ ?_
  rotate_left
  ·exact aP
  refine pure_ (i := 17) (N := some 47) (v := undef) (a' := ?_) (tf 18 5) rfl rfl (any_of HT_.out (by kernel_rfl)) (fun _ _ _ h => h) (Or.inr ⟨by rfl, rfl⟩) ?_ ?_
  rotate_left
  ·exact aP
  refine pure_ (i := 18) (N := some 48) (v := undef) (a' := ?_) (tf 19 4) rfl rfl (any_of HT_.out (by kernel_rfl)) (fun _ _ _ h => h) (Or.inr ⟨by rfl, rfl⟩) ?_ ?_
  rotate_left
  ·exact aP
  refine pure_ (i := 19) (N := some 49) (v := undef) (a' := ?_) (tf 20 3) rfl rfl (any_of HT_.out (by kernel_rfl)) (fun _ _ _ h => h) (Or.inr ⟨by rfl, rfl⟩) ?_ ?_
  rotate_left
  ·exact aP
  refine pure_ (i := 20) (N := some 50) (v := undef) (a' := ?_) (tf 21 2) rfl rfl (any_of HT_.out (by kernel_rfl)) (fun _ _ _ h => h) (Or.inr ⟨by rfl, rfl⟩) ?_ ?_
  rotate_left
  ·exact aP
  refine pure_ (i := 21) (N := some 51) (v := undef) (a' := ?_) (tf 22 1) rfl rfl (any_of HT_.out (by kernel_rfl)) (fun _ _ _ h => h) (Or.inr ⟨by rfl, rfl⟩) ?_ ?_
  rotate_left
  ·exact aP
  refine pY (i := 22) (N := some 52) (tf 23 0) rfl rfl HT_.out ?_
  refine done_ (done_of HT_.out (by kernel_rfl)) ?_
  obtain ⟨hcz68_0, hcz68_1, hcz68_2, hcz68_3, hcz68_4, hcz68_5, hcz68_6⟩ := z7 BK402.out (.int .i64 (x.f0.f0)) (.int .i64 (x.f0.f1)) (.string (x.f0.f2)) (.int .i64 (x.f1.f0)) (.int .i64 (x.f1.f1)) (.string (x.f1.f2)) (.bool x.f2)
  obtain ⟨hfz68_0, hfz68_1, hfz68_2, hfz68_3, hfz68_4, hfz68_5, hfz68_6⟩ := f7 BK402.out
  try go_wp2_with (first | ((with_reducible refine gate_builtin (b := .append) (xs := #[.tmp 68, .tmp 70]) rfl ?_); at_builtin; refine Kd.R_append k65 (w0 := w0) w0.heap.size rfl (.tmp 68) (.tmp 70) 36 65 (.agg #[(.int .i64 0), (.int .i64 0), (.string ⟨#[]⟩), (.int .i64 0), (.int .i64 0), (.string ⟨#[]⟩), (.bool false)]) 72 rfl Try.underlying36 info65 rfl (by decide) (by omega) (.slice (some ad418) l0.length co16) l0 (⟨(⟨x.f0.f0, x.f0.f1, x.f0.f2⟩ : S24), (⟨x.f1.f0, x.f1.f1, x.f1.f2⟩ : S24), x.f2⟩ : S65) [.int .i64 (x.f0.f0), .int .i64 (x.f0.f1), .string (x.f0.f2), .int .i64 (x.f1.f0), .int .i64 (x.f1.f1), .string (x.f1.f2), .bool x.f2] (fun k_ => (P0_ k_ ∨ w.heap.size ≤ k_) ∧ k_ ≠ gb402) (fun _ => False) rfl rfl ?aP (fun _ hk => hk.elim) ?aF ?aO ?aB ?aS ?aL ?_; (case aP => exact k65_mkM _ _ _ (⟨(⟨x.f0.f0, x.f0.f1, x.f0.f2⟩ : S24), (⟨x.f1.f0, x.f1.f1, x.f1.f2⟩ : S24), x.f2⟩ : S65)); (case aB => exact (bS GE402.out)); (case aF => exact (fun k_ hk => ⟨(.inr (Nat.le_trans (by first | exact HK.out.1 | exact (show Kept w _ (fun k_ => P0_ k_) from by repeat (first | (with_reducible first | exact HK.out | apply Kept.alloc | apply Kept.drewN | apply Kept.drew | refine Kept.setCell ?_ (.inr GW402.out) _) | exact HK.out)).1) hk)), Kd.freshB (g := gb402) (o := .cells #[.int .i64 (x.f0.f0), .int .i64 (x.f0.f1), .string (x.f0.f2), .int .i64 (x.f1.f0), .int .i64 (x.f1.f1), .string (x.f1.f2), .bool x.f2] 65 (0, 0)) (bX BK402.out) k_ hk⟩)); (case aO => exact (rX HO0.out)); (case aS => exact (below_size (bS GE402.out))); (case aL => have := LMc62.out; omega); intro v420 w69 ho hb hg hat; rw [← Ny419.out] at ho; have n0_ := aK (blk_grown (g := gb402) (o := .cells #[.int .i64 (x.f0.f0), .int .i64 (x.f0.f1), .string (x.f0.f2), .int .i64 (x.f1.f0), .int .i64 (x.f1.f1), .string (x.f1.f2), .bool x.f2] 65 (0, 0)) (bX BK402.out) hg (Kd.R_away HO0.out (fun _ hk => hk.2))); have n1_ := aK (hb); have n2_ := aK (Kept.of_grown (S := (fun k_ => P0_ k_)) hg (by repeat (first | (with_reducible first | exact HK.out | apply Kept.alloc | apply Kept.drewN | apply Kept.drew | refine Kept.setCell ?_ (.inr GW402.out) _) | exact HK.out)) (fun k_ e_ => (HO0.out.1 k_ e_).1)); have n3_ := aK (ho); clear BK402 HB HK HO0; have BK402 := n0_; have HB := n1_; have HK := n2_; have HO421 := n3_; clear n0_ n1_ n2_ n3_ ho hb hg hat))
  go_ret
  exact ⟨_, by first | rfl | (simp [errW_none, errW_some] <;> rfl) | (simp only [← hji53, ← hji57]; first | rfl | (simp [errW_none, errW_some] <;> rfl)) | (simp [*, errW_none, errW_some] <;> rfl), by (with_reducible repeat (first | apply Kd.R_alloc | apply Kd.R_drewN | apply Kd.R_drew)); exact Kd.R_mono HO421.out (fun _ hk => hk.1), bS GE402.out, by repeat (first | (with_reducible first | exact HK.out | apply Kept.alloc | apply Kept.drewN | apply Kept.drew | refine Kept.setCell ?_ (.inr GW402.out) _) | exact HK.out)⟩
end Go.Proofs.Ytpjcdacnhalclaa.Q
