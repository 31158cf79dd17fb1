/- A part of the proof of the law that the last part names: facts of the functions that the law calls. No condition beyond those that stand in them. -/
import Derived.Test.YtpjcdacnhalclaaT16x3
import Derived.Test.YtpjcdacnhalclaaT16x26
import Derived.Test.YtpjcdacnhalclaaT16x11
import Derived.Test.YtpjcdacnhalclaaT16x23
import Derived.Test.YtpjcdacnhalclaaT16x10
import Derived.Test.YtpjcdacnhalclaaT16x24
import Derived.Test.YtpjcdacnhalclaaT16x25
import Derived.Test.YtpjcdacnhalclaaT16x8
import Derived.Test.YtpjcdacnhalclaaRows
import Derived.Test.YtpjcdacnhalclaaT16x5
namespace Go.Proofs.Ytpjcdacnhalclaa.Q
open Go.RowKit Go.Proofs.YtpjcdacnhalclaaW.PrintWords Go.Proofs.YtpjcdacnhalclaaW.PrintLast Go.Proofs.YtpjcdacnhalclaaW.PrintMore
attribute [local go_sem] max2_int min2_int max_two min_two max_three min_three max_four min_four
set_option linter.unusedVariables false
set_option linter.unusedSimpArgs false
def partsynclaw03_IntervalOnce.f (k : Nat) (l0 : List Int) : Option (Bool) := (partsynccase_New.f l0 120).bind fun bt1124 => ((partsynccase_Case_Interval.f k bt1124.1 bt1124.2).bind fun bt1127 => ((partsynccase_Case_Interval.f k bt1124.1 bt1127.2).bind fun bt1131 => ((interval_Covers.f k bt1127.1 bt1131.1).bind fun bt1135 => ((interval_Covers.f k bt1131.1 bt1127.1).bind fun bt1137 => ((interval_Minus.f k bt1127.1 bt1131.1).bind fun bt1139 => ((interval_Intersect.f k bt1127.1 bt1131.1).bind fun bt1143 => ((interval_Union.f k bt1139.1 bt1143.1).bind fun bt1147 => ((partsynclaw03_begun.f k).bind fun t1151 => (if t1151 = true then (if bt1135.2 = 0 then (if bt1137.2 = 0 then (if bt1147.2 = 0 then (if bt1135.1 = true then ((partsyncref03_Same.f k bt1127.1 bt1131.1).bind fun t1152 => (if (bt1137.1 == t1152) = true then ((partsyncref03_Same.f k bt1147.1 bt1127.1).bind fun t1153 => (some t1153)) else (some false))) else ((partsyncref03_Same.f k bt1127.1 bt1131.1).bind fun t1154 => (if (false == t1154) = true then ((partsyncref03_Same.f k bt1147.1 bt1127.1).bind fun t1155 => (some t1155)) else (some false)))) else (some false)) else (some false)) else (some false)) else (some false))))))))))
set_option maxHeartbeats 8000000 in
set_option maxRecDepth 100000 in
theorem partsynclaw03_IntervalOnce.callsN (k : Nat) (A0 : Option Addr) (c0 : Nat) (l0 : List Int) (r : Bool) (w : World) (hr0 : Kd.C (Kd.int .u8) w A0 l0.length l0) (hc0 : l0.length ≤ c0) (h : partsynclaw03_IntervalOnce.f k l0 = some r) (HRT : Aside0 (r = true)) :
  Calls Try.prog 16 #[.slice A0 l0.length c0] w fun e w' => e = .returned (.bool r) ∧ ∃ wb, Below w.heap.size w wb ∧ Below wb.heap.size wb w' := by
 have HR0 := Aside0.mk hr0
 have HC0 := Aside0.mk hc0
 clear hr0 hc0
 have HB := Aside0.mk (Below.refl w.heap.size w)
 have H : ((partsynccase_New.f l0 120).bind fun bt1124 => ((partsynccase_Case_Interval.f k bt1124.1 bt1124.2).bind fun bt1127 => ((partsynccase_Case_Interval.f k bt1124.1 bt1127.2).bind fun bt1131 => ((interval_Covers.f k bt1127.1 bt1131.1).bind fun bt1135 => ((interval_Covers.f k bt1131.1 bt1127.1).bind fun bt1137 => ((interval_Minus.f k bt1127.1 bt1131.1).bind fun bt1139 => ((interval_Intersect.f k bt1127.1 bt1131.1).bind fun bt1143 => ((interval_Union.f k bt1139.1 bt1143.1).bind fun bt1147 => ((partsynclaw03_begun.f k).bind fun t1151 => (if t1151 = true then (if bt1135.2 = 0 then (if bt1137.2 = 0 then (if bt1147.2 = 0 then (if bt1135.1 = true then ((partsyncref03_Same.f k bt1127.1 bt1131.1).bind fun t1152 => (if (bt1137.1 == t1152) = true then ((partsyncref03_Same.f k bt1147.1 bt1127.1).bind fun t1153 => (some t1153)) else (some false))) else ((partsyncref03_Same.f k bt1127.1 bt1131.1).bind fun t1154 => (if (false == t1154) = true then ((partsyncref03_Same.f k bt1147.1 bt1127.1).bind fun t1155 => (some t1155)) else (some false)))) else (some false)) else (some false)) else (some false)) else (some false))))))))))) = some r := h
 clear h
 obtain ⟨⟨t1124, t1125⟩, A2, H⟩ := oB H
 try dsimp only at H
 obtain ⟨⟨t1127, t1130⟩, A4, H⟩ := oB H
 try dsimp only at H
 obtain ⟨⟨t1131, t1134⟩, A5, H⟩ := oB H
 try dsimp only at H
 obtain ⟨⟨t1135, t1136⟩, A6, H⟩ := oB H
 try dsimp only at H
 obtain ⟨⟨t1137, t1138⟩, A7, H⟩ := oB H
 try dsimp only at H
 obtain ⟨⟨t1139, t1140⟩, A8, H⟩ := oB H
 try dsimp only at H
 obtain ⟨⟨t1143, t1144⟩, A9, H⟩ := oB H
 try dsimp only at H
 obtain ⟨⟨t1147, t1148⟩, A10, H⟩ := oB H
 try dsimp only at H
 obtain ⟨t1151, A11, H⟩ := oB H
 try dsimp only at H
 by_cases c12 : t1151 = true
 rotate_left
 ·replace c12 := Bool.eq_false_iff.mpr c12
  subst c12
  rw [if_neg (show ¬ (false = true) by decide)] at H
  exact absurd (H.trans (congrArg some HRT.out)) (by simp)
 subst c12
 rw [if_pos rfl] at H
 by_cases c13 : t1136 = 0
 rotate_left
 ·rw [if_neg c13] at H
  have c13b0 : (t1136 == 0) = false := beq_eq_false_iff_ne.mpr c13
  have c13b1 : (t1136 != 0) = true := bne_iff_ne.mpr c13
  exact absurd (H.trans (congrArg some HRT.out)) (by simp)
 rw [if_pos c13] at H
 have c13b0 : (t1136 == 0) = true := beq_iff_eq.mpr c13
 have c13b1 : (t1136 != 0) = false := bne_eq_false_iff_eq.mpr c13
 clear c13
 by_cases c14 : t1138 = 0
 rotate_left
 ·rw [if_neg c14] at H
  have c14b0 : (t1138 == 0) = false := beq_eq_false_iff_ne.mpr c14
  have c14b1 : (t1138 != 0) = true := bne_iff_ne.mpr c14
  exact absurd (H.trans (congrArg some HRT.out)) (by simp)
 rw [if_pos c14] at H
 have c14b0 : (t1138 == 0) = true := beq_iff_eq.mpr c14
 have c14b1 : (t1138 != 0) = false := bne_eq_false_iff_eq.mpr c14
 clear c14
 by_cases c15 : t1148 = 0
 rotate_left
 ·rw [if_neg c15] at H
  have c15b0 : (t1148 == 0) = false := beq_eq_false_iff_ne.mpr c15
  have c15b1 : (t1148 != 0) = true := bne_iff_ne.mpr c15
  exact absurd (H.trans (congrArg some HRT.out)) (by simp)
 rw [if_pos c15] at H
 have c15b0 : (t1148 == 0) = true := beq_iff_eq.mpr c15
 have c15b1 : (t1148 != 0) = false := bne_eq_false_iff_eq.mpr c15
 clear c15
 by_cases c16 : t1135 = true
 rotate_left
 ·replace c16 := Bool.eq_false_iff.mpr c16
  subst c16
  rw [if_neg (show ¬ (false = true) by decide)] at H
  obtain ⟨t1154, A33, H⟩ := oB H
  try dsimp only at H
  by_cases c34 : (false == t1154) = true
  rotate_left
  ·rw [if_neg c34] at H
   have c34b0 : (false == t1154) = false := by simpa using c34
   (try (have c34b1 : decide (false = t1154) = false := by simpa using c34))
   (try (have c34b2 : (false == t1154) = false := by simpa using c34))
   (try (have c34b3 : ¬ (false = t1154) := by simpa using c34))
   clear c34
   exact absurd (H.trans (congrArg some HRT.out)) (by simp)
  rw [if_pos c34] at H
  have c34b0 : (false == t1154) = true := c34
  (try (have c34b1 : decide (false = t1154) = true := by simpa using c34))
  (try (have c34b2 : (false == t1154) = true := by simpa using c34))
  clear c34
  obtain ⟨t1155, A35, H⟩ := oB H
  try dsimp only at H
  obtain rfl := Option.some.inj H
  go_enter Try.func16, Try.ntmps16
  go_wp2_with (first | ((with_reducible refine gate_callee (f := 18) rfl ?_); refine gL (some 17) rfl Try.func18 #[.slice A0 l0.length c0, .int .i64 120] rfl ?_; (with_reducible refine (partsynccase_New.calls _ _ l0 120 t1124 t1125 w _ ?side1 ?side2 ?side3 A2.out).mono ?_); (case side1 => exact bO); (case side2 => exact HR0.out); (case side3 => exact HC0.out); rintro e w3 ⟨g1126, rfl, hi, hb, hb2⟩; refine ⟨_, rfl, ?_⟩; have n0_ := Aside0.mk (hb); have n1_ := Aside0.mk (hi); clear HB; have HB := n0_; have HI1126 := n1_; clear n0_ n1_; (try clear hb hb2 hi); have HNS := HI1126.out; clear HI1126 HB; obtain ⟨w, BWN, BNW, hIN⟩ := HNS; have HI1126 := Aside0.mk hIN; have HB := Aside0.mk BNW; have HBWN := Aside0.mk BWN; clear hIN BNW BWN) | ((with_reducible refine gate_callee (f := 29) rfl ?_); refine gL (some 19) rfl Try.func29 #[.pointer (some ⟨g1126, 0, none⟩)] rfl ?_; (with_reducible refine (partsynccase_Case_Interval.calls k g1126 t1124 t1125 t1127 t1130 w _ ?side1 ?side2 A4.out).mono ?_); (case side1 => exact iX HI1126.out); (case side2 => exact bS (IsS75.ge HI1126.out)); rintro e w36 ⟨v1128, rfl, ho0, hi, hb, hk⟩; refine ⟨_, rfl, ?_⟩; have n0_ := Aside0.mk (Kd.R_lower ho0 (below_size (bS (IsS75.ge HI1126.out)))); have n1_ := Aside0.mk (hb); have n2_ := Aside0.mk (hi); clear HB HI1126; have HO1129 := n0_; have HB := n1_; have HI1126 := n2_; clear n0_ n1_ n2_; (try clear hb hk hi ho0)) | ((with_reducible refine gate_callee (f := 29) rfl ?_); refine gL (some 21) rfl Try.func29 #[.pointer (some ⟨g1126, 0, none⟩)] rfl ?_; (with_reducible refine (partsynccase_Case_Interval.calls k g1126 t1124 t1130 t1131 t1134 w _ ?side1 ?side2 A5.out).mono ?_); (case side1 => exact iX HI1126.out); (case side2 => exact bS (IsS75.ge HI1126.out)); rintro e w37 ⟨v1132, rfl, ho0, hi, hb, hk⟩; refine ⟨_, rfl, ?_⟩; have n0_ := Aside0.mk (Kd.R_mono (Kd.R_told (Kd.R_oldK (IsS75.apart (show IsS75 w _ g1126 t1124 t1130 from iX HI1126.out) (rX HO1129.out) (by decide)) hk) (Kd.R_base ho0)) (fun _ h_ => h_.1)); have n1_ := Aside0.mk (Kd.R_lower (Kd.R_new' ho0 (Kd.R_lt (rX HO1129.out))) (below_size (bS (IsS75.ge HI1126.out)))); have n2_ := Aside0.mk (hb); have n3_ := Aside0.mk (hi); clear HO1129 HB HI1126; have HO1129 := n0_; have HO1133 := n1_; have HB := n2_; have HI1126 := n3_; clear n0_ n1_ n2_ n3_; (try clear hb hk hi ho0); obtain ⟨Ao38, co38, eo38⟩ := Kd.R_slice HO1129.out; subst eo38; obtain ⟨Ao39, co39, eo39⟩ := Kd.R_slice HO1133.out; subst eo39) | ((with_reducible refine gate_callee (f := 34) rfl ?_); refine gL (some 25) rfl Try.func34 #[.slice Ao38 t1127.length co38, .slice Ao39 t1131.length co39] rfl ?_; (with_reducible refine (interval_Covers.calls k _ _ t1127 _ _ t1131 false t1136 _ ?side1 ?side2 ?side3 ?side4 A6.out).mono ?_); (case side1 => exact cX (Kd.R_reads' HO1129.out).2.2); (case side2 => exact (Kd.R_reads' HO1129.out).2.1); (case side3 => exact cX (Kd.R_reads' HO1133.out).2.2); (case side4 => exact (Kd.R_reads' HO1133.out).2.1); rintro e w40 ⟨rfl, hb⟩; refine ⟨_, rfl, ?_⟩; have n0_ := Aside0.mk (Kd.R_below (rX HO1129.out) hb); have n1_ := Aside0.mk (Kd.R_below (rX HO1133.out) hb); have n2_ := Aside0.mk (IsS75.below (iX HI1126.out) hb); have n3_ := Aside0.mk (below_step (bS (IsS75.ge HI1126.out)) hb); clear HO1129 HO1133 HI1126 HB; have HO1129 := n0_; have HO1133 := n1_; have HI1126 := n2_; have HB := n3_; clear n0_ n1_ n2_ n3_; (try clear hb)) | ((with_reducible refine gate_callee (f := 34) rfl ?_); refine gL (some 31) rfl Try.func34 #[.slice Ao39 t1131.length co39, .slice Ao38 t1127.length co38] rfl ?_; (with_reducible refine (interval_Covers.calls k _ _ t1131 _ _ t1127 t1137 t1138 _ ?side1 ?side2 ?side3 ?side4 A7.out).mono ?_); (case side1 => exact cX (Kd.R_reads' HO1133.out).2.2); (case side2 => exact (Kd.R_reads' HO1133.out).2.1); (case side3 => exact cX (Kd.R_reads' HO1129.out).2.2); (case side4 => exact (Kd.R_reads' HO1129.out).2.1); rintro e w41 ⟨rfl, hb⟩; refine ⟨_, rfl, ?_⟩; have n0_ := Aside0.mk (Kd.R_below (rX HO1129.out) hb); have n1_ := Aside0.mk (Kd.R_below (rX HO1133.out) hb); have n2_ := Aside0.mk (IsS75.below (iX HI1126.out) hb); have n3_ := Aside0.mk (below_step (bS (IsS75.ge HI1126.out)) hb); clear HO1129 HO1133 HI1126 HB; have HO1129 := n0_; have HO1133 := n1_; have HI1126 := n2_; have HB := n3_; clear n0_ n1_ n2_ n3_; (try clear hb)) | ((with_reducible refine gate_callee (f := 32) rfl ?_); refine gL (some 37) rfl Try.func32 #[.slice Ao38 t1127.length co38, .slice Ao39 t1131.length co39] rfl ?_; (with_reducible refine (interval_Minus.calls k _ _ t1127 _ _ t1131 t1139 t1140 _ ?side1 ?side2 ?side3 ?side4 A8.out).mono ?_); (case side1 => exact cX (Kd.R_reads' HO1129.out).2.2); (case side2 => exact (Kd.R_reads' HO1129.out).2.1); (case side3 => exact cX (Kd.R_reads' HO1133.out).2.2); (case side4 => exact (Kd.R_reads' HO1133.out).2.1); rintro e w42 ⟨v1141, rfl, ho0, hb⟩; refine ⟨_, rfl, ?_⟩; have n0_ := Aside0.mk (Kd.R_elder' (rX HO1129.out) (Kd.R_base ho0) hb); have n1_ := Aside0.mk (Kd.R_elder' (rX HO1133.out) (Kd.R_base ho0) hb); have n2_ := Aside0.mk (Kd.R_lower (Kd.R_new' (Kd.R_new' ho0 (Kd.R_lt (rX HO1129.out))) (Kd.R_lt (rX HO1133.out))) (below_size (bS (IsS75.ge HI1126.out)))); have n3_ := Aside0.mk (IsS75.below (iX HI1126.out) hb); have n4_ := Aside0.mk (below_step (bS (IsS75.ge HI1126.out)) hb); clear HO1129 HO1133 HI1126 HB; have HO1129 := n0_; have HO1133 := n1_; have HO1142 := n2_; have HI1126 := n3_; have HB := n4_; clear n0_ n1_ n2_ n3_ n4_; (try clear hb ho0)) | ((with_reducible refine gate_callee (f := 31) rfl ?_); refine gL (some 43) rfl Try.func31 #[.slice Ao38 t1127.length co38, .slice Ao39 t1131.length co39] rfl ?_; (with_reducible refine (interval_Intersect.calls k _ _ t1127 _ _ t1131 t1143 t1144 _ ?side1 ?side2 ?side3 ?side4 A9.out).mono ?_); (case side1 => exact cX (Kd.R_reads' HO1129.out).2.2); (case side2 => exact (Kd.R_reads' HO1129.out).2.1); (case side3 => exact cX (Kd.R_reads' HO1133.out).2.2); (case side4 => exact (Kd.R_reads' HO1133.out).2.1); rintro e w43 ⟨v1145, rfl, ho0, hb⟩; refine ⟨_, rfl, ?_⟩; have n0_ := Aside0.mk (Kd.R_elder' (rX HO1129.out) (Kd.R_base ho0) hb); have n1_ := Aside0.mk (Kd.R_elder' (rX HO1133.out) (Kd.R_base ho0) hb); have n2_ := Aside0.mk (Kd.R_elder' (rX HO1142.out) (Kd.R_base ho0) hb); have n3_ := Aside0.mk (Kd.R_lower (Kd.R_new' (Kd.R_new' (Kd.R_new' ho0 (Kd.R_lt (rX HO1129.out))) (Kd.R_lt (rX HO1133.out))) (Kd.R_lt (rX HO1142.out))) (below_size (bS (IsS75.ge HI1126.out)))); have n4_ := Aside0.mk (IsS75.below (iX HI1126.out) hb); have n5_ := Aside0.mk (below_step (bS (IsS75.ge HI1126.out)) hb); clear HO1129 HO1133 HO1142 HI1126 HB; have HO1129 := n0_; have HO1133 := n1_; have HO1142 := n2_; have HO1146 := n3_; have HI1126 := n4_; have HB := n5_; clear n0_ n1_ n2_ n3_ n4_ n5_; (try clear hb ho0); obtain ⟨Ao44, co44, eo44⟩ := Kd.R_slice HO1142.out; subst eo44; obtain ⟨Ao45, co45, eo45⟩ := Kd.R_slice HO1146.out; subst eo45) | ((with_reducible refine gate_callee (f := 30) rfl ?_); refine gL (some 49) rfl Try.func30 #[.slice Ao44 t1139.length co44, .slice Ao45 t1143.length co45] rfl ?_; (with_reducible refine (interval_Union.calls k _ _ t1139 _ _ t1143 t1147 t1148 _ ?side1 ?side2 ?side3 ?side4 A10.out).mono ?_); (case side1 => exact cX (Kd.R_reads' HO1142.out).2.2); (case side2 => exact (Kd.R_reads' HO1142.out).2.1); (case side3 => exact cX (Kd.R_reads' HO1146.out).2.2); (case side4 => exact (Kd.R_reads' HO1146.out).2.1); rintro e w46 ⟨v1149, rfl, ho0, hb⟩; refine ⟨_, rfl, ?_⟩; have n0_ := Aside0.mk (Kd.R_elder' (rX HO1129.out) (Kd.R_base ho0) hb); have n1_ := Aside0.mk (Kd.R_elder' (rX HO1133.out) (Kd.R_base ho0) hb); have n2_ := Aside0.mk (Kd.R_elder' (rX HO1142.out) (Kd.R_base ho0) hb); have n3_ := Aside0.mk (Kd.R_elder' (rX HO1146.out) (Kd.R_base ho0) hb); have n4_ := Aside0.mk (Kd.R_lower (Kd.R_new' (Kd.R_new' (Kd.R_new' (Kd.R_new' ho0 (Kd.R_lt (rX HO1129.out))) (Kd.R_lt (rX HO1133.out))) (Kd.R_lt (rX HO1142.out))) (Kd.R_lt (rX HO1146.out))) (below_size (bS (IsS75.ge HI1126.out)))); have n5_ := Aside0.mk (IsS75.below (iX HI1126.out) hb); have n6_ := Aside0.mk (below_step (bS (IsS75.ge HI1126.out)) hb); clear HO1129 HO1133 HO1142 HO1146 HI1126 HB; have HO1129 := n0_; have HO1133 := n1_; have HO1142 := n2_; have HO1146 := n3_; have HO1150 := n4_; have HI1126 := n5_; have HB := n6_; clear n0_ n1_ n2_ n3_ n4_ n5_ n6_; (try clear hb ho0)) | ((with_reducible refine gate_callee (f := 36) rfl ?_); refine gL (some 52) rfl Try.func36 #[] rfl ?_; (with_reducible refine (partsynclaw03_begun.calls k  true _ A11.out).mono ?_); rintro e w47 ⟨rfl, hb⟩; refine ⟨_, rfl, ?_⟩; have n0_ := Aside0.mk (Kd.R_below (rX HO1129.out) hb); have n1_ := Aside0.mk (Kd.R_below (rX HO1133.out) hb); have n2_ := Aside0.mk (Kd.R_below (rX HO1142.out) hb); have n3_ := Aside0.mk (Kd.R_below (rX HO1146.out) hb); have n4_ := Aside0.mk (Kd.R_below (rX HO1150.out) hb); have n5_ := Aside0.mk (IsS75.below (iX HI1126.out) hb); have n6_ := Aside0.mk (below_step (bS (IsS75.ge HI1126.out)) hb); clear HO1129 HO1133 HO1142 HO1146 HO1150 HI1126 HB; have HO1129 := n0_; have HO1133 := n1_; have HO1142 := n2_; have HO1146 := n3_; have HO1150 := n4_; have HI1126 := n5_; have HB := n6_; clear n0_ n1_ n2_ n3_ n4_ n5_ n6_; (try clear hb)) | (go_at_call 40; (with_reducible refine (partsyncref03_Same.calls k _ _ t1127 _ _ t1131 t1154 _ ?side1 ?side2 ?side3 ?side4 A33.out).mono ?_); (case side1 => exact cX (Kd.R_reads' HO1129.out).2.2); (case side2 => exact (Kd.R_reads' HO1129.out).2.1); (case side3 => exact cX (Kd.R_reads' HO1133.out).2.2); (case side4 => exact (Kd.R_reads' HO1133.out).2.1); rintro e w' ⟨rfl, ⟨nd, rfl⟩⟩; obtain ⟨Ao48, co48, eo48⟩ := Kd.R_slice HO1150.out; subst eo48) | (go_at_call 40; (with_reducible refine (partsyncref03_Same.calls k _ _ t1147 _ _ t1127 t1155 _ ?side1 ?side2 ?side3 ?side4 A35.out).mono ?_); (case side1 => exact cX (Kd.R_reads' HO1150.out).2.2); (case side2 => exact (Kd.R_reads' HO1150.out).2.1); (case side3 => exact cX (Kd.R_reads' HO1129.out).2.2); (case side4 => exact (Kd.R_reads' HO1129.out).2.1); rintro e w' ⟨rfl, ⟨nd, rfl⟩⟩))
  go_ret
  exact ⟨eW, _, HBWN.out, bS (IsS75.ge HI1126.out)⟩
 subst c16
 rw [if_pos rfl] at H
 obtain ⟨t1152, A17, H⟩ := oB H
 try dsimp only at H
 by_cases c18 : (t1137 == t1152) = true
 rotate_left
 ·rw [if_neg c18] at H
  have c18b0 : (t1137 == t1152) = false := by simpa using c18
  (try (have c18b1 : decide (t1137 = t1152) = false := by simpa using c18))
  (try (have c18b2 : (t1137 == t1152) = false := by simpa using c18))
  (try (have c18b3 : ¬ (t1137 = t1152) := by simpa using c18))
  clear c18
  exact absurd (H.trans (congrArg some HRT.out)) (by simp)
 rw [if_pos c18] at H
 have c18b0 : (t1137 == t1152) = true := c18
 (try (have c18b1 : decide (t1137 = t1152) = true := by simpa using c18))
 (try (have c18b2 : (t1137 == t1152) = true := by simpa using c18))
 clear c18
 obtain ⟨t1153, A19, H⟩ := oB H
 try dsimp only at H
 obtain rfl := Option.some.inj H
 go_enter Try.func16, Try.ntmps16
 go_wp2_with (first | ((with_reducible refine gate_callee (f := 18) rfl ?_); refine gL (some 17) rfl Try.func18 #[.slice A0 l0.length c0, .int .i64 120] rfl ?_; (with_reducible refine (partsynccase_New.calls _ _ l0 120 t1124 t1125 w _ ?side1 ?side2 ?side3 A2.out).mono ?_); (case side1 => exact bO); (case side2 => exact HR0.out); (case side3 => exact HC0.out); rintro e w3 ⟨g1126, rfl, hi, hb, hb2⟩; refine ⟨_, rfl, ?_⟩; have n0_ := Aside0.mk (hb); have n1_ := Aside0.mk (hi); clear HB; have HB := n0_; have HI1126 := n1_; clear n0_ n1_; (try clear hb hb2 hi); have HNS := HI1126.out; clear HI1126 HB; obtain ⟨w, BWN, BNW, hIN⟩ := HNS; have HI1126 := Aside0.mk hIN; have HB := Aside0.mk BNW; have HBWN := Aside0.mk BWN; clear hIN BNW BWN) | ((with_reducible refine gate_callee (f := 29) rfl ?_); refine gL (some 19) rfl Try.func29 #[.pointer (some ⟨g1126, 0, none⟩)] rfl ?_; (with_reducible refine (partsynccase_Case_Interval.calls k g1126 t1124 t1125 t1127 t1130 w _ ?side1 ?side2 A4.out).mono ?_); (case side1 => exact iX HI1126.out); (case side2 => exact bS (IsS75.ge HI1126.out)); rintro e w20 ⟨v1128, rfl, ho0, hi, hb, hk⟩; refine ⟨_, rfl, ?_⟩; have n0_ := Aside0.mk (Kd.R_lower ho0 (below_size (bS (IsS75.ge HI1126.out)))); have n1_ := Aside0.mk (hb); have n2_ := Aside0.mk (hi); clear HB HI1126; have HO1129 := n0_; have HB := n1_; have HI1126 := n2_; clear n0_ n1_ n2_; (try clear hb hk hi ho0)) | ((with_reducible refine gate_callee (f := 29) rfl ?_); refine gL (some 21) rfl Try.func29 #[.pointer (some ⟨g1126, 0, none⟩)] rfl ?_; (with_reducible refine (partsynccase_Case_Interval.calls k g1126 t1124 t1130 t1131 t1134 w _ ?side1 ?side2 A5.out).mono ?_); (case side1 => exact iX HI1126.out); (case side2 => exact bS (IsS75.ge HI1126.out)); rintro e w21 ⟨v1132, rfl, ho0, hi, hb, hk⟩; refine ⟨_, rfl, ?_⟩; have n0_ := Aside0.mk (Kd.R_mono (Kd.R_told (Kd.R_oldK (IsS75.apart (show IsS75 w _ g1126 t1124 t1130 from iX HI1126.out) (rX HO1129.out) (by decide)) hk) (Kd.R_base ho0)) (fun _ h_ => h_.1)); have n1_ := Aside0.mk (Kd.R_lower (Kd.R_new' ho0 (Kd.R_lt (rX HO1129.out))) (below_size (bS (IsS75.ge HI1126.out)))); have n2_ := Aside0.mk (hb); have n3_ := Aside0.mk (hi); clear HO1129 HB HI1126; have HO1129 := n0_; have HO1133 := n1_; have HB := n2_; have HI1126 := n3_; clear n0_ n1_ n2_ n3_; (try clear hb hk hi ho0); obtain ⟨Ao22, co22, eo22⟩ := Kd.R_slice HO1129.out; subst eo22; obtain ⟨Ao23, co23, eo23⟩ := Kd.R_slice HO1133.out; subst eo23) | ((with_reducible refine gate_callee (f := 34) rfl ?_); refine gL (some 25) rfl Try.func34 #[.slice Ao22 t1127.length co22, .slice Ao23 t1131.length co23] rfl ?_; (with_reducible refine (interval_Covers.calls k _ _ t1127 _ _ t1131 true t1136 _ ?side1 ?side2 ?side3 ?side4 A6.out).mono ?_); (case side1 => exact cX (Kd.R_reads' HO1129.out).2.2); (case side2 => exact (Kd.R_reads' HO1129.out).2.1); (case side3 => exact cX (Kd.R_reads' HO1133.out).2.2); (case side4 => exact (Kd.R_reads' HO1133.out).2.1); rintro e w24 ⟨rfl, hb⟩; refine ⟨_, rfl, ?_⟩; have n0_ := Aside0.mk (Kd.R_below (rX HO1129.out) hb); have n1_ := Aside0.mk (Kd.R_below (rX HO1133.out) hb); have n2_ := Aside0.mk (IsS75.below (iX HI1126.out) hb); have n3_ := Aside0.mk (below_step (bS (IsS75.ge HI1126.out)) hb); clear HO1129 HO1133 HI1126 HB; have HO1129 := n0_; have HO1133 := n1_; have HI1126 := n2_; have HB := n3_; clear n0_ n1_ n2_ n3_; (try clear hb)) | ((with_reducible refine gate_callee (f := 34) rfl ?_); refine gL (some 31) rfl Try.func34 #[.slice Ao23 t1131.length co23, .slice Ao22 t1127.length co22] rfl ?_; (with_reducible refine (interval_Covers.calls k _ _ t1131 _ _ t1127 t1137 t1138 _ ?side1 ?side2 ?side3 ?side4 A7.out).mono ?_); (case side1 => exact cX (Kd.R_reads' HO1133.out).2.2); (case side2 => exact (Kd.R_reads' HO1133.out).2.1); (case side3 => exact cX (Kd.R_reads' HO1129.out).2.2); (case side4 => exact (Kd.R_reads' HO1129.out).2.1); rintro e w25 ⟨rfl, hb⟩; refine ⟨_, rfl, ?_⟩; have n0_ := Aside0.mk (Kd.R_below (rX HO1129.out) hb); have n1_ := Aside0.mk (Kd.R_below (rX HO1133.out) hb); have n2_ := Aside0.mk (IsS75.below (iX HI1126.out) hb); have n3_ := Aside0.mk (below_step (bS (IsS75.ge HI1126.out)) hb); clear HO1129 HO1133 HI1126 HB; have HO1129 := n0_; have HO1133 := n1_; have HI1126 := n2_; have HB := n3_; clear n0_ n1_ n2_ n3_; (try clear hb)) | ((with_reducible refine gate_callee (f := 32) rfl ?_); refine gL (some 37) rfl Try.func32 #[.slice Ao22 t1127.length co22, .slice Ao23 t1131.length co23] rfl ?_; (with_reducible refine (interval_Minus.calls k _ _ t1127 _ _ t1131 t1139 t1140 _ ?side1 ?side2 ?side3 ?side4 A8.out).mono ?_); (case side1 => exact cX (Kd.R_reads' HO1129.out).2.2); (case side2 => exact (Kd.R_reads' HO1129.out).2.1); (case side3 => exact cX (Kd.R_reads' HO1133.out).2.2); (case side4 => exact (Kd.R_reads' HO1133.out).2.1); rintro e w26 ⟨v1141, rfl, ho0, hb⟩; refine ⟨_, rfl, ?_⟩; have n0_ := Aside0.mk (Kd.R_elder' (rX HO1129.out) (Kd.R_base ho0) hb); have n1_ := Aside0.mk (Kd.R_elder' (rX HO1133.out) (Kd.R_base ho0) hb); have n2_ := Aside0.mk (Kd.R_lower (Kd.R_new' (Kd.R_new' ho0 (Kd.R_lt (rX HO1129.out))) (Kd.R_lt (rX HO1133.out))) (below_size (bS (IsS75.ge HI1126.out)))); have n3_ := Aside0.mk (IsS75.below (iX HI1126.out) hb); have n4_ := Aside0.mk (below_step (bS (IsS75.ge HI1126.out)) hb); clear HO1129 HO1133 HI1126 HB; have HO1129 := n0_; have HO1133 := n1_; have HO1142 := n2_; have HI1126 := n3_; have HB := n4_; clear n0_ n1_ n2_ n3_ n4_; (try clear hb ho0)) | ((with_reducible refine gate_callee (f := 31) rfl ?_); refine gL (some 43) rfl Try.func31 #[.slice Ao22 t1127.length co22, .slice Ao23 t1131.length co23] rfl ?_; (with_reducible refine (interval_Intersect.calls k _ _ t1127 _ _ t1131 t1143 t1144 _ ?side1 ?side2 ?side3 ?side4 A9.out).mono ?_); (case side1 => exact cX (Kd.R_reads' HO1129.out).2.2); (case side2 => exact (Kd.R_reads' HO1129.out).2.1); (case side3 => exact cX (Kd.R_reads' HO1133.out).2.2); (case side4 => exact (Kd.R_reads' HO1133.out).2.1); rintro e w27 ⟨v1145, rfl, ho0, hb⟩; refine ⟨_, rfl, ?_⟩; have n0_ := Aside0.mk (Kd.R_elder' (rX HO1129.out) (Kd.R_base ho0) hb); have n1_ := Aside0.mk (Kd.R_elder' (rX HO1133.out) (Kd.R_base ho0) hb); have n2_ := Aside0.mk (Kd.R_elder' (rX HO1142.out) (Kd.R_base ho0) hb); have n3_ := Aside0.mk (Kd.R_lower (Kd.R_new' (Kd.R_new' (Kd.R_new' ho0 (Kd.R_lt (rX HO1129.out))) (Kd.R_lt (rX HO1133.out))) (Kd.R_lt (rX HO1142.out))) (below_size (bS (IsS75.ge HI1126.out)))); have n4_ := Aside0.mk (IsS75.below (iX HI1126.out) hb); have n5_ := Aside0.mk (below_step (bS (IsS75.ge HI1126.out)) hb); clear HO1129 HO1133 HO1142 HI1126 HB; have HO1129 := n0_; have HO1133 := n1_; have HO1142 := n2_; have HO1146 := n3_; have HI1126 := n4_; have HB := n5_; clear n0_ n1_ n2_ n3_ n4_ n5_; (try clear hb ho0); obtain ⟨Ao28, co28, eo28⟩ := Kd.R_slice HO1142.out; subst eo28; obtain ⟨Ao29, co29, eo29⟩ := Kd.R_slice HO1146.out; subst eo29) | ((with_reducible refine gate_callee (f := 30) rfl ?_); refine gL (some 49) rfl Try.func30 #[.slice Ao28 t1139.length co28, .slice Ao29 t1143.length co29] rfl ?_; (with_reducible refine (interval_Union.calls k _ _ t1139 _ _ t1143 t1147 t1148 _ ?side1 ?side2 ?side3 ?side4 A10.out).mono ?_); (case side1 => exact cX (Kd.R_reads' HO1142.out).2.2); (case side2 => exact (Kd.R_reads' HO1142.out).2.1); (case side3 => exact cX (Kd.R_reads' HO1146.out).2.2); (case side4 => exact (Kd.R_reads' HO1146.out).2.1); rintro e w30 ⟨v1149, rfl, ho0, hb⟩; refine ⟨_, rfl, ?_⟩; have n0_ := Aside0.mk (Kd.R_elder' (rX HO1129.out) (Kd.R_base ho0) hb); have n1_ := Aside0.mk (Kd.R_elder' (rX HO1133.out) (Kd.R_base ho0) hb); have n2_ := Aside0.mk (Kd.R_elder' (rX HO1142.out) (Kd.R_base ho0) hb); have n3_ := Aside0.mk (Kd.R_elder' (rX HO1146.out) (Kd.R_base ho0) hb); have n4_ := Aside0.mk (Kd.R_lower (Kd.R_new' (Kd.R_new' (Kd.R_new' (Kd.R_new' ho0 (Kd.R_lt (rX HO1129.out))) (Kd.R_lt (rX HO1133.out))) (Kd.R_lt (rX HO1142.out))) (Kd.R_lt (rX HO1146.out))) (below_size (bS (IsS75.ge HI1126.out)))); have n5_ := Aside0.mk (IsS75.below (iX HI1126.out) hb); have n6_ := Aside0.mk (below_step (bS (IsS75.ge HI1126.out)) hb); clear HO1129 HO1133 HO1142 HO1146 HI1126 HB; have HO1129 := n0_; have HO1133 := n1_; have HO1142 := n2_; have HO1146 := n3_; have HO1150 := n4_; have HI1126 := n5_; have HB := n6_; clear n0_ n1_ n2_ n3_ n4_ n5_ n6_; (try clear hb ho0)) | ((with_reducible refine gate_callee (f := 36) rfl ?_); refine gL (some 52) rfl Try.func36 #[] rfl ?_; (with_reducible refine (partsynclaw03_begun.calls k  true _ A11.out).mono ?_); rintro e w31 ⟨rfl, hb⟩; refine ⟨_, rfl, ?_⟩; have n0_ := Aside0.mk (Kd.R_below (rX HO1129.out) hb); have n1_ := Aside0.mk (Kd.R_below (rX HO1133.out) hb); have n2_ := Aside0.mk (Kd.R_below (rX HO1142.out) hb); have n3_ := Aside0.mk (Kd.R_below (rX HO1146.out) hb); have n4_ := Aside0.mk (Kd.R_below (rX HO1150.out) hb); have n5_ := Aside0.mk (IsS75.below (iX HI1126.out) hb); have n6_ := Aside0.mk (below_step (bS (IsS75.ge HI1126.out)) hb); clear HO1129 HO1133 HO1142 HO1146 HO1150 HI1126 HB; have HO1129 := n0_; have HO1133 := n1_; have HO1142 := n2_; have HO1146 := n3_; have HO1150 := n4_; have HI1126 := n5_; have HB := n6_; clear n0_ n1_ n2_ n3_ n4_ n5_ n6_; (try clear hb)) | (go_at_call 40; (with_reducible refine (partsyncref03_Same.calls k _ _ t1127 _ _ t1131 t1152 _ ?side1 ?side2 ?side3 ?side4 A17.out).mono ?_); (case side1 => exact cX (Kd.R_reads' HO1129.out).2.2); (case side2 => exact (Kd.R_reads' HO1129.out).2.1); (case side3 => exact cX (Kd.R_reads' HO1133.out).2.2); (case side4 => exact (Kd.R_reads' HO1133.out).2.1); rintro e w' ⟨rfl, ⟨nd, rfl⟩⟩; obtain ⟨Ao32, co32, eo32⟩ := Kd.R_slice HO1150.out; subst eo32) | (go_at_call 40; (with_reducible refine (partsyncref03_Same.calls k _ _ t1147 _ _ t1127 t1153 _ ?side1 ?side2 ?side3 ?side4 A19.out).mono ?_); (case side1 => exact cX (Kd.R_reads' HO1150.out).2.2); (case side2 => exact (Kd.R_reads' HO1150.out).2.1); (case side3 => exact cX (Kd.R_reads' HO1129.out).2.2); (case side4 => exact (Kd.R_reads' HO1129.out).2.1); rintro e w' ⟨rfl, ⟨nd, rfl⟩⟩))
 go_ret
 exact ⟨eW, _, HBWN.out, bS (IsS75.ge HI1126.out)⟩
theorem partsynclaw03_IntervalOnce.calls (k : Nat) (A0 : Option Addr) (c0 : Nat) (l0 : List Int) (r : Bool) (w : World) (hr0 : Kd.C (Kd.int .u8) w A0 l0.length l0) (hc0 : l0.length ≤ c0) (h : partsynclaw03_IntervalOnce.f k l0 = some r) (HRT : Aside0 (r = true)) :
  Calls Try.prog 16 #[.slice A0 l0.length c0] w fun e w' => e = .returned (.bool r) ∧ Below w.heap.size w w' :=
 (partsynclaw03_IntervalOnce.callsN k A0 c0 l0 r w hr0 hc0 h HRT).mono fun _ _ ⟨he, _, h1, h2⟩ => ⟨he, h1.trans (h2.mono h1.size)⟩
theorem covers_iff {a b r : List S65} (h : IsOp kCov a b r) : ((r.length : Int) == 0) = true ↔ ∀ v, validS v = true → inI b v = true → inI a v = true := by
  constructor
  · intro h0 v hv hb
    have h0 : r = [] := List.length_eq_zero_iff.1 (by have := eq_of_beq h0; omega)
    have := h.mem v hv
    rw [h0] at this
    have this : false = (inI b v && !inI a v) := this
    rw [hb] at this
    simpa using this
  · intro hs
    have : r = [] := h.can.unique .nil fun v hv => by
      rw [h.mem v hv]
      show (inI b v && !inI a v) = false
      cases hb : inI b v
      · rfl
      · rw [hs v hv hb]; rfl
    subst this
    rfl
theorem partsynclaw03_IntervalOnce.pure (l : List Int) (hl : ∀ x ∈ l, 0 ≤ x ∧ x ≤ 255) : ∃ k, partsynclaw03_IntervalOnce.f k l = some true := by
  refine Ev.rounds (g := fun k => partsynclaw03_IntervalOnce.f k l) ?_
  unfold partsynclaw03_IntervalOnce.f
  obtain ⟨hn, hst⟩ := partsynccase_New.ok hl 120 (by omega) (by omega)
  rw [hn]
  simp only [Option.bind_some]
  obtain ⟨a, j1, e1, hst1, da⟩ := partsynccase_Case_Interval.ok hst
  obtain ⟨b, j2, e2, hst2, db⟩ := partsynccase_Case_Interval.ok hst1
  refine Ev.bind e1 (Ev.bind e2 ?_)
  have la := da.few
  have lb := db.few
  obtain ⟨p, hp, ep⟩ := interval_Covers.ok da.ok db.ok
  obtain ⟨q, hq, eq⟩ := interval_Covers.ok db.ok da.ok
  obtain ⟨x, hx, ox, ex⟩ := interval_Minus.few da.ok db.ok (by omega)
  obtain ⟨y, hy, oy, ey⟩ := interval_Intersect.few da.ok db.ok (by omega)
  have lx := hx.len
  have ly := hy.len
  obtain ⟨z, hz, oz, ez⟩ := interval_Union.few ox oy (by omega)
  refine Ev.bind ep (Ev.bind eq (Ev.bind ex (Ev.bind ey (Ev.bind ez (Ev.bind partsynclaw03_begun.ev ?_)))))
  have hza : z = a := hz.can.unique (okI_can.1 da.ok).2 fun v hv => by
    rw [hz.mem v hv, hx.mem v hv, hy.mem v hv]
    simp only [kOr, kMinus, kAnd]
    cases inI a v <;> cases inI b v <;> rfl
  have hs := partsyncref03_Same.yes hza (okI_len oz)
  have hab := partsyncref03_Same.ev a b (okI_len da.ok)
  have hpi := covers_iff hp
  have hqi := covers_iff hq
  generalize ((p.length : Int) == 0) = P at hpi
  generalize ((q.length : Int) == 0) = Q at hqi
  simp only [if_true]
  by_cases hP : P = true
  · simp only [hP, if_true]
    refine Ev.bind hab ?_
    have : (Q == decide (a = b)) = true := by
      rw [beq_iff_eq, Bool.eq_iff_iff, hqi, decide_eq_true_eq]
      constructor
      · exact fun h => (okI_can.1 da.ok).2.unique (okI_can.1 db.ok).2 fun v hv => Bool.eq_iff_iff.2 ⟨h v hv, hpi.1 hP v hv⟩
      · rintro rfl
        exact fun _ _ h => h
    simp only [this, if_true]
    exact Ev.bind hs (Ev.now _)
  · have hP' := Bool.eq_false_iff.2 hP
    simp only [hP', Bool.false_eq_true, if_false]
    refine Ev.bind hab ?_
    have : (false == decide (a = b)) = true := by
      rw [beq_iff_eq, eq_comm, decide_eq_false_iff_not]
      rintro rfl
      exact hP (hpi.2 fun _ _ h => h)
    simp only [this, if_true]
    exact Ev.bind hs (Ev.now _)
end Go.Proofs.Ytpjcdacnhalclaa.Q
namespace Go.Proofs.Ytpjcdacnhalclaa.intervalOnce
open Go.ChangeShapes Go.WideShapes Go.ChangeAt Go.RowKit Go.Joins
open Go.ChangeMaps (open_string shut_string)
open Go.Proofs.YtpjcdacnhalclaaW.PrintWords Go.Proofs.YtpjcdacnhalclaaW.PrintLast Go.Proofs.YtpjcdacnhalclaaW.PrintMore
set_option linter.unusedVariables false
set_option maxRecDepth 100000 in
theorem lifted (os : Os) (started : os.Started) (H : Type) (enc : TypeId × Value → H) :
    ReturnsInHanded {} Try.checked os 16 .any (Rows.intervalOnceSpec.pre6 enc Try.prog Try.f16 Rows.intervalOnceRow.domain false) (Rows.intervalOnceSpec.post enc Try.prog Try.f16 false true false false) := by
  refine returnsInHanded_of_change_sized (C := Try.checked) Q.own started (by kernel_rfl) Try.func16
    (ChangeSpec.witness6 (enc := enc) (C := Try.checked) false ⟨#[], #[.slice none 0 0], []⟩ 8 (by kernel_rfl) (by kernel_rfl) (by kernel_rfl) (by kernel_rfl)) ?_
  intro W base args ds gs before hval0 hW hcnd hsz0 _
  have hsz : (DataW.weightsEach Try.prog (Try.f16.params.toList ++ Rows.intervalOnceSpec.plain.varTypes Try.prog) (ds ++ gs)).all (· ≤ reachBytes) = true := hsz0
  have hval : ∀ (j : Nat) t v, Try.f16.params[j]? = some t → args[j]? = some v → Value.okWide Try.prog W .any base t v := hval0
  have hW' := hW
  obtain ⟨p, q, hA0, hV, rfl, hfz, hnd⟩ := hW
  have hA : DataW.TrodAll enc Try.prog W 0 (fun _ => true) true Try.f16.params.toList args.toList ds p := hA0
  rw [Try.params16] at hA hval hsz
  obtain ⟨v0, vs0, d0, ds0, p0, q0, hargs, rfl, rfl, h0, r0⟩ := trodAll_cons hA
  obtain ⟨rfl, rfl, rfl⟩ := trodAll_nil r0
  obtain rfl : args = #[v0] := by cases args; simp_all
  obtain ⟨rfl, rfl⟩ := trodVars_none hV
  have k0 := h0
  have lt0 : ∀ x ∈ p0, x.block < W.heap.size := by obtain ⟨m, hm⟩ := k0; exact DataW.trod_lt m _ _ _ hm
  obtain ⟨a0, len0, cap0, rfl⟩ := okWide_slice Try.underlying22 (hval 0 22 v0 rfl rfl)
  obtain ⟨z0, w0⟩ : ∃ zs, Q.IsRow .u8 W a0 len0 cap0 zs := by
    obtain ⟨fuel, hf⟩ := h0
    rcases open_ints Try.underlying22 Try.underlying5 (by kernel_rfl) hf with ⟨hcs, _⟩ | ⟨x, l, c, zs, hcs, _, hl, hm, hz, _, hcell, hwz⟩
    · simp [Value.cells] at hcs
      obtain ⟨rfl, rfl, rfl⟩ := hcs
      exact ⟨[], .inl ⟨rfl, rfl, rfl, rfl⟩⟩
    · simp [Value.cells] at hcs
      obtain ⟨rfl, rfl, rfl⟩ := hcs
      exact ⟨zs, .inr ⟨_, rfl, hl, hm, by simpa using hz, hcell, hwz⟩⟩
  obtain ⟨l0, rfl, hr0, hm0, hw0, hc0⟩ := ReadsInt.ofRowC w0
  clear hA0 hval0 hsz0 hsz
  obtain ⟨k, hk⟩ := Q.partsynclaw03_IntervalOnce.pure l0 (fun x hx => Q.wf_byte (hw0 x hx))
  refine (Q.partsynclaw03_IntervalOnce.calls k _ _ l0 true W (Kd.C_of_reads (d := (0 : Int)) (h1 := fun _ => rfl) hr0) hc0 hk ⟨rfl⟩).mono fun e W' ⟨he, bel⟩ => ?_
  subst he
  exact ⟨_, rfl, _, _, _, [], _, [], hW', trodAll_mk1 (shut_bool Try.underlying4 _), (trodAll_cons_mk (Below.trod Q.laidOut (by kernel_rfl) (of_decide_eq_true (by kernel_rfl)) k0 bel lt0) trodAll_mk0), rfl, bel.frame _, fun h => by cases h⟩
theorem over : Rows.intervalOnceRow.holds Try.pinned (OpenSpec.ofChange Rows.intervalOnceSpec) :=
  OpenClaim.holds_of_wide 16 Try.f16 rfl rfl rfl rfl rfl rfl rfl ⟨rfl, rfl, rfl, rfl, rfl⟩ rfl rfl rfl rfl rfl (by kernel_rfl) Try.func16 (by kernel_rfl)
    (of_decide_eq_true (by kernel_rfl)) (by unfold Func.isWrapper; first | (rw [if_pos (by decide +kernel)]; kernel_rfl) | (rw [if_neg (by decide +kernel)]; exact ⟨rfl, rfl⟩))
    (fun os started H enc _ => lifted os started H enc)
theorem proved : Rows.IntervalOnceSaid := over
end Go.Proofs.Ytpjcdacnhalclaa.intervalOnce
namespace Go.Proofs.Ytpjcdacnhalclaa
theorem intervalOnce_holds : Rows.IntervalOnceSaid := intervalOnce.proved
#print axioms intervalOnce_holds
end Go.Proofs.Ytpjcdacnhalclaa
