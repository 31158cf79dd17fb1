/- A part of a proof: facts of functions that the law calls; conditions stand in each. -/
import Derived.Test.YtpjcdacnhalclaaV15x3
import Derived.Test.YtpjcdacnhalclaaV15x25
import Derived.Test.YtpjcdacnhalclaaV15x11
import Derived.Test.YtpjcdacnhalclaaV15x22
import Derived.Test.YtpjcdacnhalclaaV15x23
import Derived.Test.YtpjcdacnhalclaaV15x10
set_option linter.unusedVariables false
set_option linter.unusedSimpArgs false
namespace Go.Proofs.Ytpjcdacnhalclaa.Q
open Go.RowKit Go.Proofs.YtpjcdacnhalclaaW.PrintWords Go.Proofs.YtpjcdacnhalclaaW.PrintLast Go.Proofs.YtpjcdacnhalclaaW.PrintMore
attribute [local go_sem] max2_int min2_int max_two min_two max_three min_three max_four min_four
def l3_IntervalAlgebra.f (k : Nat) (l0 : List Int) : Option (Bool) := (cs_New.f l0 120).bind fun bt1028 => ((cc_Interval.f k bt1028.1 bt1028.2).bind fun bt1031 => ((cc_Interval.f k bt1028.1 bt1031.2).bind fun bt1035 => ((cc_Interval.f k bt1028.1 bt1035.2).bind fun bt1039 => ((l3_begun.f k).bind fun t1043 => (if t1043 = true then ((l3_not.f k bt1031.1).bind fun t1044 => ((l3_not.f k t1044).bind fun t1047 => ((r3_Same.f k t1047 bt1031.1).bind fun t1050 => (if t1050 = true then ((l3_or.f k bt1031.1 bt1035.1).bind fun t1051 => ((l3_or.f k bt1035.1 bt1031.1).bind fun t1054 => ((r3_Same.f k t1051 t1054).bind fun t1057 => (if t1057 = true then ((l3_or.f k bt1031.1 bt1035.1).bind fun t1058 => ((l3_and.f k bt1031.1 t1058).bind fun t1061 => ((r3_Same.f k t1061 bt1031.1).bind fun t1064 => (if t1064 = true then ((l3_or.f k bt1035.1 bt1039.1).bind fun t1065 => ((l3_and.f k bt1031.1 t1065).bind fun t1068 => ((l3_and.f k bt1031.1 bt1035.1).bind fun t1071 => ((l3_and.f k bt1031.1 bt1039.1).bind fun t1074 => ((l3_or.f k t1071 t1074).bind fun t1077 => ((r3_Same.f k t1068 t1077).bind fun t1080 => (if t1080 = true then ((l3_or.f k bt1031.1 bt1035.1).bind fun t1081 => ((l3_not.f k t1081).bind fun t1084 => ((l3_not.f k bt1031.1).bind fun t1087 => ((l3_not.f k bt1035.1).bind fun t1090 => ((l3_and.f k t1087 t1090).bind fun t1093 => ((r3_Same.f k t1084 t1093).bind fun t1096 => (if t1096 = true then ((l3_not.f k bt1031.1).bind fun t1097 => ((l3_or.f k bt1031.1 t1097).bind fun t1100 => ((i_All.f).bind fun t1103 => ((r3_Same.f k t1100 t1103).bind fun t1106 => (if t1106 = true then ((l3_not.f k bt1031.1).bind fun t1107 => ((l3_and.f k bt1031.1 t1107).bind fun t1110 => (if (t1110.length : Int) = 0 then ((l3_or.f k bt1035.1 bt1039.1).bind fun t1113 => ((l3_or.f k bt1031.1 t1113).bind fun t1116 => ((l3_or.f k bt1031.1 bt1035.1).bind fun t1119 => ((l3_or.f k t1119 bt1039.1).bind fun t1122 => ((r3_Same.f k t1116 t1122).bind fun t1125 => (some t1125)))))) else (some false)))) else (some false)))))) else (some false)))))))) else (some false)))))))) else (some false))))) else (some false))))) else (some false))))) else (some false))))))
set_option maxHeartbeats 8000000 in
set_option maxRecDepth 100000 in
theorem l3_IntervalAlgebra.callsN (k : Nat) (A0 : Option Addr) (c0 : Nat) (l0 : List Int) (r : Bool) (w : World) (hr0 : Kd.C (Kd.int .u8) w A0 l0.length l0) (hc0 : l0.length ≤ c0) (h : l3_IntervalAlgebra.f k l0 = some r) (HRT : Aside0 (r = true)) :
  Calls Try.prog 15 #[.slice A0 l0.length c0] w fun e w' => e = .returned (.bool r) ∧ ∃ wb, Below w.heap.size w wb ∧ Below wb.heap.size wb w' := by
 have HR0 := Aside0.mk hr0
 have HC0 := Aside0.mk hc0
 clear hr0 hc0
 have HB := aK (Below.refl w.heap.size w)
 have H : ((cs_New.f l0 120).bind fun bt1028 => ((cc_Interval.f k bt1028.1 bt1028.2).bind fun bt1031 => ((cc_Interval.f k bt1028.1 bt1031.2).bind fun bt1035 => ((cc_Interval.f k bt1028.1 bt1035.2).bind fun bt1039 => ((l3_begun.f k).bind fun t1043 => (if t1043 = true then ((l3_not.f k bt1031.1).bind fun t1044 => ((l3_not.f k t1044).bind fun t1047 => ((r3_Same.f k t1047 bt1031.1).bind fun t1050 => (if t1050 = true then ((l3_or.f k bt1031.1 bt1035.1).bind fun t1051 => ((l3_or.f k bt1035.1 bt1031.1).bind fun t1054 => ((r3_Same.f k t1051 t1054).bind fun t1057 => (if t1057 = true then ((l3_or.f k bt1031.1 bt1035.1).bind fun t1058 => ((l3_and.f k bt1031.1 t1058).bind fun t1061 => ((r3_Same.f k t1061 bt1031.1).bind fun t1064 => (if t1064 = true then ((l3_or.f k bt1035.1 bt1039.1).bind fun t1065 => ((l3_and.f k bt1031.1 t1065).bind fun t1068 => ((l3_and.f k bt1031.1 bt1035.1).bind fun t1071 => ((l3_and.f k bt1031.1 bt1039.1).bind fun t1074 => ((l3_or.f k t1071 t1074).bind fun t1077 => ((r3_Same.f k t1068 t1077).bind fun t1080 => (if t1080 = true then ((l3_or.f k bt1031.1 bt1035.1).bind fun t1081 => ((l3_not.f k t1081).bind fun t1084 => ((l3_not.f k bt1031.1).bind fun t1087 => ((l3_not.f k bt1035.1).bind fun t1090 => ((l3_and.f k t1087 t1090).bind fun t1093 => ((r3_Same.f k t1084 t1093).bind fun t1096 => (if t1096 = true then ((l3_not.f k bt1031.1).bind fun t1097 => ((l3_or.f k bt1031.1 t1097).bind fun t1100 => ((i_All.f).bind fun t1103 => ((r3_Same.f k t1100 t1103).bind fun t1106 => (if t1106 = true then ((l3_not.f k bt1031.1).bind fun t1107 => ((l3_and.f k bt1031.1 t1107).bind fun t1110 => (if (t1110.length : Int) = 0 then ((l3_or.f k bt1035.1 bt1039.1).bind fun t1113 => ((l3_or.f k bt1031.1 t1113).bind fun t1116 => ((l3_or.f k bt1031.1 bt1035.1).bind fun t1119 => ((l3_or.f k t1119 bt1039.1).bind fun t1122 => ((r3_Same.f k t1116 t1122).bind fun t1125 => (some t1125)))))) else (some false)))) else (some false)))))) else (some false)))))))) else (some false)))))))) else (some false))))) else (some false))))) else (some false))))) else (some false))))))) = some r := h
 clear h
 obtain ⟨⟨t1028, t1029⟩, A2, H⟩ := oB H
 try dsimp only at H
 obtain ⟨⟨t1031, t1034⟩, A4, H⟩ := oB H
 try dsimp only at H
 obtain ⟨⟨t1035, t1038⟩, A5, H⟩ := oB H
 try dsimp only at H
 obtain ⟨⟨t1039, t1042⟩, A6, H⟩ := oB H
 try dsimp only at H
 obtain ⟨t1043, A7, H⟩ := oB H
 try dsimp only at H
 by_cases c8 : t1043 = true
 rotate_left
 ·replace c8 := Bool.eq_false_iff.mpr c8
  subst c8
  rw [if_neg (show ¬ (false = true) by decide)] at H
  exact absurd (H.trans (congrArg some HRT.out)) (by simp)
 subst c8
 rw [if_pos rfl] at H
 obtain ⟨t1044, A9, H⟩ := oB H
 try dsimp only at H
 obtain ⟨t1047, A10, H⟩ := oB H
 try dsimp only at H
 obtain ⟨t1050, A11, H⟩ := oB H
 try dsimp only at H
 by_cases c12 : t1050 = true
 rotate_left
 ·replace c12 := Bool.eq_false_iff.mpr c12
  subst c12
  rw [if_neg (show ¬ (false = true) by decide)] at H
  exact absurd (H.trans (congrArg some HRT.out)) (by simp)
 subst c12
 rw [if_pos rfl] at H
 obtain ⟨t1051, A13, H⟩ := oB H
 try dsimp only at H
 obtain ⟨t1054, A14, H⟩ := oB H
 try dsimp only at H
 obtain ⟨t1057, A15, H⟩ := oB H
 try dsimp only at H
 by_cases c16 : t1057 = true
 rotate_left
 ·replace c16 := Bool.eq_false_iff.mpr c16
  subst c16
  rw [if_neg (show ¬ (false = true) by decide)] at H
  exact absurd (H.trans (congrArg some HRT.out)) (by simp)
 subst c16
 rw [if_pos rfl] at H
 obtain ⟨t1058, A17, H⟩ := oB H
 try dsimp only at H
 obtain ⟨t1061, A18, H⟩ := oB H
 try dsimp only at H
 obtain ⟨t1064, A19, H⟩ := oB H
 try dsimp only at H
 by_cases c20 : t1064 = true
 rotate_left
 ·replace c20 := Bool.eq_false_iff.mpr c20
  subst c20
  rw [if_neg (show ¬ (false = true) by decide)] at H
  exact absurd (H.trans (congrArg some HRT.out)) (by simp)
 subst c20
 rw [if_pos rfl] at H
 obtain ⟨t1065, A21, H⟩ := oB H
 try dsimp only at H
 obtain ⟨t1068, A22, H⟩ := oB H
 try dsimp only at H
 obtain ⟨t1071, A23, H⟩ := oB H
 try dsimp only at H
 obtain ⟨t1074, A24, H⟩ := oB H
 try dsimp only at H
 obtain ⟨t1077, A25, H⟩ := oB H
 try dsimp only at H
 obtain ⟨t1080, A26, H⟩ := oB H
 try dsimp only at H
 by_cases c27 : t1080 = true
 rotate_left
 ·replace c27 := Bool.eq_false_iff.mpr c27
  subst c27
  rw [if_neg (show ¬ (false = true) by decide)] at H
  exact absurd (H.trans (congrArg some HRT.out)) (by simp)
 subst c27
 rw [if_pos rfl] at H
 obtain ⟨t1081, A28, H⟩ := oB H
 try dsimp only at H
 obtain ⟨t1084, A29, H⟩ := oB H
 try dsimp only at H
 obtain ⟨t1087, A30, H⟩ := oB H
 try dsimp only at H
 obtain ⟨t1090, A31, H⟩ := oB H
 try dsimp only at H
 obtain ⟨t1093, A32, H⟩ := oB H
 try dsimp only at H
 obtain ⟨t1096, A33, H⟩ := oB H
 try dsimp only at H
 by_cases c34 : t1096 = true
 rotate_left
 ·replace c34 := Bool.eq_false_iff.mpr c34
  subst c34
  rw [if_neg (show ¬ (false = true) by decide)] at H
  exact absurd (H.trans (congrArg some HRT.out)) (by simp)
 subst c34
 rw [if_pos rfl] at H
 obtain ⟨t1097, A35, H⟩ := oB H
 try dsimp only at H
 obtain ⟨t1100, A36, H⟩ := oB H
 try dsimp only at H
 obtain ⟨t1103, A37, H⟩ := oB H
 try dsimp only at H
 obtain ⟨t1106, A38, H⟩ := oB H
 try dsimp only at H
 by_cases c39 : t1106 = true
 rotate_left
 ·replace c39 := Bool.eq_false_iff.mpr c39
  subst c39
  rw [if_neg (show ¬ (false = true) by decide)] at H
  exact absurd (H.trans (congrArg some HRT.out)) (by simp)
 subst c39
 rw [if_pos rfl] at H
 obtain ⟨t1107, A40, H⟩ := oB H
 try dsimp only at H
 obtain ⟨t1110, A41, H⟩ := oB H
 try dsimp only at H
 by_cases c42 : (t1110.length : Int) = 0
 rotate_left
 ·rw [if_neg c42] at H
  have c42b0 : ((t1110.length : Int) == 0) = false := beq_eq_false_iff_ne.mpr c42
  have c42b1 : ((t1110.length : Int) != 0) = true := bne_iff_ne.mpr c42
  have c42b2 : ¬ (t1110 = []) := fun h_ => c42 (by rw [h_]; rfl)
  exact absurd (H.trans (congrArg some HRT.out)) (by simp)
 rw [if_pos c42] at H
 have c42b0 : ((t1110.length : Int) == 0) = true := beq_iff_eq.mpr c42
 have c42b1 : ((t1110.length : Int) != 0) = false := bne_eq_false_iff_eq.mpr c42
 clear c42
 obtain ⟨t1113, A43, H⟩ := oB H
 try dsimp only at H
 obtain ⟨t1116, A44, H⟩ := oB H
 try dsimp only at H
 obtain ⟨t1119, A45, H⟩ := oB H
 try dsimp only at H
 obtain ⟨t1122, A46, H⟩ := oB H
 try dsimp only at H
 obtain ⟨t1125, A47, H⟩ := oB H
 try dsimp only at H
 obtain rfl := Option.some.inj H
 go_enter Try.func15, Try.ntmps15
 go_wp2_with (first | ((with_reducible refine gate_callee (f := 18) rfl ?_); refine gL (some 8) rfl Try.func18 #[.slice A0 l0.length c0, .int .i64 120] rfl ?_; (with_reducible refine (cs_New.calls _ _ l0 120 t1028 t1029 w _ ?side1 ?side2 ?side3 A2.out).mono ?_); (case side1 => exact bO); (case side2 => exact HR0.out); (case side3 => exact HC0.out); rintro e w3 ⟨g1030, rfl, hi, hb, hb2⟩; refine ⟨_, rfl, ?_⟩; have n0_ := aK (hb); have n1_ := aK (hi); clear HB; have HB := n0_; have HI1030 := n1_; clear n0_ n1_; (try clear hb hb2 hi); have HNS := HI1030.out; clear HI1030 HB; obtain ⟨w, BWN, BNW, hIN⟩ := HNS; have HI1030 := Aside0.mk hIN; have HB := Aside0.mk BNW; have HBWN := Aside0.mk BWN; clear hIN BNW BWN) | ((with_reducible refine gate_callee (f := 29) rfl ?_); refine gL (some 10) rfl Try.func29 #[.pointer (some ⟨g1030, 0, none⟩)] rfl ?_; (with_reducible refine (cc_Interval.calls k g1030 t1028 t1029 t1031 t1034 w _ ?side1 ?side2 A4.out).mono ?_); (case side1 => exact iX HI1030.out); (case side2 => exact bS (IsS75.ge HI1030.out)); rintro e w48 ⟨v1032, rfl, ho0, hi, hb, hk⟩; refine ⟨_, rfl, ?_⟩; have n0_ := aK (Kd.R_lower ho0 (below_size (bS (IsS75.ge HI1030.out)))); have n1_ := aK (hb); have n2_ := aK (hi); clear HB HI1030; have HO1033 := n0_; have HB := n1_; have HI1030 := n2_; clear n0_ n1_ n2_; (try clear hb hk hi ho0)) | ((with_reducible refine gate_callee (f := 29) rfl ?_); refine gL (some 12) rfl Try.func29 #[.pointer (some ⟨g1030, 0, none⟩)] rfl ?_; (with_reducible refine (cc_Interval.calls k g1030 t1028 t1034 t1035 t1038 w _ ?side1 ?side2 A5.out).mono ?_); (case side1 => exact iX HI1030.out); (case side2 => exact bS (IsS75.ge HI1030.out)); rintro e w49 ⟨v1036, rfl, ho0, hi, hb, hk⟩; refine ⟨_, rfl, ?_⟩; have n0_ := aK (Kd.R_mono (Kd.R_told (Kd.R_oldK (IsS75.apart (show IsS75 w _ g1030 t1028 t1034 from iX HI1030.out) (rX HO1033.out) (by decide)) hk) (Kd.R_base ho0)) (fun _ h_ => h_.1)); have n1_ := aK (Kd.R_lower (Kd.R_new' ho0 (Kd.R_lt (rX HO1033.out))) (below_size (bS (IsS75.ge HI1030.out)))); have n2_ := aK (hb); have n3_ := aK (hi); clear HO1033 HB HI1030; have HO1033 := n0_; have HO1037 := n1_; have HB := n2_; have HI1030 := n3_; clear n0_ n1_ n2_ n3_; (try clear hb hk hi ho0)) | ((with_reducible refine gate_callee (f := 29) rfl ?_); refine gL (some 14) rfl Try.func29 #[.pointer (some ⟨g1030, 0, none⟩)] rfl ?_; (with_reducible refine (cc_Interval.calls k g1030 t1028 t1038 t1039 t1042 w _ ?side1 ?side2 A6.out).mono ?_); (case side1 => exact iX HI1030.out); (case side2 => exact bS (IsS75.ge HI1030.out)); rintro e w50 ⟨v1040, rfl, ho0, hi, hb, hk⟩; refine ⟨_, rfl, ?_⟩; have n0_ := aK (Kd.R_mono (Kd.R_told (Kd.R_oldK (IsS75.apart (show IsS75 w _ g1030 t1028 t1038 from iX HI1030.out) (rX HO1033.out) (by decide)) hk) (Kd.R_base ho0)) (fun _ h_ => h_.1)); have n1_ := aK (Kd.R_mono (Kd.R_told (Kd.R_oldK (IsS75.apart (show IsS75 w _ g1030 t1028 t1038 from iX HI1030.out) (rX HO1037.out) (by decide)) hk) (Kd.R_base ho0)) (fun _ h_ => h_.1)); have n2_ := aK (Kd.R_lower (Kd.R_new' (Kd.R_new' ho0 (Kd.R_lt (rX HO1033.out))) (Kd.R_lt (rX HO1037.out))) (below_size (bS (IsS75.ge HI1030.out)))); have n3_ := aK (hb); have n4_ := aK (hi); clear HO1033 HO1037 HB HI1030; have HO1033 := n0_; have HO1037 := n1_; have HO1041 := n2_; have HB := n3_; have HI1030 := n4_; clear n0_ n1_ n2_ n3_ n4_; (try clear hb hk hi ho0)))
 (with_reducible refine (l3_begun.calls k  true _ A7.out).mono ?_)
 rintro e w51 ⟨rfl, hb⟩
 have n0_ := aK (Kd.R_below (rX HO1033.out) hb)
 have n1_ := aK (Kd.R_below (rX HO1037.out) hb)
 have n2_ := aK (Kd.R_below (rX HO1041.out) hb)
 have n3_ := aK (IsS75.below (iX HI1030.out) hb)
 have n4_ := aK (below_step (bS (IsS75.ge HI1030.out)) hb)
 clear HO1033
 clear HO1037
 clear HO1041
 clear HI1030
 clear HB
 have HO1033 := n0_
 have HO1037 := n1_
 have HO1041 := n2_
 have HI1030 := n3_
 have HB := n4_
 clear n0_ n1_ n2_ n3_ n4_
 (try clear hb)
 (try clear hb2)
 (try clear hk)
 (try clear hi)
 obtain ⟨Ao52, co52, eo52⟩ := Kd.R_slice HO1033.out
 subst eo52
 go_wp2_with fail
 (with_reducible refine (l3_not.calls k _ _ t1031 t1044 _ ?side1 ?side2 A9.out).mono ?_)
 (case side1 => exact cX (Kd.R_reads' HO1033.out).2.2)
 (case side2 => exact (Kd.R_reads' HO1033.out).2.1)
 rintro e w53 ⟨v1045, rfl, ho0, hb⟩
 have n0_ := aK (Kd.R_elder' (rX HO1033.out) (Kd.R_base ho0) hb)
 have n1_ := aK (Kd.R_elder' (rX HO1037.out) (Kd.R_base ho0) hb)
 have n2_ := aK (Kd.R_elder' (rX HO1041.out) (Kd.R_base ho0) hb)
 have n3_ := aK (Kd.R_lower (Kd.R_new' (Kd.R_new' (Kd.R_new' ho0 (Kd.R_lt (rX HO1033.out))) (Kd.R_lt (rX HO1037.out))) (Kd.R_lt (rX HO1041.out))) (below_size (bS (IsS75.ge HI1030.out))))
 have n4_ := aK (IsS75.below (iX HI1030.out) hb)
 have n5_ := aK (below_step (bS (IsS75.ge HI1030.out)) hb)
 clear HO1033
 clear HO1037
 clear HO1041
 clear HI1030
 clear HB
 have HO1033 := n0_
 have HO1037 := n1_
 have HO1041 := n2_
 have HO1046 := n3_
 have HI1030 := n4_
 have HB := n5_
 clear n0_ n1_ n2_ n3_ n4_ n5_
 (try clear hb)
 (try clear hb2)
 (try clear hk)
 (try clear hi)
 (try clear ho0)
 obtain ⟨Ao54, co54, eo54⟩ := Kd.R_slice HO1046.out
 subst eo54
 go_wp2_with fail
 (with_reducible refine (l3_not.calls k _ _ t1044 t1047 _ ?side1 ?side2 A10.out).mono ?_)
 (case side1 => exact cX (Kd.R_reads' HO1046.out).2.2)
 (case side2 => exact (Kd.R_reads' HO1046.out).2.1)
 rintro e w55 ⟨v1048, rfl, ho0, hb⟩
 have n0_ := aK (Kd.R_elder' (rX HO1033.out) (Kd.R_base ho0) hb)
 have n1_ := aK (Kd.R_elder' (rX HO1037.out) (Kd.R_base ho0) hb)
 have n2_ := aK (Kd.R_elder' (rX HO1041.out) (Kd.R_base ho0) hb)
 have n3_ := aK (Kd.R_elder' (rX HO1046.out) (Kd.R_base ho0) hb)
 have n4_ := aK (Kd.R_lower (Kd.R_new' (Kd.R_new' (Kd.R_new' (Kd.R_new' ho0 (Kd.R_lt (rX HO1033.out))) (Kd.R_lt (rX HO1037.out))) (Kd.R_lt (rX HO1041.out))) (Kd.R_lt (rX HO1046.out))) (below_size (bS (IsS75.ge HI1030.out))))
 have n5_ := aK (IsS75.below (iX HI1030.out) hb)
 have n6_ := aK (below_step (bS (IsS75.ge HI1030.out)) hb)
 clear HO1033
 clear HO1037
 clear HO1041
 clear HO1046
 clear HI1030
 clear HB
 have HO1033 := n0_
 have HO1037 := n1_
 have HO1041 := n2_
 have HO1046 := n3_
 have HO1049 := n4_
 have HI1030 := n5_
 have HB := n6_
 clear n0_ n1_ n2_ n3_ n4_ n5_ n6_
 (try clear hb)
 (try clear hb2)
 (try clear hk)
 (try clear hi)
 (try clear ho0)
 obtain ⟨Ao56, co56, eo56⟩ := Kd.R_slice HO1049.out
 subst eo56
 go_wp2_with fail
 (with_reducible refine (r3_Same.calls k _ _ t1047 _ _ t1031 true _ ?side1 ?side2 ?side3 ?side4 A11.out).mono ?_)
 (case side1 => exact cX (Kd.R_reads' HO1049.out).2.2)
 (case side2 => exact (Kd.R_reads' HO1049.out).2.1)
 (case side3 => exact cX (Kd.R_reads' HO1033.out).2.2)
 (case side4 => exact (Kd.R_reads' HO1033.out).2.1)
 rintro e w' ⟨rfl, ⟨nd, rfl⟩⟩
 obtain ⟨Ao57, co57, eo57⟩ := Kd.R_slice HO1037.out
 subst eo57
 go_wp2_with fail
 (with_reducible refine (l3_or.calls k _ _ t1031 _ _ t1035 t1051 _ ?side1 ?side2 ?side3 ?side4 A13.out).mono ?_)
 (case side1 => exact cX (Kd.R_reads' HO1033.out).2.2)
 (case side2 => exact (Kd.R_reads' HO1033.out).2.1)
 (case side3 => exact cX (Kd.R_reads' HO1037.out).2.2)
 (case side4 => exact (Kd.R_reads' HO1037.out).2.1)
 rintro e w58 ⟨v1052, rfl, ho0, hb⟩
 have n0_ := aK (Kd.R_elder' (rX HO1033.out) (Kd.R_base ho0) hb)
 have n1_ := aK (Kd.R_elder' (rX HO1037.out) (Kd.R_base ho0) hb)
 have n2_ := aK (Kd.R_elder' (rX HO1041.out) (Kd.R_base ho0) hb)
 have n3_ := aK (Kd.R_elder' (rX HO1046.out) (Kd.R_base ho0) hb)
 have n4_ := aK (Kd.R_elder' (rX HO1049.out) (Kd.R_base ho0) hb)
 have n5_ := aK (Kd.R_lower (Kd.R_new' (Kd.R_new' (Kd.R_new' (Kd.R_new' (Kd.R_new' ho0 (Kd.R_lt (rX HO1033.out))) (Kd.R_lt (rX HO1037.out))) (Kd.R_lt (rX HO1041.out))) (Kd.R_lt (rX HO1046.out))) (Kd.R_lt (rX HO1049.out))) (below_size (bS (IsS75.ge HI1030.out))))
 have n6_ := aK (IsS75.below (iX HI1030.out) hb)
 have n7_ := aK (below_step (bS (IsS75.ge HI1030.out)) hb)
 clear HO1033
 clear HO1037
 clear HO1041
 clear HO1046
 clear HO1049
 clear HI1030
 clear HB
 have HO1033 := n0_
 have HO1037 := n1_
 have HO1041 := n2_
 have HO1046 := n3_
 have HO1049 := n4_
 have HO1053 := n5_
 have HI1030 := n6_
 have HB := n7_
 clear n0_ n1_ n2_ n3_ n4_ n5_ n6_ n7_
 (try clear hb)
 (try clear hb2)
 (try clear hk)
 (try clear hi)
 (try clear ho0)
 go_wp2_with fail
 (with_reducible refine (l3_or.calls k _ _ t1035 _ _ t1031 t1054 _ ?side1 ?side2 ?side3 ?side4 A14.out).mono ?_)
 (case side1 => exact cX (Kd.R_reads' HO1037.out).2.2)
 (case side2 => exact (Kd.R_reads' HO1037.out).2.1)
 (case side3 => exact cX (Kd.R_reads' HO1033.out).2.2)
 (case side4 => exact (Kd.R_reads' HO1033.out).2.1)
 rintro e w59 ⟨v1055, rfl, ho0, hb⟩
 have n0_ := aK (Kd.R_elder' (rX HO1033.out) (Kd.R_base ho0) hb)
 have n1_ := aK (Kd.R_elder' (rX HO1037.out) (Kd.R_base ho0) hb)
 have n2_ := aK (Kd.R_elder' (rX HO1041.out) (Kd.R_base ho0) hb)
 have n3_ := aK (Kd.R_elder' (rX HO1046.out) (Kd.R_base ho0) hb)
 have n4_ := aK (Kd.R_elder' (rX HO1049.out) (Kd.R_base ho0) hb)
 have n5_ := aK (Kd.R_elder' (rX HO1053.out) (Kd.R_base ho0) hb)
 have n6_ := aK (Kd.R_lower (Kd.R_new' (Kd.R_new' (Kd.R_new' (Kd.R_new' (Kd.R_new' (Kd.R_new' ho0 (Kd.R_lt (rX HO1033.out))) (Kd.R_lt (rX HO1037.out))) (Kd.R_lt (rX HO1041.out))) (Kd.R_lt (rX HO1046.out))) (Kd.R_lt (rX HO1049.out))) (Kd.R_lt (rX HO1053.out))) (below_size (bS (IsS75.ge HI1030.out))))
 have n7_ := aK (IsS75.below (iX HI1030.out) hb)
 have n8_ := aK (below_step (bS (IsS75.ge HI1030.out)) hb)
 clear HO1033
 clear HO1037
 clear HO1041
 clear HO1046
 clear HO1049
 clear HO1053
 clear HI1030
 clear HB
 have HO1033 := n0_
 have HO1037 := n1_
 have HO1041 := n2_
 have HO1046 := n3_
 have HO1049 := n4_
 have HO1053 := n5_
 have HO1056 := n6_
 have HI1030 := n7_
 have HB := n8_
 clear n0_ n1_ n2_ n3_ n4_ n5_ n6_ n7_ n8_
 (try clear hb)
 (try clear hb2)
 (try clear hk)
 (try clear hi)
 (try clear ho0)
 obtain ⟨Ao60, co60, eo60⟩ := Kd.R_slice HO1053.out
 subst eo60
 obtain ⟨Ao61, co61, eo61⟩ := Kd.R_slice HO1056.out
 subst eo61
 go_wp2_with fail
 (with_reducible refine (r3_Same.calls k _ _ t1051 _ _ t1054 true _ ?side1 ?side2 ?side3 ?side4 A15.out).mono ?_)
 (case side1 => exact cX (Kd.R_reads' HO1053.out).2.2)
 (case side2 => exact (Kd.R_reads' HO1053.out).2.1)
 (case side3 => exact cX (Kd.R_reads' HO1056.out).2.2)
 (case side4 => exact (Kd.R_reads' HO1056.out).2.1)
 rintro e w' ⟨rfl, ⟨nd, rfl⟩⟩
 go_wp2_with fail
 (with_reducible refine (l3_or.calls k _ _ t1031 _ _ t1035 t1058 _ ?side1 ?side2 ?side3 ?side4 A17.out).mono ?_)
 (case side1 => exact cX (Kd.R_reads' HO1033.out).2.2)
 (case side2 => exact (Kd.R_reads' HO1033.out).2.1)
 (case side3 => exact cX (Kd.R_reads' HO1037.out).2.2)
 (case side4 => exact (Kd.R_reads' HO1037.out).2.1)
 rintro e w62 ⟨v1059, rfl, ho0, hb⟩
 have n0_ := aK (Kd.R_elder' (rX HO1033.out) (Kd.R_base ho0) hb)
 have n1_ := aK (Kd.R_elder' (rX HO1037.out) (Kd.R_base ho0) hb)
 have n2_ := aK (Kd.R_elder' (rX HO1041.out) (Kd.R_base ho0) hb)
 have n3_ := aK (Kd.R_elder' (rX HO1046.out) (Kd.R_base ho0) hb)
 have n4_ := aK (Kd.R_elder' (rX HO1049.out) (Kd.R_base ho0) hb)
 have n5_ := aK (Kd.R_elder' (rX HO1053.out) (Kd.R_base ho0) hb)
 have n6_ := aK (Kd.R_elder' (rX HO1056.out) (Kd.R_base ho0) hb)
 have n7_ := aK (Kd.R_lower (Kd.R_new' (Kd.R_new' (Kd.R_new' (Kd.R_new' (Kd.R_new' (Kd.R_new' (Kd.R_new' ho0 (Kd.R_lt (rX HO1033.out))) (Kd.R_lt (rX HO1037.out))) (Kd.R_lt (rX HO1041.out))) (Kd.R_lt (rX HO1046.out))) (Kd.R_lt (rX HO1049.out))) (Kd.R_lt (rX HO1053.out))) (Kd.R_lt (rX HO1056.out))) (below_size (bS (IsS75.ge HI1030.out))))
 have n8_ := aK (IsS75.below (iX HI1030.out) hb)
 have n9_ := aK (below_step (bS (IsS75.ge HI1030.out)) hb)
 clear HO1033
 clear HO1037
 clear HO1041
 clear HO1046
 clear HO1049
 clear HO1053
 clear HO1056
 clear HI1030
 clear HB
 have HO1033 := n0_
 have HO1037 := n1_
 have HO1041 := n2_
 have HO1046 := n3_
 have HO1049 := n4_
 have HO1053 := n5_
 have HO1056 := n6_
 have HO1060 := n7_
 have HI1030 := n8_
 have HB := n9_
 clear n0_ n1_ n2_ n3_ n4_ n5_ n6_ n7_ n8_ n9_
 (try clear hb)
 (try clear hb2)
 (try clear hk)
 (try clear hi)
 (try clear ho0)
 obtain ⟨Ao63, co63, eo63⟩ := Kd.R_slice HO1060.out
 subst eo63
 go_wp2_with fail
 (with_reducible refine (l3_and.calls k _ _ t1031 _ _ t1058 t1061 _ ?side1 ?side2 ?side3 ?side4 A18.out).mono ?_)
 (case side1 => exact cX (Kd.R_reads' HO1033.out).2.2)
 (case side2 => exact (Kd.R_reads' HO1033.out).2.1)
 (case side3 => exact cX (Kd.R_reads' HO1060.out).2.2)
 (case side4 => exact (Kd.R_reads' HO1060.out).2.1)
 rintro e w64 ⟨v1062, rfl, ho0, hb⟩
 have n0_ := aK (Kd.R_elder' (rX HO1033.out) (Kd.R_base ho0) hb)
 have n1_ := aK (Kd.R_elder' (rX HO1037.out) (Kd.R_base ho0) hb)
 have n2_ := aK (Kd.R_elder' (rX HO1041.out) (Kd.R_base ho0) hb)
 have n3_ := aK (Kd.R_elder' (rX HO1046.out) (Kd.R_base ho0) hb)
 have n4_ := aK (Kd.R_elder' (rX HO1049.out) (Kd.R_base ho0) hb)
 have n5_ := aK (Kd.R_elder' (rX HO1053.out) (Kd.R_base ho0) hb)
 have n6_ := aK (Kd.R_elder' (rX HO1056.out) (Kd.R_base ho0) hb)
 have n7_ := aK (Kd.R_elder' (rX HO1060.out) (Kd.R_base ho0) hb)
 have n8_ := aK (Kd.R_lower (Kd.R_new' (Kd.R_new' (Kd.R_new' (Kd.R_new' (Kd.R_new' (Kd.R_new' (Kd.R_new' (Kd.R_new' ho0 (Kd.R_lt (rX HO1033.out))) (Kd.R_lt (rX HO1037.out))) (Kd.R_lt (rX HO1041.out))) (Kd.R_lt (rX HO1046.out))) (Kd.R_lt (rX HO1049.out))) (Kd.R_lt (rX HO1053.out))) (Kd.R_lt (rX HO1056.out))) (Kd.R_lt (rX HO1060.out))) (below_size (bS (IsS75.ge HI1030.out))))
 have n9_ := aK (IsS75.below (iX HI1030.out) hb)
 have n10_ := aK (below_step (bS (IsS75.ge HI1030.out)) hb)
 clear HO1033
 clear HO1037
 clear HO1041
 clear HO1046
 clear HO1049
 clear HO1053
 clear HO1056
 clear HO1060
 clear HI1030
 clear HB
 have HO1033 := n0_
 have HO1037 := n1_
 have HO1041 := n2_
 have HO1046 := n3_
 have HO1049 := n4_
 have HO1053 := n5_
 have HO1056 := n6_
 have HO1060 := n7_
 have HO1063 := n8_
 have HI1030 := n9_
 have HB := n10_
 clear n0_ n1_ n2_ n3_ n4_ n5_ n6_ n7_ n8_ n9_ n10_
 (try clear hb)
 (try clear hb2)
 (try clear hk)
 (try clear hi)
 (try clear ho0)
 obtain ⟨Ao65, co65, eo65⟩ := Kd.R_slice HO1063.out
 subst eo65
 go_wp2_with fail
 (with_reducible refine (r3_Same.calls k _ _ t1061 _ _ t1031 true _ ?side1 ?side2 ?side3 ?side4 A19.out).mono ?_)
 (case side1 => exact cX (Kd.R_reads' HO1063.out).2.2)
 (case side2 => exact (Kd.R_reads' HO1063.out).2.1)
 (case side3 => exact cX (Kd.R_reads' HO1033.out).2.2)
 (case side4 => exact (Kd.R_reads' HO1033.out).2.1)
 rintro e w' ⟨rfl, ⟨nd, rfl⟩⟩
 obtain ⟨Ao66, co66, eo66⟩ := Kd.R_slice HO1041.out
 subst eo66
 go_wp2_with fail
 (with_reducible refine (l3_or.calls k _ _ t1035 _ _ t1039 t1065 _ ?side1 ?side2 ?side3 ?side4 A21.out).mono ?_)
 (case side1 => exact cX (Kd.R_reads' HO1037.out).2.2)
 (case side2 => exact (Kd.R_reads' HO1037.out).2.1)
 (case side3 => exact cX (Kd.R_reads' HO1041.out).2.2)
 (case side4 => exact (Kd.R_reads' HO1041.out).2.1)
 rintro e w67 ⟨v1066, rfl, ho0, hb⟩
 have n0_ := aK (Kd.R_elder' (rX HO1033.out) (Kd.R_base ho0) hb)
 have n1_ := aK (Kd.R_elder' (rX HO1037.out) (Kd.R_base ho0) hb)
 have n2_ := aK (Kd.R_elder' (rX HO1041.out) (Kd.R_base ho0) hb)
 have n3_ := aK (Kd.R_elder' (rX HO1046.out) (Kd.R_base ho0) hb)
 have n4_ := aK (Kd.R_elder' (rX HO1049.out) (Kd.R_base ho0) hb)
 have n5_ := aK (Kd.R_elder' (rX HO1053.out) (Kd.R_base ho0) hb)
 have n6_ := aK (Kd.R_elder' (rX HO1056.out) (Kd.R_base ho0) hb)
 have n7_ := aK (Kd.R_elder' (rX HO1060.out) (Kd.R_base ho0) hb)
 have n8_ := aK (Kd.R_elder' (rX HO1063.out) (Kd.R_base ho0) hb)
 have n9_ := aK (Kd.R_lower (Kd.R_new' (Kd.R_new' (Kd.R_new' (Kd.R_new' (Kd.R_new' (Kd.R_new' (Kd.R_new' (Kd.R_new' (Kd.R_new' ho0 (Kd.R_lt (rX HO1033.out))) (Kd.R_lt (rX HO1037.out))) (Kd.R_lt (rX HO1041.out))) (Kd.R_lt (rX HO1046.out))) (Kd.R_lt (rX HO1049.out))) (Kd.R_lt (rX HO1053.out))) (Kd.R_lt (rX HO1056.out))) (Kd.R_lt (rX HO1060.out))) (Kd.R_lt (rX HO1063.out))) (below_size (bS (IsS75.ge HI1030.out))))
 have n10_ := aK (IsS75.below (iX HI1030.out) hb)
 have n11_ := aK (below_step (bS (IsS75.ge HI1030.out)) hb)
 clear HO1033
 clear HO1037
 clear HO1041
 clear HO1046
 clear HO1049
 clear HO1053
 clear HO1056
 clear HO1060
 clear HO1063
 clear HI1030
 clear HB
 have HO1033 := n0_
 have HO1037 := n1_
 have HO1041 := n2_
 have HO1046 := n3_
 have HO1049 := n4_
 have HO1053 := n5_
 have HO1056 := n6_
 have HO1060 := n7_
 have HO1063 := n8_
 have HO1067 := n9_
 have HI1030 := n10_
 have HB := n11_
 clear n0_ n1_ n2_ n3_ n4_ n5_ n6_ n7_ n8_ n9_ n10_ n11_
 (try clear hb)
 (try clear hb2)
 (try clear hk)
 (try clear hi)
 (try clear ho0)
 obtain ⟨Ao68, co68, eo68⟩ := Kd.R_slice HO1067.out
 subst eo68
 go_wp2_with fail
 (with_reducible refine (l3_and.calls k _ _ t1031 _ _ t1065 t1068 _ ?side1 ?side2 ?side3 ?side4 A22.out).mono ?_)
 (case side1 => exact cX (Kd.R_reads' HO1033.out).2.2)
 (case side2 => exact (Kd.R_reads' HO1033.out).2.1)
 (case side3 => exact cX (Kd.R_reads' HO1067.out).2.2)
 (case side4 => exact (Kd.R_reads' HO1067.out).2.1)
 rintro e w69 ⟨v1069, rfl, ho0, hb⟩
 have n0_ := aK (Kd.R_elder' (rX HO1033.out) (Kd.R_base ho0) hb)
 have n1_ := aK (Kd.R_elder' (rX HO1037.out) (Kd.R_base ho0) hb)
 have n2_ := aK (Kd.R_elder' (rX HO1041.out) (Kd.R_base ho0) hb)
 have n3_ := aK (Kd.R_elder' (rX HO1046.out) (Kd.R_base ho0) hb)
 have n4_ := aK (Kd.R_elder' (rX HO1049.out) (Kd.R_base ho0) hb)
 have n5_ := aK (Kd.R_elder' (rX HO1053.out) (Kd.R_base ho0) hb)
 have n6_ := aK (Kd.R_elder' (rX HO1056.out) (Kd.R_base ho0) hb)
 have n7_ := aK (Kd.R_elder' (rX HO1060.out) (Kd.R_base ho0) hb)
 have n8_ := aK (Kd.R_elder' (rX HO1063.out) (Kd.R_base ho0) hb)
 have n9_ := aK (Kd.R_elder' (rX HO1067.out) (Kd.R_base ho0) hb)
 have n10_ := aK (Kd.R_lower (Kd.R_new' (Kd.R_new' (Kd.R_new' (Kd.R_new' (Kd.R_new' (Kd.R_new' (Kd.R_new' (Kd.R_new' (Kd.R_new' (Kd.R_new' ho0 (Kd.R_lt (rX HO1033.out))) (Kd.R_lt (rX HO1037.out))) (Kd.R_lt (rX HO1041.out))) (Kd.R_lt (rX HO1046.out))) (Kd.R_lt (rX HO1049.out))) (Kd.R_lt (rX HO1053.out))) (Kd.R_lt (rX HO1056.out))) (Kd.R_lt (rX HO1060.out))) (Kd.R_lt (rX HO1063.out))) (Kd.R_lt (rX HO1067.out))) (below_size (bS (IsS75.ge HI1030.out))))
 have n11_ := aK (IsS75.below (iX HI1030.out) hb)
 have n12_ := aK (below_step (bS (IsS75.ge HI1030.out)) hb)
 clear HO1033
 clear HO1037
 clear HO1041
 clear HO1046
 clear HO1049
 clear HO1053
 clear HO1056
 clear HO1060
 clear HO1063
 clear HO1067
 clear HI1030
 clear HB
 have HO1033 := n0_
 have HO1037 := n1_
 have HO1041 := n2_
 have HO1046 := n3_
 have HO1049 := n4_
 have HO1053 := n5_
 have HO1056 := n6_
 have HO1060 := n7_
 have HO1063 := n8_
 have HO1067 := n9_
 have HO1070 := n10_
 have HI1030 := n11_
 have HB := n12_
 clear n0_ n1_ n2_ n3_ n4_ n5_ n6_ n7_ n8_ n9_ n10_ n11_ n12_
 (try clear hb)
 (try clear hb2)
 (try clear hk)
 (try clear hi)
 (try clear ho0)
 go_wp2_with fail
 (with_reducible refine (l3_and.calls k _ _ t1031 _ _ t1035 t1071 _ ?side1 ?side2 ?side3 ?side4 A23.out).mono ?_)
 (case side1 => exact cX (Kd.R_reads' HO1033.out).2.2)
 (case side2 => exact (Kd.R_reads' HO1033.out).2.1)
 (case side3 => exact cX (Kd.R_reads' HO1037.out).2.2)
 (case side4 => exact (Kd.R_reads' HO1037.out).2.1)
 rintro e w70 ⟨v1072, rfl, ho0, hb⟩
 have n0_ := aK (Kd.R_elder' (rX HO1033.out) (Kd.R_base ho0) hb)
 have n1_ := aK (Kd.R_elder' (rX HO1037.out) (Kd.R_base ho0) hb)
 have n2_ := aK (Kd.R_elder' (rX HO1041.out) (Kd.R_base ho0) hb)
 have n3_ := aK (Kd.R_elder' (rX HO1046.out) (Kd.R_base ho0) hb)
 have n4_ := aK (Kd.R_elder' (rX HO1049.out) (Kd.R_base ho0) hb)
 have n5_ := aK (Kd.R_elder' (rX HO1053.out) (Kd.R_base ho0) hb)
 have n6_ := aK (Kd.R_elder' (rX HO1056.out) (Kd.R_base ho0) hb)
 have n7_ := aK (Kd.R_elder' (rX HO1060.out) (Kd.R_base ho0) hb)
 have n8_ := aK (Kd.R_elder' (rX HO1063.out) (Kd.R_base ho0) hb)
 have n9_ := aK (Kd.R_elder' (rX HO1067.out) (Kd.R_base ho0) hb)
 have n10_ := aK (Kd.R_elder' (rX HO1070.out) (Kd.R_base ho0) hb)
 have n11_ := aK (Kd.R_lower (Kd.R_new' (Kd.R_new' (Kd.R_new' (Kd.R_new' (Kd.R_new' (Kd.R_new' (Kd.R_new' (Kd.R_new' (Kd.R_new' (Kd.R_new' (Kd.R_new' ho0 (Kd.R_lt (rX HO1033.out))) (Kd.R_lt (rX HO1037.out))) (Kd.R_lt (rX HO1041.out))) (Kd.R_lt (rX HO1046.out))) (Kd.R_lt (rX HO1049.out))) (Kd.R_lt (rX HO1053.out))) (Kd.R_lt (rX HO1056.out))) (Kd.R_lt (rX HO1060.out))) (Kd.R_lt (rX HO1063.out))) (Kd.R_lt (rX HO1067.out))) (Kd.R_lt (rX HO1070.out))) (below_size (bS (IsS75.ge HI1030.out))))
 have n12_ := aK (IsS75.below (iX HI1030.out) hb)
 have n13_ := aK (below_step (bS (IsS75.ge HI1030.out)) hb)
 clear HO1033
 clear HO1037
 clear HO1041
 clear HO1046
 clear HO1049
 clear HO1053
 clear HO1056
 clear HO1060
 clear HO1063
 clear HO1067
 clear HO1070
 clear HI1030
 clear HB
 have HO1033 := n0_
 have HO1037 := n1_
 have HO1041 := n2_
 have HO1046 := n3_
 have HO1049 := n4_
 have HO1053 := n5_
 have HO1056 := n6_
 have HO1060 := n7_
 have HO1063 := n8_
 have HO1067 := n9_
 have HO1070 := n10_
 have HO1073 := n11_
 have HI1030 := n12_
 have HB := n13_
 clear n0_ n1_ n2_ n3_ n4_ n5_ n6_ n7_ n8_ n9_ n10_ n11_ n12_ n13_
 (try clear hb)
 (try clear hb2)
 (try clear hk)
 (try clear hi)
 (try clear ho0)
 go_wp2_with fail
 (with_reducible refine (l3_and.calls k _ _ t1031 _ _ t1039 t1074 _ ?side1 ?side2 ?side3 ?side4 A24.out).mono ?_)
 (case side1 => exact cX (Kd.R_reads' HO1033.out).2.2)
 (case side2 => exact (Kd.R_reads' HO1033.out).2.1)
 (case side3 => exact cX (Kd.R_reads' HO1041.out).2.2)
 (case side4 => exact (Kd.R_reads' HO1041.out).2.1)
 rintro e w71 ⟨v1075, rfl, ho0, hb⟩
 have n0_ := aK (Kd.R_elder' (rX HO1033.out) (Kd.R_base ho0) hb)
 have n1_ := aK (Kd.R_elder' (rX HO1037.out) (Kd.R_base ho0) hb)
 have n2_ := aK (Kd.R_elder' (rX HO1041.out) (Kd.R_base ho0) hb)
 have n3_ := aK (Kd.R_elder' (rX HO1046.out) (Kd.R_base ho0) hb)
 have n4_ := aK (Kd.R_elder' (rX HO1049.out) (Kd.R_base ho0) hb)
 have n5_ := aK (Kd.R_elder' (rX HO1053.out) (Kd.R_base ho0) hb)
 have n6_ := aK (Kd.R_elder' (rX HO1056.out) (Kd.R_base ho0) hb)
 have n7_ := aK (Kd.R_elder' (rX HO1060.out) (Kd.R_base ho0) hb)
 have n8_ := aK (Kd.R_elder' (rX HO1063.out) (Kd.R_base ho0) hb)
 have n9_ := aK (Kd.R_elder' (rX HO1067.out) (Kd.R_base ho0) hb)
 have n10_ := aK (Kd.R_elder' (rX HO1070.out) (Kd.R_base ho0) hb)
 have n11_ := aK (Kd.R_elder' (rX HO1073.out) (Kd.R_base ho0) hb)
 have n12_ := aK (Kd.R_lower (Kd.R_new' (Kd.R_new' (Kd.R_new' (Kd.R_new' (Kd.R_new' (Kd.R_new' (Kd.R_new' (Kd.R_new' (Kd.R_new' (Kd.R_new' (Kd.R_new' (Kd.R_new' ho0 (Kd.R_lt (rX HO1033.out))) (Kd.R_lt (rX HO1037.out))) (Kd.R_lt (rX HO1041.out))) (Kd.R_lt (rX HO1046.out))) (Kd.R_lt (rX HO1049.out))) (Kd.R_lt (rX HO1053.out))) (Kd.R_lt (rX HO1056.out))) (Kd.R_lt (rX HO1060.out))) (Kd.R_lt (rX HO1063.out))) (Kd.R_lt (rX HO1067.out))) (Kd.R_lt (rX HO1070.out))) (Kd.R_lt (rX HO1073.out))) (below_size (bS (IsS75.ge HI1030.out))))
 have n13_ := aK (IsS75.below (iX HI1030.out) hb)
 have n14_ := aK (below_step (bS (IsS75.ge HI1030.out)) hb)
 clear HO1033
 clear HO1037
 clear HO1041
 clear HO1046
 clear HO1049
 clear HO1053
 clear HO1056
 clear HO1060
 clear HO1063
 clear HO1067
 clear HO1070
 clear HO1073
 clear HI1030
 clear HB
 have HO1033 := n0_
 have HO1037 := n1_
 have HO1041 := n2_
 have HO1046 := n3_
 have HO1049 := n4_
 have HO1053 := n5_
 have HO1056 := n6_
 have HO1060 := n7_
 have HO1063 := n8_
 have HO1067 := n9_
 have HO1070 := n10_
 have HO1073 := n11_
 have HO1076 := n12_
 have HI1030 := n13_
 have HB := n14_
 clear n0_ n1_ n2_ n3_ n4_ n5_ n6_ n7_ n8_ n9_ n10_ n11_ n12_ n13_ n14_
 (try clear hb)
 (try clear hb2)
 (try clear hk)
 (try clear hi)
 (try clear ho0)
 obtain ⟨Ao72, co72, eo72⟩ := Kd.R_slice HO1073.out
 subst eo72
 obtain ⟨Ao73, co73, eo73⟩ := Kd.R_slice HO1076.out
 subst eo73
 go_wp2_with fail
 (with_reducible refine (l3_or.calls k _ _ t1071 _ _ t1074 t1077 _ ?side1 ?side2 ?side3 ?side4 A25.out).mono ?_)
 (case side1 => exact cX (Kd.R_reads' HO1073.out).2.2)
 (case side2 => exact (Kd.R_reads' HO1073.out).2.1)
 (case side3 => exact cX (Kd.R_reads' HO1076.out).2.2)
 (case side4 => exact (Kd.R_reads' HO1076.out).2.1)
 rintro e w74 ⟨v1078, rfl, ho0, hb⟩
 have n0_ := aK (Kd.R_elder' (rX HO1033.out) (Kd.R_base ho0) hb)
 have n1_ := aK (Kd.R_elder' (rX HO1037.out) (Kd.R_base ho0) hb)
 have n2_ := aK (Kd.R_elder' (rX HO1041.out) (Kd.R_base ho0) hb)
 have n3_ := aK (Kd.R_elder' (rX HO1046.out) (Kd.R_base ho0) hb)
 have n4_ := aK (Kd.R_elder' (rX HO1049.out) (Kd.R_base ho0) hb)
 have n5_ := aK (Kd.R_elder' (rX HO1053.out) (Kd.R_base ho0) hb)
 have n6_ := aK (Kd.R_elder' (rX HO1056.out) (Kd.R_base ho0) hb)
 have n7_ := aK (Kd.R_elder' (rX HO1060.out) (Kd.R_base ho0) hb)
 have n8_ := aK (Kd.R_elder' (rX HO1063.out) (Kd.R_base ho0) hb)
 have n9_ := aK (Kd.R_elder' (rX HO1067.out) (Kd.R_base ho0) hb)
 have n10_ := aK (Kd.R_elder' (rX HO1070.out) (Kd.R_base ho0) hb)
 have n11_ := aK (Kd.R_elder' (rX HO1073.out) (Kd.R_base ho0) hb)
 have n12_ := aK (Kd.R_elder' (rX HO1076.out) (Kd.R_base ho0) hb)
 have n13_ := aK (Kd.R_lower (Kd.R_new' (Kd.R_new' (Kd.R_new' (Kd.R_new' (Kd.R_new' (Kd.R_new' (Kd.R_new' (Kd.R_new' (Kd.R_new' (Kd.R_new' (Kd.R_new' (Kd.R_new' (Kd.R_new' ho0 (Kd.R_lt (rX HO1033.out))) (Kd.R_lt (rX HO1037.out))) (Kd.R_lt (rX HO1041.out))) (Kd.R_lt (rX HO1046.out))) (Kd.R_lt (rX HO1049.out))) (Kd.R_lt (rX HO1053.out))) (Kd.R_lt (rX HO1056.out))) (Kd.R_lt (rX HO1060.out))) (Kd.R_lt (rX HO1063.out))) (Kd.R_lt (rX HO1067.out))) (Kd.R_lt (rX HO1070.out))) (Kd.R_lt (rX HO1073.out))) (Kd.R_lt (rX HO1076.out))) (below_size (bS (IsS75.ge HI1030.out))))
 have n14_ := aK (IsS75.below (iX HI1030.out) hb)
 have n15_ := aK (below_step (bS (IsS75.ge HI1030.out)) hb)
 clear HO1033
 clear HO1037
 clear HO1041
 clear HO1046
 clear HO1049
 clear HO1053
 clear HO1056
 clear HO1060
 clear HO1063
 clear HO1067
 clear HO1070
 clear HO1073
 clear HO1076
 clear HI1030
 clear HB
 have HO1033 := n0_
 have HO1037 := n1_
 have HO1041 := n2_
 have HO1046 := n3_
 have HO1049 := n4_
 have HO1053 := n5_
 have HO1056 := n6_
 have HO1060 := n7_
 have HO1063 := n8_
 have HO1067 := n9_
 have HO1070 := n10_
 have HO1073 := n11_
 have HO1076 := n12_
 have HO1079 := n13_
 have HI1030 := n14_
 have HB := n15_
 clear n0_ n1_ n2_ n3_ n4_ n5_ n6_ n7_ n8_ n9_ n10_ n11_ n12_ n13_ n14_ n15_
 (try clear hb)
 (try clear hb2)
 (try clear hk)
 (try clear hi)
 (try clear ho0)
 obtain ⟨Ao75, co75, eo75⟩ := Kd.R_slice HO1070.out
 subst eo75
 obtain ⟨Ao76, co76, eo76⟩ := Kd.R_slice HO1079.out
 subst eo76
 go_wp2_with fail
 (with_reducible refine (r3_Same.calls k _ _ t1068 _ _ t1077 true _ ?side1 ?side2 ?side3 ?side4 A26.out).mono ?_)
 (case side1 => exact cX (Kd.R_reads' HO1070.out).2.2)
 (case side2 => exact (Kd.R_reads' HO1070.out).2.1)
 (case side3 => exact cX (Kd.R_reads' HO1079.out).2.2)
 (case side4 => exact (Kd.R_reads' HO1079.out).2.1)
 rintro e w' ⟨rfl, ⟨nd, rfl⟩⟩
 go_wp2_with fail
 (with_reducible refine (l3_or.calls k _ _ t1031 _ _ t1035 t1081 _ ?side1 ?side2 ?side3 ?side4 A28.out).mono ?_)
 (case side1 => exact cX (Kd.R_reads' HO1033.out).2.2)
 (case side2 => exact (Kd.R_reads' HO1033.out).2.1)
 (case side3 => exact cX (Kd.R_reads' HO1037.out).2.2)
 (case side4 => exact (Kd.R_reads' HO1037.out).2.1)
 rintro e w77 ⟨v1082, rfl, ho0, hb⟩
 have n0_ := aK (Kd.R_elder' (rX HO1033.out) (Kd.R_base ho0) hb)
 have n1_ := aK (Kd.R_elder' (rX HO1037.out) (Kd.R_base ho0) hb)
 have n2_ := aK (Kd.R_elder' (rX HO1041.out) (Kd.R_base ho0) hb)
 have n3_ := aK (Kd.R_elder' (rX HO1046.out) (Kd.R_base ho0) hb)
 have n4_ := aK (Kd.R_elder' (rX HO1049.out) (Kd.R_base ho0) hb)
 have n5_ := aK (Kd.R_elder' (rX HO1053.out) (Kd.R_base ho0) hb)
 have n6_ := aK (Kd.R_elder' (rX HO1056.out) (Kd.R_base ho0) hb)
 have n7_ := aK (Kd.R_elder' (rX HO1060.out) (Kd.R_base ho0) hb)
 have n8_ := aK (Kd.R_elder' (rX HO1063.out) (Kd.R_base ho0) hb)
 have n9_ := aK (Kd.R_elder' (rX HO1067.out) (Kd.R_base ho0) hb)
 have n10_ := aK (Kd.R_elder' (rX HO1070.out) (Kd.R_base ho0) hb)
 have n11_ := aK (Kd.R_elder' (rX HO1073.out) (Kd.R_base ho0) hb)
 have n12_ := aK (Kd.R_elder' (rX HO1076.out) (Kd.R_base ho0) hb)
 have n13_ := aK (Kd.R_elder' (rX HO1079.out) (Kd.R_base ho0) hb)
 have n14_ := aK (Kd.R_lower (Kd.R_new' (Kd.R_new' (Kd.R_new' (Kd.R_new' (Kd.R_new' (Kd.R_new' (Kd.R_new' (Kd.R_new' (Kd.R_new' (Kd.R_new' (Kd.R_new' (Kd.R_new' (Kd.R_new' (Kd.R_new' ho0 (Kd.R_lt (rX HO1033.out))) (Kd.R_lt (rX HO1037.out))) (Kd.R_lt (rX HO1041.out))) (Kd.R_lt (rX HO1046.out))) (Kd.R_lt (rX HO1049.out))) (Kd.R_lt (rX HO1053.out))) (Kd.R_lt (rX HO1056.out))) (Kd.R_lt (rX HO1060.out))) (Kd.R_lt (rX HO1063.out))) (Kd.R_lt (rX HO1067.out))) (Kd.R_lt (rX HO1070.out))) (Kd.R_lt (rX HO1073.out))) (Kd.R_lt (rX HO1076.out))) (Kd.R_lt (rX HO1079.out))) (below_size (bS (IsS75.ge HI1030.out))))
 have n15_ := aK (IsS75.below (iX HI1030.out) hb)
 have n16_ := aK (below_step (bS (IsS75.ge HI1030.out)) hb)
 clear HO1033
 clear HO1037
 clear HO1041
 clear HO1046
 clear HO1049
 clear HO1053
 clear HO1056
 clear HO1060
 clear HO1063
 clear HO1067
 clear HO1070
 clear HO1073
 clear HO1076
 clear HO1079
 clear HI1030
 clear HB
 have HO1033 := n0_
 have HO1037 := n1_
 have HO1041 := n2_
 have HO1046 := n3_
 have HO1049 := n4_
 have HO1053 := n5_
 have HO1056 := n6_
 have HO1060 := n7_
 have HO1063 := n8_
 have HO1067 := n9_
 have HO1070 := n10_
 have HO1073 := n11_
 have HO1076 := n12_
 have HO1079 := n13_
 have HO1083 := n14_
 have HI1030 := n15_
 have HB := n16_
 clear n0_ n1_ n2_ n3_ n4_ n5_ n6_ n7_ n8_ n9_ n10_ n11_ n12_ n13_ n14_ n15_ n16_
 (try clear hb)
 (try clear hb2)
 (try clear hk)
 (try clear hi)
 (try clear ho0)
 obtain ⟨Ao78, co78, eo78⟩ := Kd.R_slice HO1083.out
 subst eo78
 go_wp2_with fail
 (with_reducible refine (l3_not.calls k _ _ t1081 t1084 _ ?side1 ?side2 A29.out).mono ?_)
 (case side1 => exact cX (Kd.R_reads' HO1083.out).2.2)
 (case side2 => exact (Kd.R_reads' HO1083.out).2.1)
 rintro e w79 ⟨v1085, rfl, ho0, hb⟩
 have n0_ := aK (Kd.R_elder' (rX HO1033.out) (Kd.R_base ho0) hb)
 have n1_ := aK (Kd.R_elder' (rX HO1037.out) (Kd.R_base ho0) hb)
 have n2_ := aK (Kd.R_elder' (rX HO1041.out) (Kd.R_base ho0) hb)
 have n3_ := aK (Kd.R_elder' (rX HO1046.out) (Kd.R_base ho0) hb)
 have n4_ := aK (Kd.R_elder' (rX HO1049.out) (Kd.R_base ho0) hb)
 have n5_ := aK (Kd.R_elder' (rX HO1053.out) (Kd.R_base ho0) hb)
 have n6_ := aK (Kd.R_elder' (rX HO1056.out) (Kd.R_base ho0) hb)
 have n7_ := aK (Kd.R_elder' (rX HO1060.out) (Kd.R_base ho0) hb)
 have n8_ := aK (Kd.R_elder' (rX HO1063.out) (Kd.R_base ho0) hb)
 have n9_ := aK (Kd.R_elder' (rX HO1067.out) (Kd.R_base ho0) hb)
 have n10_ := aK (Kd.R_elder' (rX HO1070.out) (Kd.R_base ho0) hb)
 have n11_ := aK (Kd.R_elder' (rX HO1073.out) (Kd.R_base ho0) hb)
 have n12_ := aK (Kd.R_elder' (rX HO1076.out) (Kd.R_base ho0) hb)
 have n13_ := aK (Kd.R_elder' (rX HO1079.out) (Kd.R_base ho0) hb)
 have n14_ := aK (Kd.R_elder' (rX HO1083.out) (Kd.R_base ho0) hb)
 have n15_ := aK (Kd.R_lower (Kd.R_new' (Kd.R_new' (Kd.R_new' (Kd.R_new' (Kd.R_new' (Kd.R_new' (Kd.R_new' (Kd.R_new' (Kd.R_new' (Kd.R_new' (Kd.R_new' (Kd.R_new' (Kd.R_new' (Kd.R_new' (Kd.R_new' ho0 (Kd.R_lt (rX HO1033.out))) (Kd.R_lt (rX HO1037.out))) (Kd.R_lt (rX HO1041.out))) (Kd.R_lt (rX HO1046.out))) (Kd.R_lt (rX HO1049.out))) (Kd.R_lt (rX HO1053.out))) (Kd.R_lt (rX HO1056.out))) (Kd.R_lt (rX HO1060.out))) (Kd.R_lt (rX HO1063.out))) (Kd.R_lt (rX HO1067.out))) (Kd.R_lt (rX HO1070.out))) (Kd.R_lt (rX HO1073.out))) (Kd.R_lt (rX HO1076.out))) (Kd.R_lt (rX HO1079.out))) (Kd.R_lt (rX HO1083.out))) (below_size (bS (IsS75.ge HI1030.out))))
 have n16_ := aK (IsS75.below (iX HI1030.out) hb)
 have n17_ := aK (below_step (bS (IsS75.ge HI1030.out)) hb)
 clear HO1033
 clear HO1037
 clear HO1041
 clear HO1046
 clear HO1049
 clear HO1053
 clear HO1056
 clear HO1060
 clear HO1063
 clear HO1067
 clear HO1070
 clear HO1073
 clear HO1076
 clear HO1079
 clear HO1083
 clear HI1030
 clear HB
 have HO1033 := n0_
 have HO1037 := n1_
 have HO1041 := n2_
 have HO1046 := n3_
 have HO1049 := n4_
 have HO1053 := n5_
 have HO1056 := n6_
 have HO1060 := n7_
 have HO1063 := n8_
 have HO1067 := n9_
 have HO1070 := n10_
 have HO1073 := n11_
 have HO1076 := n12_
 have HO1079 := n13_
 have HO1083 := n14_
 have HO1086 := n15_
 have HI1030 := n16_
 have HB := n17_
 clear n0_ n1_ n2_ n3_ n4_ n5_ n6_ n7_ n8_ n9_ n10_ n11_ n12_ n13_ n14_ n15_ n16_ n17_
 (try clear hb)
 (try clear hb2)
 (try clear hk)
 (try clear hi)
 (try clear ho0)
 go_wp2_with fail
 (with_reducible refine (l3_not.calls k _ _ t1031 t1087 _ ?side1 ?side2 A30.out).mono ?_)
 (case side1 => exact cX (Kd.R_reads' HO1033.out).2.2)
 (case side2 => exact (Kd.R_reads' HO1033.out).2.1)
 rintro e w80 ⟨v1088, rfl, ho0, hb⟩
 have n0_ := aK (Kd.R_elder' (rX HO1033.out) (Kd.R_base ho0) hb)
 have n1_ := aK (Kd.R_elder' (rX HO1037.out) (Kd.R_base ho0) hb)
 have n2_ := aK (Kd.R_elder' (rX HO1041.out) (Kd.R_base ho0) hb)
 have n3_ := aK (Kd.R_elder' (rX HO1046.out) (Kd.R_base ho0) hb)
 have n4_ := aK (Kd.R_elder' (rX HO1049.out) (Kd.R_base ho0) hb)
 have n5_ := aK (Kd.R_elder' (rX HO1053.out) (Kd.R_base ho0) hb)
 have n6_ := aK (Kd.R_elder' (rX HO1056.out) (Kd.R_base ho0) hb)
 have n7_ := aK (Kd.R_elder' (rX HO1060.out) (Kd.R_base ho0) hb)
 have n8_ := aK (Kd.R_elder' (rX HO1063.out) (Kd.R_base ho0) hb)
 have n9_ := aK (Kd.R_elder' (rX HO1067.out) (Kd.R_base ho0) hb)
 have n10_ := aK (Kd.R_elder' (rX HO1070.out) (Kd.R_base ho0) hb)
 have n11_ := aK (Kd.R_elder' (rX HO1073.out) (Kd.R_base ho0) hb)
 have n12_ := aK (Kd.R_elder' (rX HO1076.out) (Kd.R_base ho0) hb)
 have n13_ := aK (Kd.R_elder' (rX HO1079.out) (Kd.R_base ho0) hb)
 have n14_ := aK (Kd.R_elder' (rX HO1083.out) (Kd.R_base ho0) hb)
 have n15_ := aK (Kd.R_elder' (rX HO1086.out) (Kd.R_base ho0) hb)
 have n16_ := aK (Kd.R_lower (Kd.R_new' (Kd.R_new' (Kd.R_new' (Kd.R_new' (Kd.R_new' (Kd.R_new' (Kd.R_new' (Kd.R_new' (Kd.R_new' (Kd.R_new' (Kd.R_new' (Kd.R_new' (Kd.R_new' (Kd.R_new' (Kd.R_new' (Kd.R_new' ho0 (Kd.R_lt (rX HO1033.out))) (Kd.R_lt (rX HO1037.out))) (Kd.R_lt (rX HO1041.out))) (Kd.R_lt (rX HO1046.out))) (Kd.R_lt (rX HO1049.out))) (Kd.R_lt (rX HO1053.out))) (Kd.R_lt (rX HO1056.out))) (Kd.R_lt (rX HO1060.out))) (Kd.R_lt (rX HO1063.out))) (Kd.R_lt (rX HO1067.out))) (Kd.R_lt (rX HO1070.out))) (Kd.R_lt (rX HO1073.out))) (Kd.R_lt (rX HO1076.out))) (Kd.R_lt (rX HO1079.out))) (Kd.R_lt (rX HO1083.out))) (Kd.R_lt (rX HO1086.out))) (below_size (bS (IsS75.ge HI1030.out))))
 have n17_ := aK (IsS75.below (iX HI1030.out) hb)
 have n18_ := aK (below_step (bS (IsS75.ge HI1030.out)) hb)
 clear HO1033
 clear HO1037
 clear HO1041
 clear HO1046
 clear HO1049
 clear HO1053
 clear HO1056
 clear HO1060
 clear HO1063
 clear HO1067
 clear HO1070
 clear HO1073
 clear HO1076
 clear HO1079
 clear HO1083
 clear HO1086
 clear HI1030
 clear HB
 have HO1033 := n0_
 have HO1037 := n1_
 have HO1041 := n2_
 have HO1046 := n3_
 have HO1049 := n4_
 have HO1053 := n5_
 have HO1056 := n6_
 have HO1060 := n7_
 have HO1063 := n8_
 have HO1067 := n9_
 have HO1070 := n10_
 have HO1073 := n11_
 have HO1076 := n12_
 have HO1079 := n13_
 have HO1083 := n14_
 have HO1086 := n15_
 have HO1089 := n16_
 have HI1030 := n17_
 have HB := n18_
 clear n0_ n1_ n2_ n3_ n4_ n5_ n6_ n7_ n8_ n9_ n10_ n11_ n12_ n13_ n14_ n15_ n16_ n17_ n18_
 (try clear hb)
 (try clear hb2)
 (try clear hk)
 (try clear hi)
 (try clear ho0)
 go_wp2_with fail
 (with_reducible refine (l3_not.calls k _ _ t1035 t1090 _ ?side1 ?side2 A31.out).mono ?_)
 (case side1 => exact cX (Kd.R_reads' HO1037.out).2.2)
 (case side2 => exact (Kd.R_reads' HO1037.out).2.1)
 rintro e w81 ⟨v1091, rfl, ho0, hb⟩
 have n0_ := aK (Kd.R_elder' (rX HO1033.out) (Kd.R_base ho0) hb)
 have n1_ := aK (Kd.R_elder' (rX HO1037.out) (Kd.R_base ho0) hb)
 have n2_ := aK (Kd.R_elder' (rX HO1041.out) (Kd.R_base ho0) hb)
 have n3_ := aK (Kd.R_elder' (rX HO1046.out) (Kd.R_base ho0) hb)
 have n4_ := aK (Kd.R_elder' (rX HO1049.out) (Kd.R_base ho0) hb)
 have n5_ := aK (Kd.R_elder' (rX HO1053.out) (Kd.R_base ho0) hb)
 have n6_ := aK (Kd.R_elder' (rX HO1056.out) (Kd.R_base ho0) hb)
 have n7_ := aK (Kd.R_elder' (rX HO1060.out) (Kd.R_base ho0) hb)
 have n8_ := aK (Kd.R_elder' (rX HO1063.out) (Kd.R_base ho0) hb)
 have n9_ := aK (Kd.R_elder' (rX HO1067.out) (Kd.R_base ho0) hb)
 have n10_ := aK (Kd.R_elder' (rX HO1070.out) (Kd.R_base ho0) hb)
 have n11_ := aK (Kd.R_elder' (rX HO1073.out) (Kd.R_base ho0) hb)
 have n12_ := aK (Kd.R_elder' (rX HO1076.out) (Kd.R_base ho0) hb)
 have n13_ := aK (Kd.R_elder' (rX HO1079.out) (Kd.R_base ho0) hb)
 have n14_ := aK (Kd.R_elder' (rX HO1083.out) (Kd.R_base ho0) hb)
 have n15_ := aK (Kd.R_elder' (rX HO1086.out) (Kd.R_base ho0) hb)
 have n16_ := aK (Kd.R_elder' (rX HO1089.out) (Kd.R_base ho0) hb)
 have n17_ := aK (Kd.R_lower (Kd.R_new' (Kd.R_new' (Kd.R_new' (Kd.R_new' (Kd.R_new' (Kd.R_new' (Kd.R_new' (Kd.R_new' (Kd.R_new' (Kd.R_new' (Kd.R_new' (Kd.R_new' (Kd.R_new' (Kd.R_new' (Kd.R_new' (Kd.R_new' (Kd.R_new' ho0 (Kd.R_lt (rX HO1033.out))) (Kd.R_lt (rX HO1037.out))) (Kd.R_lt (rX HO1041.out))) (Kd.R_lt (rX HO1046.out))) (Kd.R_lt (rX HO1049.out))) (Kd.R_lt (rX HO1053.out))) (Kd.R_lt (rX HO1056.out))) (Kd.R_lt (rX HO1060.out))) (Kd.R_lt (rX HO1063.out))) (Kd.R_lt (rX HO1067.out))) (Kd.R_lt (rX HO1070.out))) (Kd.R_lt (rX HO1073.out))) (Kd.R_lt (rX HO1076.out))) (Kd.R_lt (rX HO1079.out))) (Kd.R_lt (rX HO1083.out))) (Kd.R_lt (rX HO1086.out))) (Kd.R_lt (rX HO1089.out))) (below_size (bS (IsS75.ge HI1030.out))))
 have n18_ := aK (IsS75.below (iX HI1030.out) hb)
 have n19_ := aK (below_step (bS (IsS75.ge HI1030.out)) hb)
 clear HO1033
 clear HO1037
 clear HO1041
 clear HO1046
 clear HO1049
 clear HO1053
 clear HO1056
 clear HO1060
 clear HO1063
 clear HO1067
 clear HO1070
 clear HO1073
 clear HO1076
 clear HO1079
 clear HO1083
 clear HO1086
 clear HO1089
 clear HI1030
 clear HB
 have HO1033 := n0_
 have HO1037 := n1_
 have HO1041 := n2_
 have HO1046 := n3_
 have HO1049 := n4_
 have HO1053 := n5_
 have HO1056 := n6_
 have HO1060 := n7_
 have HO1063 := n8_
 have HO1067 := n9_
 have HO1070 := n10_
 have HO1073 := n11_
 have HO1076 := n12_
 have HO1079 := n13_
 have HO1083 := n14_
 have HO1086 := n15_
 have HO1089 := n16_
 have HO1092 := n17_
 have HI1030 := n18_
 have HB := n19_
 clear n0_ n1_ n2_ n3_ n4_ n5_ n6_ n7_ n8_ n9_ n10_ n11_ n12_ n13_ n14_ n15_ n16_ n17_ n18_ n19_
 (try clear hb)
 (try clear hb2)
 (try clear hk)
 (try clear hi)
 (try clear ho0)
 obtain ⟨Ao82, co82, eo82⟩ := Kd.R_slice HO1089.out
 subst eo82
 obtain ⟨Ao83, co83, eo83⟩ := Kd.R_slice HO1092.out
 subst eo83
 go_wp2_with fail
 (with_reducible refine (l3_and.calls k _ _ t1087 _ _ t1090 t1093 _ ?side1 ?side2 ?side3 ?side4 A32.out).mono ?_)
 (case side1 => exact cX (Kd.R_reads' HO1089.out).2.2)
 (case side2 => exact (Kd.R_reads' HO1089.out).2.1)
 (case side3 => exact cX (Kd.R_reads' HO1092.out).2.2)
 (case side4 => exact (Kd.R_reads' HO1092.out).2.1)
 rintro e w84 ⟨v1094, rfl, ho0, hb⟩
 have n0_ := aK (Kd.R_elder' (rX HO1033.out) (Kd.R_base ho0) hb)
 have n1_ := aK (Kd.R_elder' (rX HO1037.out) (Kd.R_base ho0) hb)
 have n2_ := aK (Kd.R_elder' (rX HO1041.out) (Kd.R_base ho0) hb)
 have n3_ := aK (Kd.R_elder' (rX HO1046.out) (Kd.R_base ho0) hb)
 have n4_ := aK (Kd.R_elder' (rX HO1049.out) (Kd.R_base ho0) hb)
 have n5_ := aK (Kd.R_elder' (rX HO1053.out) (Kd.R_base ho0) hb)
 have n6_ := aK (Kd.R_elder' (rX HO1056.out) (Kd.R_base ho0) hb)
 have n7_ := aK (Kd.R_elder' (rX HO1060.out) (Kd.R_base ho0) hb)
 have n8_ := aK (Kd.R_elder' (rX HO1063.out) (Kd.R_base ho0) hb)
 have n9_ := aK (Kd.R_elder' (rX HO1067.out) (Kd.R_base ho0) hb)
 have n10_ := aK (Kd.R_elder' (rX HO1070.out) (Kd.R_base ho0) hb)
 have n11_ := aK (Kd.R_elder' (rX HO1073.out) (Kd.R_base ho0) hb)
 have n12_ := aK (Kd.R_elder' (rX HO1076.out) (Kd.R_base ho0) hb)
 have n13_ := aK (Kd.R_elder' (rX HO1079.out) (Kd.R_base ho0) hb)
 have n14_ := aK (Kd.R_elder' (rX HO1083.out) (Kd.R_base ho0) hb)
 have n15_ := aK (Kd.R_elder' (rX HO1086.out) (Kd.R_base ho0) hb)
 have n16_ := aK (Kd.R_elder' (rX HO1089.out) (Kd.R_base ho0) hb)
 have n17_ := aK (Kd.R_elder' (rX HO1092.out) (Kd.R_base ho0) hb)
 have n18_ := aK (Kd.R_lower (Kd.R_new' (Kd.R_new' (Kd.R_new' (Kd.R_new' (Kd.R_new' (Kd.R_new' (Kd.R_new' (Kd.R_new' (Kd.R_new' (Kd.R_new' (Kd.R_new' (Kd.R_new' (Kd.R_new' (Kd.R_new' (Kd.R_new' (Kd.R_new' (Kd.R_new' (Kd.R_new' ho0 (Kd.R_lt (rX HO1033.out))) (Kd.R_lt (rX HO1037.out))) (Kd.R_lt (rX HO1041.out))) (Kd.R_lt (rX HO1046.out))) (Kd.R_lt (rX HO1049.out))) (Kd.R_lt (rX HO1053.out))) (Kd.R_lt (rX HO1056.out))) (Kd.R_lt (rX HO1060.out))) (Kd.R_lt (rX HO1063.out))) (Kd.R_lt (rX HO1067.out))) (Kd.R_lt (rX HO1070.out))) (Kd.R_lt (rX HO1073.out))) (Kd.R_lt (rX HO1076.out))) (Kd.R_lt (rX HO1079.out))) (Kd.R_lt (rX HO1083.out))) (Kd.R_lt (rX HO1086.out))) (Kd.R_lt (rX HO1089.out))) (Kd.R_lt (rX HO1092.out))) (below_size (bS (IsS75.ge HI1030.out))))
 have n19_ := aK (IsS75.below (iX HI1030.out) hb)
 have n20_ := aK (below_step (bS (IsS75.ge HI1030.out)) hb)
 clear HO1033
 clear HO1037
 clear HO1041
 clear HO1046
 clear HO1049
 clear HO1053
 clear HO1056
 clear HO1060
 clear HO1063
 clear HO1067
 clear HO1070
 clear HO1073
 clear HO1076
 clear HO1079
 clear HO1083
 clear HO1086
 clear HO1089
 clear HO1092
 clear HI1030
 clear HB
 have HO1033 := n0_
 have HO1037 := n1_
 have HO1041 := n2_
 have HO1046 := n3_
 have HO1049 := n4_
 have HO1053 := n5_
 have HO1056 := n6_
 have HO1060 := n7_
 have HO1063 := n8_
 have HO1067 := n9_
 have HO1070 := n10_
 have HO1073 := n11_
 have HO1076 := n12_
 have HO1079 := n13_
 have HO1083 := n14_
 have HO1086 := n15_
 have HO1089 := n16_
 have HO1092 := n17_
 have HO1095 := n18_
 have HI1030 := n19_
 have HB := n20_
 clear n0_ n1_ n2_ n3_ n4_ n5_ n6_ n7_ n8_ n9_ n10_ n11_ n12_ n13_ n14_ n15_ n16_ n17_ n18_ n19_ n20_
 (try clear hb)
 (try clear hb2)
 (try clear hk)
 (try clear hi)
 (try clear ho0)
 obtain ⟨Ao85, co85, eo85⟩ := Kd.R_slice HO1086.out
 subst eo85
 obtain ⟨Ao86, co86, eo86⟩ := Kd.R_slice HO1095.out
 subst eo86
 go_wp2_with fail
 (with_reducible refine (r3_Same.calls k _ _ t1084 _ _ t1093 true _ ?side1 ?side2 ?side3 ?side4 A33.out).mono ?_)
 (case side1 => exact cX (Kd.R_reads' HO1086.out).2.2)
 (case side2 => exact (Kd.R_reads' HO1086.out).2.1)
 (case side3 => exact cX (Kd.R_reads' HO1095.out).2.2)
 (case side4 => exact (Kd.R_reads' HO1095.out).2.1)
 rintro e w' ⟨rfl, ⟨nd, rfl⟩⟩
 go_wp2_with fail
 (with_reducible refine (l3_not.calls k _ _ t1031 t1097 _ ?side1 ?side2 A35.out).mono ?_)
 (case side1 => exact cX (Kd.R_reads' HO1033.out).2.2)
 (case side2 => exact (Kd.R_reads' HO1033.out).2.1)
 rintro e w87 ⟨v1098, rfl, ho0, hb⟩
 have n0_ := aK (Kd.R_elder' (rX HO1033.out) (Kd.R_base ho0) hb)
 have n1_ := aK (Kd.R_elder' (rX HO1037.out) (Kd.R_base ho0) hb)
 have n2_ := aK (Kd.R_elder' (rX HO1041.out) (Kd.R_base ho0) hb)
 have n3_ := aK (Kd.R_elder' (rX HO1046.out) (Kd.R_base ho0) hb)
 have n4_ := aK (Kd.R_elder' (rX HO1049.out) (Kd.R_base ho0) hb)
 have n5_ := aK (Kd.R_elder' (rX HO1053.out) (Kd.R_base ho0) hb)
 have n6_ := aK (Kd.R_elder' (rX HO1056.out) (Kd.R_base ho0) hb)
 have n7_ := aK (Kd.R_elder' (rX HO1060.out) (Kd.R_base ho0) hb)
 have n8_ := aK (Kd.R_elder' (rX HO1063.out) (Kd.R_base ho0) hb)
 have n9_ := aK (Kd.R_elder' (rX HO1067.out) (Kd.R_base ho0) hb)
 have n10_ := aK (Kd.R_elder' (rX HO1070.out) (Kd.R_base ho0) hb)
 have n11_ := aK (Kd.R_elder' (rX HO1073.out) (Kd.R_base ho0) hb)
 have n12_ := aK (Kd.R_elder' (rX HO1076.out) (Kd.R_base ho0) hb)
 have n13_ := aK (Kd.R_elder' (rX HO1079.out) (Kd.R_base ho0) hb)
 have n14_ := aK (Kd.R_elder' (rX HO1083.out) (Kd.R_base ho0) hb)
 have n15_ := aK (Kd.R_elder' (rX HO1086.out) (Kd.R_base ho0) hb)
 have n16_ := aK (Kd.R_elder' (rX HO1089.out) (Kd.R_base ho0) hb)
 have n17_ := aK (Kd.R_elder' (rX HO1092.out) (Kd.R_base ho0) hb)
 have n18_ := aK (Kd.R_elder' (rX HO1095.out) (Kd.R_base ho0) hb)
 have n19_ := aK (Kd.R_lower (Kd.R_new' (Kd.R_new' (Kd.R_new' (Kd.R_new' (Kd.R_new' (Kd.R_new' (Kd.R_new' (Kd.R_new' (Kd.R_new' (Kd.R_new' (Kd.R_new' (Kd.R_new' (Kd.R_new' (Kd.R_new' (Kd.R_new' (Kd.R_new' (Kd.R_new' (Kd.R_new' (Kd.R_new' ho0 (Kd.R_lt (rX HO1033.out))) (Kd.R_lt (rX HO1037.out))) (Kd.R_lt (rX HO1041.out))) (Kd.R_lt (rX HO1046.out))) (Kd.R_lt (rX HO1049.out))) (Kd.R_lt (rX HO1053.out))) (Kd.R_lt (rX HO1056.out))) (Kd.R_lt (rX HO1060.out))) (Kd.R_lt (rX HO1063.out))) (Kd.R_lt (rX HO1067.out))) (Kd.R_lt (rX HO1070.out))) (Kd.R_lt (rX HO1073.out))) (Kd.R_lt (rX HO1076.out))) (Kd.R_lt (rX HO1079.out))) (Kd.R_lt (rX HO1083.out))) (Kd.R_lt (rX HO1086.out))) (Kd.R_lt (rX HO1089.out))) (Kd.R_lt (rX HO1092.out))) (Kd.R_lt (rX HO1095.out))) (below_size (bS (IsS75.ge HI1030.out))))
 have n20_ := aK (IsS75.below (iX HI1030.out) hb)
 have n21_ := aK (below_step (bS (IsS75.ge HI1030.out)) hb)
 clear HO1033
 clear HO1037
 clear HO1041
 clear HO1046
 clear HO1049
 clear HO1053
 clear HO1056
 clear HO1060
 clear HO1063
 clear HO1067
 clear HO1070
 clear HO1073
 clear HO1076
 clear HO1079
 clear HO1083
 clear HO1086
 clear HO1089
 clear HO1092
 clear HO1095
 clear HI1030
 clear HB
 have HO1033 := n0_
 have HO1037 := n1_
 have HO1041 := n2_
 have HO1046 := n3_
 have HO1049 := n4_
 have HO1053 := n5_
 have HO1056 := n6_
 have HO1060 := n7_
 have HO1063 := n8_
 have HO1067 := n9_
 have HO1070 := n10_
 have HO1073 := n11_
 have HO1076 := n12_
 have HO1079 := n13_
 have HO1083 := n14_
 have HO1086 := n15_
 have HO1089 := n16_
 have HO1092 := n17_
 have HO1095 := n18_
 have HO1099 := n19_
 have HI1030 := n20_
 have HB := n21_
 clear n0_ n1_ n2_ n3_ n4_ n5_ n6_ n7_ n8_ n9_ n10_ n11_ n12_ n13_ n14_ n15_ n16_ n17_ n18_ n19_ n20_ n21_
 (try clear hb)
 (try clear hb2)
 (try clear hk)
 (try clear hi)
 (try clear ho0)
 obtain ⟨Ao88, co88, eo88⟩ := Kd.R_slice HO1099.out
 subst eo88
 go_wp2_with fail
 (with_reducible refine (l3_or.calls k _ _ t1031 _ _ t1097 t1100 _ ?side1 ?side2 ?side3 ?side4 A36.out).mono ?_)
 (case side1 => exact cX (Kd.R_reads' HO1033.out).2.2)
 (case side2 => exact (Kd.R_reads' HO1033.out).2.1)
 (case side3 => exact cX (Kd.R_reads' HO1099.out).2.2)
 (case side4 => exact (Kd.R_reads' HO1099.out).2.1)
 rintro e w89 ⟨v1101, rfl, ho0, hb⟩
 have n0_ := aK (Kd.R_elder' (rX HO1033.out) (Kd.R_base ho0) hb)
 have n1_ := aK (Kd.R_elder' (rX HO1037.out) (Kd.R_base ho0) hb)
 have n2_ := aK (Kd.R_elder' (rX HO1041.out) (Kd.R_base ho0) hb)
 have n3_ := aK (Kd.R_elder' (rX HO1046.out) (Kd.R_base ho0) hb)
 have n4_ := aK (Kd.R_elder' (rX HO1049.out) (Kd.R_base ho0) hb)
 have n5_ := aK (Kd.R_elder' (rX HO1053.out) (Kd.R_base ho0) hb)
 have n6_ := aK (Kd.R_elder' (rX HO1056.out) (Kd.R_base ho0) hb)
 have n7_ := aK (Kd.R_elder' (rX HO1060.out) (Kd.R_base ho0) hb)
 have n8_ := aK (Kd.R_elder' (rX HO1063.out) (Kd.R_base ho0) hb)
 have n9_ := aK (Kd.R_elder' (rX HO1067.out) (Kd.R_base ho0) hb)
 have n10_ := aK (Kd.R_elder' (rX HO1070.out) (Kd.R_base ho0) hb)
 have n11_ := aK (Kd.R_elder' (rX HO1073.out) (Kd.R_base ho0) hb)
 have n12_ := aK (Kd.R_elder' (rX HO1076.out) (Kd.R_base ho0) hb)
 have n13_ := aK (Kd.R_elder' (rX HO1079.out) (Kd.R_base ho0) hb)
 have n14_ := aK (Kd.R_elder' (rX HO1083.out) (Kd.R_base ho0) hb)
 have n15_ := aK (Kd.R_elder' (rX HO1086.out) (Kd.R_base ho0) hb)
 have n16_ := aK (Kd.R_elder' (rX HO1089.out) (Kd.R_base ho0) hb)
 have n17_ := aK (Kd.R_elder' (rX HO1092.out) (Kd.R_base ho0) hb)
 have n18_ := aK (Kd.R_elder' (rX HO1095.out) (Kd.R_base ho0) hb)
 have n19_ := aK (Kd.R_elder' (rX HO1099.out) (Kd.R_base ho0) hb)
 have n20_ := aK (Kd.R_lower (Kd.R_new' (Kd.R_new' (Kd.R_new' (Kd.R_new' (Kd.R_new' (Kd.R_new' (Kd.R_new' (Kd.R_new' (Kd.R_new' (Kd.R_new' (Kd.R_new' (Kd.R_new' (Kd.R_new' (Kd.R_new' (Kd.R_new' (Kd.R_new' (Kd.R_new' (Kd.R_new' (Kd.R_new' (Kd.R_new' ho0 (Kd.R_lt (rX HO1033.out))) (Kd.R_lt (rX HO1037.out))) (Kd.R_lt (rX HO1041.out))) (Kd.R_lt (rX HO1046.out))) (Kd.R_lt (rX HO1049.out))) (Kd.R_lt (rX HO1053.out))) (Kd.R_lt (rX HO1056.out))) (Kd.R_lt (rX HO1060.out))) (Kd.R_lt (rX HO1063.out))) (Kd.R_lt (rX HO1067.out))) (Kd.R_lt (rX HO1070.out))) (Kd.R_lt (rX HO1073.out))) (Kd.R_lt (rX HO1076.out))) (Kd.R_lt (rX HO1079.out))) (Kd.R_lt (rX HO1083.out))) (Kd.R_lt (rX HO1086.out))) (Kd.R_lt (rX HO1089.out))) (Kd.R_lt (rX HO1092.out))) (Kd.R_lt (rX HO1095.out))) (Kd.R_lt (rX HO1099.out))) (below_size (bS (IsS75.ge HI1030.out))))
 have n21_ := aK (IsS75.below (iX HI1030.out) hb)
 have n22_ := aK (below_step (bS (IsS75.ge HI1030.out)) hb)
 clear HO1033
 clear HO1037
 clear HO1041
 clear HO1046
 clear HO1049
 clear HO1053
 clear HO1056
 clear HO1060
 clear HO1063
 clear HO1067
 clear HO1070
 clear HO1073
 clear HO1076
 clear HO1079
 clear HO1083
 clear HO1086
 clear HO1089
 clear HO1092
 clear HO1095
 clear HO1099
 clear HI1030
 clear HB
 have HO1033 := n0_
 have HO1037 := n1_
 have HO1041 := n2_
 have HO1046 := n3_
 have HO1049 := n4_
 have HO1053 := n5_
 have HO1056 := n6_
 have HO1060 := n7_
 have HO1063 := n8_
 have HO1067 := n9_
 have HO1070 := n10_
 have HO1073 := n11_
 have HO1076 := n12_
 have HO1079 := n13_
 have HO1083 := n14_
 have HO1086 := n15_
 have HO1089 := n16_
 have HO1092 := n17_
 have HO1095 := n18_
 have HO1099 := n19_
 have HO1102 := n20_
 have HI1030 := n21_
 have HB := n22_
 clear n0_ n1_ n2_ n3_ n4_ n5_ n6_ n7_ n8_ n9_ n10_ n11_ n12_ n13_ n14_ n15_ n16_ n17_ n18_ n19_ n20_ n21_ n22_
 (try clear hb)
 (try clear hb2)
 (try clear hk)
 (try clear hi)
 (try clear ho0)
 go_wp2_with fail
 (with_reducible refine (i_All.calls  t1103 _ A37.out).mono ?_)
 rintro e w90 ⟨v1104, rfl, ho0, hb⟩
 have n0_ := aK (Kd.R_elder' (rX HO1033.out) (Kd.R_base ho0) hb)
 have n1_ := aK (Kd.R_elder' (rX HO1037.out) (Kd.R_base ho0) hb)
 have n2_ := aK (Kd.R_elder' (rX HO1041.out) (Kd.R_base ho0) hb)
 have n3_ := aK (Kd.R_elder' (rX HO1046.out) (Kd.R_base ho0) hb)
 have n4_ := aK (Kd.R_elder' (rX HO1049.out) (Kd.R_base ho0) hb)
 have n5_ := aK (Kd.R_elder' (rX HO1053.out) (Kd.R_base ho0) hb)
 have n6_ := aK (Kd.R_elder' (rX HO1056.out) (Kd.R_base ho0) hb)
 have n7_ := aK (Kd.R_elder' (rX HO1060.out) (Kd.R_base ho0) hb)
 have n8_ := aK (Kd.R_elder' (rX HO1063.out) (Kd.R_base ho0) hb)
 have n9_ := aK (Kd.R_elder' (rX HO1067.out) (Kd.R_base ho0) hb)
 have n10_ := aK (Kd.R_elder' (rX HO1070.out) (Kd.R_base ho0) hb)
 have n11_ := aK (Kd.R_elder' (rX HO1073.out) (Kd.R_base ho0) hb)
 have n12_ := aK (Kd.R_elder' (rX HO1076.out) (Kd.R_base ho0) hb)
 have n13_ := aK (Kd.R_elder' (rX HO1079.out) (Kd.R_base ho0) hb)
 have n14_ := aK (Kd.R_elder' (rX HO1083.out) (Kd.R_base ho0) hb)
 have n15_ := aK (Kd.R_elder' (rX HO1086.out) (Kd.R_base ho0) hb)
 have n16_ := aK (Kd.R_elder' (rX HO1089.out) (Kd.R_base ho0) hb)
 have n17_ := aK (Kd.R_elder' (rX HO1092.out) (Kd.R_base ho0) hb)
 have n18_ := aK (Kd.R_elder' (rX HO1095.out) (Kd.R_base ho0) hb)
 have n19_ := aK (Kd.R_elder' (rX HO1099.out) (Kd.R_base ho0) hb)
 have n20_ := aK (Kd.R_elder' (rX HO1102.out) (Kd.R_base ho0) hb)
 have n21_ := aK (Kd.R_lower (Kd.R_new' (Kd.R_new' (Kd.R_new' (Kd.R_new' (Kd.R_new' (Kd.R_new' (Kd.R_new' (Kd.R_new' (Kd.R_new' (Kd.R_new' (Kd.R_new' (Kd.R_new' (Kd.R_new' (Kd.R_new' (Kd.R_new' (Kd.R_new' (Kd.R_new' (Kd.R_new' (Kd.R_new' (Kd.R_new' (Kd.R_new' ho0 (Kd.R_lt (rX HO1033.out))) (Kd.R_lt (rX HO1037.out))) (Kd.R_lt (rX HO1041.out))) (Kd.R_lt (rX HO1046.out))) (Kd.R_lt (rX HO1049.out))) (Kd.R_lt (rX HO1053.out))) (Kd.R_lt (rX HO1056.out))) (Kd.R_lt (rX HO1060.out))) (Kd.R_lt (rX HO1063.out))) (Kd.R_lt (rX HO1067.out))) (Kd.R_lt (rX HO1070.out))) (Kd.R_lt (rX HO1073.out))) (Kd.R_lt (rX HO1076.out))) (Kd.R_lt (rX HO1079.out))) (Kd.R_lt (rX HO1083.out))) (Kd.R_lt (rX HO1086.out))) (Kd.R_lt (rX HO1089.out))) (Kd.R_lt (rX HO1092.out))) (Kd.R_lt (rX HO1095.out))) (Kd.R_lt (rX HO1099.out))) (Kd.R_lt (rX HO1102.out))) (below_size (bS (IsS75.ge HI1030.out))))
 have n22_ := aK (IsS75.below (iX HI1030.out) hb)
 have n23_ := aK (below_step (bS (IsS75.ge HI1030.out)) hb)
 clear HO1033
 clear HO1037
 clear HO1041
 clear HO1046
 clear HO1049
 clear HO1053
 clear HO1056
 clear HO1060
 clear HO1063
 clear HO1067
 clear HO1070
 clear HO1073
 clear HO1076
 clear HO1079
 clear HO1083
 clear HO1086
 clear HO1089
 clear HO1092
 clear HO1095
 clear HO1099
 clear HO1102
 clear HI1030
 clear HB
 have HO1033 := n0_
 have HO1037 := n1_
 have HO1041 := n2_
 have HO1046 := n3_
 have HO1049 := n4_
 have HO1053 := n5_
 have HO1056 := n6_
 have HO1060 := n7_
 have HO1063 := n8_
 have HO1067 := n9_
 have HO1070 := n10_
 have HO1073 := n11_
 have HO1076 := n12_
 have HO1079 := n13_
 have HO1083 := n14_
 have HO1086 := n15_
 have HO1089 := n16_
 have HO1092 := n17_
 have HO1095 := n18_
 have HO1099 := n19_
 have HO1102 := n20_
 have HO1105 := n21_
 have HI1030 := n22_
 have HB := n23_
 clear n0_ n1_ n2_ n3_ n4_ n5_ n6_ n7_ n8_ n9_ n10_ n11_ n12_ n13_ n14_ n15_ n16_ n17_ n18_ n19_ n20_ n21_ n22_ n23_
 (try clear hb)
 (try clear hb2)
 (try clear hk)
 (try clear hi)
 (try clear ho0)
 obtain ⟨Ao91, co91, eo91⟩ := Kd.R_slice HO1102.out
 subst eo91
 obtain ⟨Ao92, co92, eo92⟩ := Kd.R_slice HO1105.out
 subst eo92
 go_wp2_with fail
 (with_reducible refine (r3_Same.calls k _ _ t1100 _ _ t1103 true _ ?side1 ?side2 ?side3 ?side4 A38.out).mono ?_)
 (case side1 => exact cX (Kd.R_reads' HO1102.out).2.2)
 (case side2 => exact (Kd.R_reads' HO1102.out).2.1)
 (case side3 => exact cX (Kd.R_reads' HO1105.out).2.2)
 (case side4 => exact (Kd.R_reads' HO1105.out).2.1)
 rintro e w' ⟨rfl, ⟨nd, rfl⟩⟩
 go_wp2_with fail
 (with_reducible refine (l3_not.calls k _ _ t1031 t1107 _ ?side1 ?side2 A40.out).mono ?_)
 (case side1 => exact cX (Kd.R_reads' HO1033.out).2.2)
 (case side2 => exact (Kd.R_reads' HO1033.out).2.1)
 rintro e w93 ⟨v1108, rfl, ho0, hb⟩
 have n0_ := aK (Kd.R_elder' (rX HO1033.out) (Kd.R_base ho0) hb)
 have n1_ := aK (Kd.R_elder' (rX HO1037.out) (Kd.R_base ho0) hb)
 have n2_ := aK (Kd.R_elder' (rX HO1041.out) (Kd.R_base ho0) hb)
 have n3_ := aK (Kd.R_elder' (rX HO1046.out) (Kd.R_base ho0) hb)
 have n4_ := aK (Kd.R_elder' (rX HO1049.out) (Kd.R_base ho0) hb)
 have n5_ := aK (Kd.R_elder' (rX HO1053.out) (Kd.R_base ho0) hb)
 have n6_ := aK (Kd.R_elder' (rX HO1056.out) (Kd.R_base ho0) hb)
 have n7_ := aK (Kd.R_elder' (rX HO1060.out) (Kd.R_base ho0) hb)
 have n8_ := aK (Kd.R_elder' (rX HO1063.out) (Kd.R_base ho0) hb)
 have n9_ := aK (Kd.R_elder' (rX HO1067.out) (Kd.R_base ho0) hb)
 have n10_ := aK (Kd.R_elder' (rX HO1070.out) (Kd.R_base ho0) hb)
 have n11_ := aK (Kd.R_elder' (rX HO1073.out) (Kd.R_base ho0) hb)
 have n12_ := aK (Kd.R_elder' (rX HO1076.out) (Kd.R_base ho0) hb)
 have n13_ := aK (Kd.R_elder' (rX HO1079.out) (Kd.R_base ho0) hb)
 have n14_ := aK (Kd.R_elder' (rX HO1083.out) (Kd.R_base ho0) hb)
 have n15_ := aK (Kd.R_elder' (rX HO1086.out) (Kd.R_base ho0) hb)
 have n16_ := aK (Kd.R_elder' (rX HO1089.out) (Kd.R_base ho0) hb)
 have n17_ := aK (Kd.R_elder' (rX HO1092.out) (Kd.R_base ho0) hb)
 have n18_ := aK (Kd.R_elder' (rX HO1095.out) (Kd.R_base ho0) hb)
 have n19_ := aK (Kd.R_elder' (rX HO1099.out) (Kd.R_base ho0) hb)
 have n20_ := aK (Kd.R_elder' (rX HO1102.out) (Kd.R_base ho0) hb)
 have n21_ := aK (Kd.R_elder' (rX HO1105.out) (Kd.R_base ho0) hb)
 have n22_ := aK (Kd.R_lower (Kd.R_new' (Kd.R_new' (Kd.R_new' (Kd.R_new' (Kd.R_new' (Kd.R_new' (Kd.R_new' (Kd.R_new' (Kd.R_new' (Kd.R_new' (Kd.R_new' (Kd.R_new' (Kd.R_new' (Kd.R_new' (Kd.R_new' (Kd.R_new' (Kd.R_new' (Kd.R_new' (Kd.R_new' (Kd.R_new' (Kd.R_new' (Kd.R_new' ho0 (Kd.R_lt (rX HO1033.out))) (Kd.R_lt (rX HO1037.out))) (Kd.R_lt (rX HO1041.out))) (Kd.R_lt (rX HO1046.out))) (Kd.R_lt (rX HO1049.out))) (Kd.R_lt (rX HO1053.out))) (Kd.R_lt (rX HO1056.out))) (Kd.R_lt (rX HO1060.out))) (Kd.R_lt (rX HO1063.out))) (Kd.R_lt (rX HO1067.out))) (Kd.R_lt (rX HO1070.out))) (Kd.R_lt (rX HO1073.out))) (Kd.R_lt (rX HO1076.out))) (Kd.R_lt (rX HO1079.out))) (Kd.R_lt (rX HO1083.out))) (Kd.R_lt (rX HO1086.out))) (Kd.R_lt (rX HO1089.out))) (Kd.R_lt (rX HO1092.out))) (Kd.R_lt (rX HO1095.out))) (Kd.R_lt (rX HO1099.out))) (Kd.R_lt (rX HO1102.out))) (Kd.R_lt (rX HO1105.out))) (below_size (bS (IsS75.ge HI1030.out))))
 have n23_ := aK (IsS75.below (iX HI1030.out) hb)
 have n24_ := aK (below_step (bS (IsS75.ge HI1030.out)) hb)
 clear HO1033
 clear HO1037
 clear HO1041
 clear HO1046
 clear HO1049
 clear HO1053
 clear HO1056
 clear HO1060
 clear HO1063
 clear HO1067
 clear HO1070
 clear HO1073
 clear HO1076
 clear HO1079
 clear HO1083
 clear HO1086
 clear HO1089
 clear HO1092
 clear HO1095
 clear HO1099
 clear HO1102
 clear HO1105
 clear HI1030
 clear HB
 have HO1033 := n0_
 have HO1037 := n1_
 have HO1041 := n2_
 have HO1046 := n3_
 have HO1049 := n4_
 have HO1053 := n5_
 have HO1056 := n6_
 have HO1060 := n7_
 have HO1063 := n8_
 have HO1067 := n9_
 have HO1070 := n10_
 have HO1073 := n11_
 have HO1076 := n12_
 have HO1079 := n13_
 have HO1083 := n14_
 have HO1086 := n15_
 have HO1089 := n16_
 have HO1092 := n17_
 have HO1095 := n18_
 have HO1099 := n19_
 have HO1102 := n20_
 have HO1105 := n21_
 have HO1109 := n22_
 have HI1030 := n23_
 have HB := n24_
 clear n0_ n1_ n2_ n3_ n4_ n5_ n6_ n7_ n8_ n9_ n10_ n11_ n12_ n13_ n14_ n15_ n16_ n17_ n18_ n19_ n20_ n21_ n22_ n23_ n24_
 (try clear hb)
 (try clear hb2)
 (try clear hk)
 (try clear hi)
 (try clear ho0)
 obtain ⟨Ao94, co94, eo94⟩ := Kd.R_slice HO1109.out
 subst eo94
 go_wp2_with fail
 (with_reducible refine (l3_and.calls k _ _ t1031 _ _ t1107 t1110 _ ?side1 ?side2 ?side3 ?side4 A41.out).mono ?_)
 (case side1 => exact cX (Kd.R_reads' HO1033.out).2.2)
 (case side2 => exact (Kd.R_reads' HO1033.out).2.1)
 (case side3 => exact cX (Kd.R_reads' HO1109.out).2.2)
 (case side4 => exact (Kd.R_reads' HO1109.out).2.1)
 rintro e w95 ⟨v1111, rfl, ho0, hb⟩
 have n0_ := aK (Kd.R_elder' (rX HO1033.out) (Kd.R_base ho0) hb)
 have n1_ := aK (Kd.R_elder' (rX HO1037.out) (Kd.R_base ho0) hb)
 have n2_ := aK (Kd.R_elder' (rX HO1041.out) (Kd.R_base ho0) hb)
 have n3_ := aK (Kd.R_elder' (rX HO1046.out) (Kd.R_base ho0) hb)
 have n4_ := aK (Kd.R_elder' (rX HO1049.out) (Kd.R_base ho0) hb)
 have n5_ := aK (Kd.R_elder' (rX HO1053.out) (Kd.R_base ho0) hb)
 have n6_ := aK (Kd.R_elder' (rX HO1056.out) (Kd.R_base ho0) hb)
 have n7_ := aK (Kd.R_elder' (rX HO1060.out) (Kd.R_base ho0) hb)
 have n8_ := aK (Kd.R_elder' (rX HO1063.out) (Kd.R_base ho0) hb)
 have n9_ := aK (Kd.R_elder' (rX HO1067.out) (Kd.R_base ho0) hb)
 have n10_ := aK (Kd.R_elder' (rX HO1070.out) (Kd.R_base ho0) hb)
 have n11_ := aK (Kd.R_elder' (rX HO1073.out) (Kd.R_base ho0) hb)
 have n12_ := aK (Kd.R_elder' (rX HO1076.out) (Kd.R_base ho0) hb)
 have n13_ := aK (Kd.R_elder' (rX HO1079.out) (Kd.R_base ho0) hb)
 have n14_ := aK (Kd.R_elder' (rX HO1083.out) (Kd.R_base ho0) hb)
 have n15_ := aK (Kd.R_elder' (rX HO1086.out) (Kd.R_base ho0) hb)
 have n16_ := aK (Kd.R_elder' (rX HO1089.out) (Kd.R_base ho0) hb)
 have n17_ := aK (Kd.R_elder' (rX HO1092.out) (Kd.R_base ho0) hb)
 have n18_ := aK (Kd.R_elder' (rX HO1095.out) (Kd.R_base ho0) hb)
 have n19_ := aK (Kd.R_elder' (rX HO1099.out) (Kd.R_base ho0) hb)
 have n20_ := aK (Kd.R_elder' (rX HO1102.out) (Kd.R_base ho0) hb)
 have n21_ := aK (Kd.R_elder' (rX HO1105.out) (Kd.R_base ho0) hb)
 have n22_ := aK (Kd.R_elder' (rX HO1109.out) (Kd.R_base ho0) hb)
 have n23_ := aK (Kd.R_lower (Kd.R_new' (Kd.R_new' (Kd.R_new' (Kd.R_new' (Kd.R_new' (Kd.R_new' (Kd.R_new' (Kd.R_new' (Kd.R_new' (Kd.R_new' (Kd.R_new' (Kd.R_new' (Kd.R_new' (Kd.R_new' (Kd.R_new' (Kd.R_new' (Kd.R_new' (Kd.R_new' (Kd.R_new' (Kd.R_new' (Kd.R_new' (Kd.R_new' (Kd.R_new' ho0 (Kd.R_lt (rX HO1033.out))) (Kd.R_lt (rX HO1037.out))) (Kd.R_lt (rX HO1041.out))) (Kd.R_lt (rX HO1046.out))) (Kd.R_lt (rX HO1049.out))) (Kd.R_lt (rX HO1053.out))) (Kd.R_lt (rX HO1056.out))) (Kd.R_lt (rX HO1060.out))) (Kd.R_lt (rX HO1063.out))) (Kd.R_lt (rX HO1067.out))) (Kd.R_lt (rX HO1070.out))) (Kd.R_lt (rX HO1073.out))) (Kd.R_lt (rX HO1076.out))) (Kd.R_lt (rX HO1079.out))) (Kd.R_lt (rX HO1083.out))) (Kd.R_lt (rX HO1086.out))) (Kd.R_lt (rX HO1089.out))) (Kd.R_lt (rX HO1092.out))) (Kd.R_lt (rX HO1095.out))) (Kd.R_lt (rX HO1099.out))) (Kd.R_lt (rX HO1102.out))) (Kd.R_lt (rX HO1105.out))) (Kd.R_lt (rX HO1109.out))) (below_size (bS (IsS75.ge HI1030.out))))
 have n24_ := aK (IsS75.below (iX HI1030.out) hb)
 have n25_ := aK (below_step (bS (IsS75.ge HI1030.out)) hb)
 clear HO1033
 clear HO1037
 clear HO1041
 clear HO1046
 clear HO1049
 clear HO1053
 clear HO1056
 clear HO1060
 clear HO1063
 clear HO1067
 clear HO1070
 clear HO1073
 clear HO1076
 clear HO1079
 clear HO1083
 clear HO1086
 clear HO1089
 clear HO1092
 clear HO1095
 clear HO1099
 clear HO1102
 clear HO1105
 clear HO1109
 clear HI1030
 clear HB
 have HO1033 := n0_
 have HO1037 := n1_
 have HO1041 := n2_
 have HO1046 := n3_
 have HO1049 := n4_
 have HO1053 := n5_
 have HO1056 := n6_
 have HO1060 := n7_
 have HO1063 := n8_
 have HO1067 := n9_
 have HO1070 := n10_
 have HO1073 := n11_
 have HO1076 := n12_
 have HO1079 := n13_
 have HO1083 := n14_
 have HO1086 := n15_
 have HO1089 := n16_
 have HO1092 := n17_
 have HO1095 := n18_
 have HO1099 := n19_
 have HO1102 := n20_
 have HO1105 := n21_
 have HO1109 := n22_
 have HO1112 := n23_
 have HI1030 := n24_
 have HB := n25_
 clear n0_ n1_ n2_ n3_ n4_ n5_ n6_ n7_ n8_ n9_ n10_ n11_ n12_ n13_ n14_ n15_ n16_ n17_ n18_ n19_ n20_ n21_ n22_ n23_ n24_ n25_
 (try clear hb)
 (try clear hb2)
 (try clear hk)
 (try clear hi)
 (try clear ho0)
 obtain ⟨Ao96, co96, eo96⟩ := Kd.R_slice HO1112.out
 subst eo96
 go_wp2_with fail
 (with_reducible refine (l3_or.calls k _ _ t1035 _ _ t1039 t1113 _ ?side1 ?side2 ?side3 ?side4 A43.out).mono ?_)
 (case side1 => exact cX (Kd.R_reads' HO1037.out).2.2)
 (case side2 => exact (Kd.R_reads' HO1037.out).2.1)
 (case side3 => exact cX (Kd.R_reads' HO1041.out).2.2)
 (case side4 => exact (Kd.R_reads' HO1041.out).2.1)
 rintro e w97 ⟨v1114, rfl, ho0, hb⟩
 have n0_ := aK (Kd.R_elder' (rX HO1033.out) (Kd.R_base ho0) hb)
 have n1_ := aK (Kd.R_elder' (rX HO1037.out) (Kd.R_base ho0) hb)
 have n2_ := aK (Kd.R_elder' (rX HO1041.out) (Kd.R_base ho0) hb)
 have n3_ := aK (Kd.R_elder' (rX HO1046.out) (Kd.R_base ho0) hb)
 have n4_ := aK (Kd.R_elder' (rX HO1049.out) (Kd.R_base ho0) hb)
 have n5_ := aK (Kd.R_elder' (rX HO1053.out) (Kd.R_base ho0) hb)
 have n6_ := aK (Kd.R_elder' (rX HO1056.out) (Kd.R_base ho0) hb)
 have n7_ := aK (Kd.R_elder' (rX HO1060.out) (Kd.R_base ho0) hb)
 have n8_ := aK (Kd.R_elder' (rX HO1063.out) (Kd.R_base ho0) hb)
 have n9_ := aK (Kd.R_elder' (rX HO1067.out) (Kd.R_base ho0) hb)
 have n10_ := aK (Kd.R_elder' (rX HO1070.out) (Kd.R_base ho0) hb)
 have n11_ := aK (Kd.R_elder' (rX HO1073.out) (Kd.R_base ho0) hb)
 have n12_ := aK (Kd.R_elder' (rX HO1076.out) (Kd.R_base ho0) hb)
 have n13_ := aK (Kd.R_elder' (rX HO1079.out) (Kd.R_base ho0) hb)
 have n14_ := aK (Kd.R_elder' (rX HO1083.out) (Kd.R_base ho0) hb)
 have n15_ := aK (Kd.R_elder' (rX HO1086.out) (Kd.R_base ho0) hb)
 have n16_ := aK (Kd.R_elder' (rX HO1089.out) (Kd.R_base ho0) hb)
 have n17_ := aK (Kd.R_elder' (rX HO1092.out) (Kd.R_base ho0) hb)
 have n18_ := aK (Kd.R_elder' (rX HO1095.out) (Kd.R_base ho0) hb)
 have n19_ := aK (Kd.R_elder' (rX HO1099.out) (Kd.R_base ho0) hb)
 have n20_ := aK (Kd.R_elder' (rX HO1102.out) (Kd.R_base ho0) hb)
 have n21_ := aK (Kd.R_elder' (rX HO1105.out) (Kd.R_base ho0) hb)
 have n22_ := aK (Kd.R_elder' (rX HO1109.out) (Kd.R_base ho0) hb)
 have n23_ := aK (Kd.R_elder' (rX HO1112.out) (Kd.R_base ho0) hb)
 have n24_ := aK (Kd.R_lower (Kd.R_new' (Kd.R_new' (Kd.R_new' (Kd.R_new' (Kd.R_new' (Kd.R_new' (Kd.R_new' (Kd.R_new' (Kd.R_new' (Kd.R_new' (Kd.R_new' (Kd.R_new' (Kd.R_new' (Kd.R_new' (Kd.R_new' (Kd.R_new' (Kd.R_new' (Kd.R_new' (Kd.R_new' (Kd.R_new' (Kd.R_new' (Kd.R_new' (Kd.R_new' (Kd.R_new' ho0 (Kd.R_lt (rX HO1033.out))) (Kd.R_lt (rX HO1037.out))) (Kd.R_lt (rX HO1041.out))) (Kd.R_lt (rX HO1046.out))) (Kd.R_lt (rX HO1049.out))) (Kd.R_lt (rX HO1053.out))) (Kd.R_lt (rX HO1056.out))) (Kd.R_lt (rX HO1060.out))) (Kd.R_lt (rX HO1063.out))) (Kd.R_lt (rX HO1067.out))) (Kd.R_lt (rX HO1070.out))) (Kd.R_lt (rX HO1073.out))) (Kd.R_lt (rX HO1076.out))) (Kd.R_lt (rX HO1079.out))) (Kd.R_lt (rX HO1083.out))) (Kd.R_lt (rX HO1086.out))) (Kd.R_lt (rX HO1089.out))) (Kd.R_lt (rX HO1092.out))) (Kd.R_lt (rX HO1095.out))) (Kd.R_lt (rX HO1099.out))) (Kd.R_lt (rX HO1102.out))) (Kd.R_lt (rX HO1105.out))) (Kd.R_lt (rX HO1109.out))) (Kd.R_lt (rX HO1112.out))) (below_size (bS (IsS75.ge HI1030.out))))
 have n25_ := aK (IsS75.below (iX HI1030.out) hb)
 have n26_ := aK (below_step (bS (IsS75.ge HI1030.out)) hb)
 clear HO1033
 clear HO1037
 clear HO1041
 clear HO1046
 clear HO1049
 clear HO1053
 clear HO1056
 clear HO1060
 clear HO1063
 clear HO1067
 clear HO1070
 clear HO1073
 clear HO1076
 clear HO1079
 clear HO1083
 clear HO1086
 clear HO1089
 clear HO1092
 clear HO1095
 clear HO1099
 clear HO1102
 clear HO1105
 clear HO1109
 clear HO1112
 clear HI1030
 clear HB
 have HO1033 := n0_
 have HO1037 := n1_
 have HO1041 := n2_
 have HO1046 := n3_
 have HO1049 := n4_
 have HO1053 := n5_
 have HO1056 := n6_
 have HO1060 := n7_
 have HO1063 := n8_
 have HO1067 := n9_
 have HO1070 := n10_
 have HO1073 := n11_
 have HO1076 := n12_
 have HO1079 := n13_
 have HO1083 := n14_
 have HO1086 := n15_
 have HO1089 := n16_
 have HO1092 := n17_
 have HO1095 := n18_
 have HO1099 := n19_
 have HO1102 := n20_
 have HO1105 := n21_
 have HO1109 := n22_
 have HO1112 := n23_
 have HO1115 := n24_
 have HI1030 := n25_
 have HB := n26_
 clear n0_ n1_ n2_ n3_ n4_ n5_ n6_ n7_ n8_ n9_ n10_ n11_ n12_ n13_ n14_ n15_ n16_ n17_ n18_ n19_ n20_ n21_ n22_ n23_ n24_ n25_ n26_
 (try clear hb)
 (try clear hb2)
 (try clear hk)
 (try clear hi)
 (try clear ho0)
 obtain ⟨Ao98, co98, eo98⟩ := Kd.R_slice HO1115.out
 subst eo98
 go_wp2_with fail
 (with_reducible refine (l3_or.calls k _ _ t1031 _ _ t1113 t1116 _ ?side1 ?side2 ?side3 ?side4 A44.out).mono ?_)
 (case side1 => exact cX (Kd.R_reads' HO1033.out).2.2)
 (case side2 => exact (Kd.R_reads' HO1033.out).2.1)
 (case side3 => exact cX (Kd.R_reads' HO1115.out).2.2)
 (case side4 => exact (Kd.R_reads' HO1115.out).2.1)
 rintro e w99 ⟨v1117, rfl, ho0, hb⟩
 have n0_ := aK (Kd.R_elder' (rX HO1033.out) (Kd.R_base ho0) hb)
 have n1_ := aK (Kd.R_elder' (rX HO1037.out) (Kd.R_base ho0) hb)
 have n2_ := aK (Kd.R_elder' (rX HO1041.out) (Kd.R_base ho0) hb)
 have n3_ := aK (Kd.R_elder' (rX HO1046.out) (Kd.R_base ho0) hb)
 have n4_ := aK (Kd.R_elder' (rX HO1049.out) (Kd.R_base ho0) hb)
 have n5_ := aK (Kd.R_elder' (rX HO1053.out) (Kd.R_base ho0) hb)
 have n6_ := aK (Kd.R_elder' (rX HO1056.out) (Kd.R_base ho0) hb)
 have n7_ := aK (Kd.R_elder' (rX HO1060.out) (Kd.R_base ho0) hb)
 have n8_ := aK (Kd.R_elder' (rX HO1063.out) (Kd.R_base ho0) hb)
 have n9_ := aK (Kd.R_elder' (rX HO1067.out) (Kd.R_base ho0) hb)
 have n10_ := aK (Kd.R_elder' (rX HO1070.out) (Kd.R_base ho0) hb)
 have n11_ := aK (Kd.R_elder' (rX HO1073.out) (Kd.R_base ho0) hb)
 have n12_ := aK (Kd.R_elder' (rX HO1076.out) (Kd.R_base ho0) hb)
 have n13_ := aK (Kd.R_elder' (rX HO1079.out) (Kd.R_base ho0) hb)
 have n14_ := aK (Kd.R_elder' (rX HO1083.out) (Kd.R_base ho0) hb)
 have n15_ := aK (Kd.R_elder' (rX HO1086.out) (Kd.R_base ho0) hb)
 have n16_ := aK (Kd.R_elder' (rX HO1089.out) (Kd.R_base ho0) hb)
 have n17_ := aK (Kd.R_elder' (rX HO1092.out) (Kd.R_base ho0) hb)
 have n18_ := aK (Kd.R_elder' (rX HO1095.out) (Kd.R_base ho0) hb)
 have n19_ := aK (Kd.R_elder' (rX HO1099.out) (Kd.R_base ho0) hb)
 have n20_ := aK (Kd.R_elder' (rX HO1102.out) (Kd.R_base ho0) hb)
 have n21_ := aK (Kd.R_elder' (rX HO1105.out) (Kd.R_base ho0) hb)
 have n22_ := aK (Kd.R_elder' (rX HO1109.out) (Kd.R_base ho0) hb)
 have n23_ := aK (Kd.R_elder' (rX HO1112.out) (Kd.R_base ho0) hb)
 have n24_ := aK (Kd.R_elder' (rX HO1115.out) (Kd.R_base ho0) hb)
 have n25_ := aK (Kd.R_lower (Kd.R_new' (Kd.R_new' (Kd.R_new' (Kd.R_new' (Kd.R_new' (Kd.R_new' (Kd.R_new' (Kd.R_new' (Kd.R_new' (Kd.R_new' (Kd.R_new' (Kd.R_new' (Kd.R_new' (Kd.R_new' (Kd.R_new' (Kd.R_new' (Kd.R_new' (Kd.R_new' (Kd.R_new' (Kd.R_new' (Kd.R_new' (Kd.R_new' (Kd.R_new' (Kd.R_new' (Kd.R_new' ho0 (Kd.R_lt (rX HO1033.out))) (Kd.R_lt (rX HO1037.out))) (Kd.R_lt (rX HO1041.out))) (Kd.R_lt (rX HO1046.out))) (Kd.R_lt (rX HO1049.out))) (Kd.R_lt (rX HO1053.out))) (Kd.R_lt (rX HO1056.out))) (Kd.R_lt (rX HO1060.out))) (Kd.R_lt (rX HO1063.out))) (Kd.R_lt (rX HO1067.out))) (Kd.R_lt (rX HO1070.out))) (Kd.R_lt (rX HO1073.out))) (Kd.R_lt (rX HO1076.out))) (Kd.R_lt (rX HO1079.out))) (Kd.R_lt (rX HO1083.out))) (Kd.R_lt (rX HO1086.out))) (Kd.R_lt (rX HO1089.out))) (Kd.R_lt (rX HO1092.out))) (Kd.R_lt (rX HO1095.out))) (Kd.R_lt (rX HO1099.out))) (Kd.R_lt (rX HO1102.out))) (Kd.R_lt (rX HO1105.out))) (Kd.R_lt (rX HO1109.out))) (Kd.R_lt (rX HO1112.out))) (Kd.R_lt (rX HO1115.out))) (below_size (bS (IsS75.ge HI1030.out))))
 have n26_ := aK (IsS75.below (iX HI1030.out) hb)
 have n27_ := aK (below_step (bS (IsS75.ge HI1030.out)) hb)
 clear HO1033
 clear HO1037
 clear HO1041
 clear HO1046
 clear HO1049
 clear HO1053
 clear HO1056
 clear HO1060
 clear HO1063
 clear HO1067
 clear HO1070
 clear HO1073
 clear HO1076
 clear HO1079
 clear HO1083
 clear HO1086
 clear HO1089
 clear HO1092
 clear HO1095
 clear HO1099
 clear HO1102
 clear HO1105
 clear HO1109
 clear HO1112
 clear HO1115
 clear HI1030
 clear HB
 have HO1033 := n0_
 have HO1037 := n1_
 have HO1041 := n2_
 have HO1046 := n3_
 have HO1049 := n4_
 have HO1053 := n5_
 have HO1056 := n6_
 have HO1060 := n7_
 have HO1063 := n8_
 have HO1067 := n9_
 have HO1070 := n10_
 have HO1073 := n11_
 have HO1076 := n12_
 have HO1079 := n13_
 have HO1083 := n14_
 have HO1086 := n15_
 have HO1089 := n16_
 have HO1092 := n17_
 have HO1095 := n18_
 have HO1099 := n19_
 have HO1102 := n20_
 have HO1105 := n21_
 have HO1109 := n22_
 have HO1112 := n23_
 have HO1115 := n24_
 have HO1118 := n25_
 have HI1030 := n26_
 have HB := n27_
 clear n0_ n1_ n2_ n3_ n4_ n5_ n6_ n7_ n8_ n9_ n10_ n11_ n12_ n13_ n14_ n15_ n16_ n17_ n18_ n19_ n20_ n21_ n22_ n23_ n24_ n25_ n26_ n27_
 (try clear hb)
 (try clear hb2)
 (try clear hk)
 (try clear hi)
 (try clear ho0)
 go_wp2_with fail
 (with_reducible refine (l3_or.calls k _ _ t1031 _ _ t1035 t1119 _ ?side1 ?side2 ?side3 ?side4 A45.out).mono ?_)
 (case side1 => exact cX (Kd.R_reads' HO1033.out).2.2)
 (case side2 => exact (Kd.R_reads' HO1033.out).2.1)
 (case side3 => exact cX (Kd.R_reads' HO1037.out).2.2)
 (case side4 => exact (Kd.R_reads' HO1037.out).2.1)
 rintro e w100 ⟨v1120, rfl, ho0, hb⟩
 have n0_ := aK (Kd.R_elder' (rX HO1033.out) (Kd.R_base ho0) hb)
 have n1_ := aK (Kd.R_elder' (rX HO1037.out) (Kd.R_base ho0) hb)
 have n2_ := aK (Kd.R_elder' (rX HO1041.out) (Kd.R_base ho0) hb)
 have n3_ := aK (Kd.R_elder' (rX HO1046.out) (Kd.R_base ho0) hb)
 have n4_ := aK (Kd.R_elder' (rX HO1049.out) (Kd.R_base ho0) hb)
 have n5_ := aK (Kd.R_elder' (rX HO1053.out) (Kd.R_base ho0) hb)
 have n6_ := aK (Kd.R_elder' (rX HO1056.out) (Kd.R_base ho0) hb)
 have n7_ := aK (Kd.R_elder' (rX HO1060.out) (Kd.R_base ho0) hb)
 have n8_ := aK (Kd.R_elder' (rX HO1063.out) (Kd.R_base ho0) hb)
 have n9_ := aK (Kd.R_elder' (rX HO1067.out) (Kd.R_base ho0) hb)
 have n10_ := aK (Kd.R_elder' (rX HO1070.out) (Kd.R_base ho0) hb)
 have n11_ := aK (Kd.R_elder' (rX HO1073.out) (Kd.R_base ho0) hb)
 have n12_ := aK (Kd.R_elder' (rX HO1076.out) (Kd.R_base ho0) hb)
 have n13_ := aK (Kd.R_elder' (rX HO1079.out) (Kd.R_base ho0) hb)
 have n14_ := aK (Kd.R_elder' (rX HO1083.out) (Kd.R_base ho0) hb)
 have n15_ := aK (Kd.R_elder' (rX HO1086.out) (Kd.R_base ho0) hb)
 have n16_ := aK (Kd.R_elder' (rX HO1089.out) (Kd.R_base ho0) hb)
 have n17_ := aK (Kd.R_elder' (rX HO1092.out) (Kd.R_base ho0) hb)
 have n18_ := aK (Kd.R_elder' (rX HO1095.out) (Kd.R_base ho0) hb)
 have n19_ := aK (Kd.R_elder' (rX HO1099.out) (Kd.R_base ho0) hb)
 have n20_ := aK (Kd.R_elder' (rX HO1102.out) (Kd.R_base ho0) hb)
 have n21_ := aK (Kd.R_elder' (rX HO1105.out) (Kd.R_base ho0) hb)
 have n22_ := aK (Kd.R_elder' (rX HO1109.out) (Kd.R_base ho0) hb)
 have n23_ := aK (Kd.R_elder' (rX HO1112.out) (Kd.R_base ho0) hb)
 have n24_ := aK (Kd.R_elder' (rX HO1115.out) (Kd.R_base ho0) hb)
 have n25_ := aK (Kd.R_elder' (rX HO1118.out) (Kd.R_base ho0) hb)
 have n26_ := aK (Kd.R_lower (Kd.R_new' (Kd.R_new' (Kd.R_new' (Kd.R_new' (Kd.R_new' (Kd.R_new' (Kd.R_new' (Kd.R_new' (Kd.R_new' (Kd.R_new' (Kd.R_new' (Kd.R_new' (Kd.R_new' (Kd.R_new' (Kd.R_new' (Kd.R_new' (Kd.R_new' (Kd.R_new' (Kd.R_new' (Kd.R_new' (Kd.R_new' (Kd.R_new' (Kd.R_new' (Kd.R_new' (Kd.R_new' (Kd.R_new' ho0 (Kd.R_lt (rX HO1033.out))) (Kd.R_lt (rX HO1037.out))) (Kd.R_lt (rX HO1041.out))) (Kd.R_lt (rX HO1046.out))) (Kd.R_lt (rX HO1049.out))) (Kd.R_lt (rX HO1053.out))) (Kd.R_lt (rX HO1056.out))) (Kd.R_lt (rX HO1060.out))) (Kd.R_lt (rX HO1063.out))) (Kd.R_lt (rX HO1067.out))) (Kd.R_lt (rX HO1070.out))) (Kd.R_lt (rX HO1073.out))) (Kd.R_lt (rX HO1076.out))) (Kd.R_lt (rX HO1079.out))) (Kd.R_lt (rX HO1083.out))) (Kd.R_lt (rX HO1086.out))) (Kd.R_lt (rX HO1089.out))) (Kd.R_lt (rX HO1092.out))) (Kd.R_lt (rX HO1095.out))) (Kd.R_lt (rX HO1099.out))) (Kd.R_lt (rX HO1102.out))) (Kd.R_lt (rX HO1105.out))) (Kd.R_lt (rX HO1109.out))) (Kd.R_lt (rX HO1112.out))) (Kd.R_lt (rX HO1115.out))) (Kd.R_lt (rX HO1118.out))) (below_size (bS (IsS75.ge HI1030.out))))
 have n27_ := aK (IsS75.below (iX HI1030.out) hb)
 have n28_ := aK (below_step (bS (IsS75.ge HI1030.out)) hb)
 clear HO1033
 clear HO1037
 clear HO1041
 clear HO1046
 clear HO1049
 clear HO1053
 clear HO1056
 clear HO1060
 clear HO1063
 clear HO1067
 clear HO1070
 clear HO1073
 clear HO1076
 clear HO1079
 clear HO1083
 clear HO1086
 clear HO1089
 clear HO1092
 clear HO1095
 clear HO1099
 clear HO1102
 clear HO1105
 clear HO1109
 clear HO1112
 clear HO1115
 clear HO1118
 clear HI1030
 clear HB
 have HO1033 := n0_
 have HO1037 := n1_
 have HO1041 := n2_
 have HO1046 := n3_
 have HO1049 := n4_
 have HO1053 := n5_
 have HO1056 := n6_
 have HO1060 := n7_
 have HO1063 := n8_
 have HO1067 := n9_
 have HO1070 := n10_
 have HO1073 := n11_
 have HO1076 := n12_
 have HO1079 := n13_
 have HO1083 := n14_
 have HO1086 := n15_
 have HO1089 := n16_
 have HO1092 := n17_
 have HO1095 := n18_
 have HO1099 := n19_
 have HO1102 := n20_
 have HO1105 := n21_
 have HO1109 := n22_
 have HO1112 := n23_
 have HO1115 := n24_
 have HO1118 := n25_
 have HO1121 := n26_
 have HI1030 := n27_
 have HB := n28_
 clear n0_ n1_ n2_ n3_ n4_ n5_ n6_ n7_ n8_ n9_ n10_ n11_ n12_ n13_ n14_ n15_ n16_ n17_ n18_ n19_ n20_ n21_ n22_ n23_ n24_ n25_ n26_ n27_ n28_
 (try clear hb)
 (try clear hb2)
 (try clear hk)
 (try clear hi)
 (try clear ho0)
 obtain ⟨Ao101, co101, eo101⟩ := Kd.R_slice HO1121.out
 subst eo101
 go_wp2_with fail
 (with_reducible refine (l3_or.calls k _ _ t1119 _ _ t1039 t1122 _ ?side1 ?side2 ?side3 ?side4 A46.out).mono ?_)
 (case side1 => exact cX (Kd.R_reads' HO1121.out).2.2)
 (case side2 => exact (Kd.R_reads' HO1121.out).2.1)
 (case side3 => exact cX (Kd.R_reads' HO1041.out).2.2)
 (case side4 => exact (Kd.R_reads' HO1041.out).2.1)
 rintro e w102 ⟨v1123, rfl, ho0, hb⟩
 have n0_ := aK (Kd.R_elder' (rX HO1033.out) (Kd.R_base ho0) hb)
 have n1_ := aK (Kd.R_elder' (rX HO1037.out) (Kd.R_base ho0) hb)
 have n2_ := aK (Kd.R_elder' (rX HO1041.out) (Kd.R_base ho0) hb)
 have n3_ := aK (Kd.R_elder' (rX HO1046.out) (Kd.R_base ho0) hb)
 have n4_ := aK (Kd.R_elder' (rX HO1049.out) (Kd.R_base ho0) hb)
 have n5_ := aK (Kd.R_elder' (rX HO1053.out) (Kd.R_base ho0) hb)
 have n6_ := aK (Kd.R_elder' (rX HO1056.out) (Kd.R_base ho0) hb)
 have n7_ := aK (Kd.R_elder' (rX HO1060.out) (Kd.R_base ho0) hb)
 have n8_ := aK (Kd.R_elder' (rX HO1063.out) (Kd.R_base ho0) hb)
 have n9_ := aK (Kd.R_elder' (rX HO1067.out) (Kd.R_base ho0) hb)
 have n10_ := aK (Kd.R_elder' (rX HO1070.out) (Kd.R_base ho0) hb)
 have n11_ := aK (Kd.R_elder' (rX HO1073.out) (Kd.R_base ho0) hb)
 have n12_ := aK (Kd.R_elder' (rX HO1076.out) (Kd.R_base ho0) hb)
 have n13_ := aK (Kd.R_elder' (rX HO1079.out) (Kd.R_base ho0) hb)
 have n14_ := aK (Kd.R_elder' (rX HO1083.out) (Kd.R_base ho0) hb)
 have n15_ := aK (Kd.R_elder' (rX HO1086.out) (Kd.R_base ho0) hb)
 have n16_ := aK (Kd.R_elder' (rX HO1089.out) (Kd.R_base ho0) hb)
 have n17_ := aK (Kd.R_elder' (rX HO1092.out) (Kd.R_base ho0) hb)
 have n18_ := aK (Kd.R_elder' (rX HO1095.out) (Kd.R_base ho0) hb)
 have n19_ := aK (Kd.R_elder' (rX HO1099.out) (Kd.R_base ho0) hb)
 have n20_ := aK (Kd.R_elder' (rX HO1102.out) (Kd.R_base ho0) hb)
 have n21_ := aK (Kd.R_elder' (rX HO1105.out) (Kd.R_base ho0) hb)
 have n22_ := aK (Kd.R_elder' (rX HO1109.out) (Kd.R_base ho0) hb)
 have n23_ := aK (Kd.R_elder' (rX HO1112.out) (Kd.R_base ho0) hb)
 have n24_ := aK (Kd.R_elder' (rX HO1115.out) (Kd.R_base ho0) hb)
 have n25_ := aK (Kd.R_elder' (rX HO1118.out) (Kd.R_base ho0) hb)
 have n26_ := aK (Kd.R_elder' (rX HO1121.out) (Kd.R_base ho0) hb)
 have n27_ := aK (Kd.R_lower (Kd.R_new' (Kd.R_new' (Kd.R_new' (Kd.R_new' (Kd.R_new' (Kd.R_new' (Kd.R_new' (Kd.R_new' (Kd.R_new' (Kd.R_new' (Kd.R_new' (Kd.R_new' (Kd.R_new' (Kd.R_new' (Kd.R_new' (Kd.R_new' (Kd.R_new' (Kd.R_new' (Kd.R_new' (Kd.R_new' (Kd.R_new' (Kd.R_new' (Kd.R_new' (Kd.R_new' (Kd.R_new' (Kd.R_new' (Kd.R_new' ho0 (Kd.R_lt (rX HO1033.out))) (Kd.R_lt (rX HO1037.out))) (Kd.R_lt (rX HO1041.out))) (Kd.R_lt (rX HO1046.out))) (Kd.R_lt (rX HO1049.out))) (Kd.R_lt (rX HO1053.out))) (Kd.R_lt (rX HO1056.out))) (Kd.R_lt (rX HO1060.out))) (Kd.R_lt (rX HO1063.out))) (Kd.R_lt (rX HO1067.out))) (Kd.R_lt (rX HO1070.out))) (Kd.R_lt (rX HO1073.out))) (Kd.R_lt (rX HO1076.out))) (Kd.R_lt (rX HO1079.out))) (Kd.R_lt (rX HO1083.out))) (Kd.R_lt (rX HO1086.out))) (Kd.R_lt (rX HO1089.out))) (Kd.R_lt (rX HO1092.out))) (Kd.R_lt (rX HO1095.out))) (Kd.R_lt (rX HO1099.out))) (Kd.R_lt (rX HO1102.out))) (Kd.R_lt (rX HO1105.out))) (Kd.R_lt (rX HO1109.out))) (Kd.R_lt (rX HO1112.out))) (Kd.R_lt (rX HO1115.out))) (Kd.R_lt (rX HO1118.out))) (Kd.R_lt (rX HO1121.out))) (below_size (bS (IsS75.ge HI1030.out))))
 have n28_ := aK (IsS75.below (iX HI1030.out) hb)
 have n29_ := aK (below_step (bS (IsS75.ge HI1030.out)) hb)
 clear HO1033
 clear HO1037
 clear HO1041
 clear HO1046
 clear HO1049
 clear HO1053
 clear HO1056
 clear HO1060
 clear HO1063
 clear HO1067
 clear HO1070
 clear HO1073
 clear HO1076
 clear HO1079
 clear HO1083
 clear HO1086
 clear HO1089
 clear HO1092
 clear HO1095
 clear HO1099
 clear HO1102
 clear HO1105
 clear HO1109
 clear HO1112
 clear HO1115
 clear HO1118
 clear HO1121
 clear HI1030
 clear HB
 have HO1033 := n0_
 have HO1037 := n1_
 have HO1041 := n2_
 have HO1046 := n3_
 have HO1049 := n4_
 have HO1053 := n5_
 have HO1056 := n6_
 have HO1060 := n7_
 have HO1063 := n8_
 have HO1067 := n9_
 have HO1070 := n10_
 have HO1073 := n11_
 have HO1076 := n12_
 have HO1079 := n13_
 have HO1083 := n14_
 have HO1086 := n15_
 have HO1089 := n16_
 have HO1092 := n17_
 have HO1095 := n18_
 have HO1099 := n19_
 have HO1102 := n20_
 have HO1105 := n21_
 have HO1109 := n22_
 have HO1112 := n23_
 have HO1115 := n24_
 have HO1118 := n25_
 have HO1121 := n26_
 have HO1124 := n27_
 have HI1030 := n28_
 have HB := n29_
 clear n0_ n1_ n2_ n3_ n4_ n5_ n6_ n7_ n8_ n9_ n10_ n11_ n12_ n13_ n14_ n15_ n16_ n17_ n18_ n19_ n20_ n21_ n22_ n23_ n24_ n25_ n26_ n27_ n28_ n29_
 (try clear hb)
 (try clear hb2)
 (try clear hk)
 (try clear hi)
 (try clear ho0)
 obtain ⟨Ao103, co103, eo103⟩ := Kd.R_slice HO1118.out
 subst eo103
 obtain ⟨Ao104, co104, eo104⟩ := Kd.R_slice HO1124.out
 subst eo104
 go_wp2_with fail
 (with_reducible refine (r3_Same.calls k _ _ t1116 _ _ t1122 t1125 _ ?side1 ?side2 ?side3 ?side4 A47.out).mono ?_)
 (case side1 => exact cX (Kd.R_reads' HO1118.out).2.2)
 (case side2 => exact (Kd.R_reads' HO1118.out).2.1)
 (case side3 => exact cX (Kd.R_reads' HO1124.out).2.2)
 (case side4 => exact (Kd.R_reads' HO1124.out).2.1)
 rintro e w' ⟨rfl, ⟨nd, rfl⟩⟩
 go_wp2_with fail
 go_ret
 exact ⟨eW, _, HBWN.out, bS (IsS75.ge HI1030.out)⟩
theorem l3_IntervalAlgebra.calls (k : Nat) (A0 : Option Addr) (c0 : Nat) (l0 : List Int) (r : Bool) (w : World) (hr0 : Kd.C (Kd.int .u8) w A0 l0.length l0) (hc0 : l0.length ≤ c0) (h : l3_IntervalAlgebra.f k l0 = some r) (HRT : Aside0 (r = true)) :
  Calls Try.prog 15 #[.slice A0 l0.length c0] w fun e w' => e = .returned (.bool r) ∧ Below w.heap.size w w' :=
 (l3_IntervalAlgebra.callsN k A0 c0 l0 r w hr0 hc0 h HRT).mono fun _ _ ⟨he, _, h1, h2⟩ => ⟨he, h1.trans (h2.mono h1.size)⟩
end Go.Proofs.Ytpjcdacnhalclaa.Q
