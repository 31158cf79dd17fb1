/- A part of a proof: facts of functions that the law calls; conditions stand in each. -/
import Derived.Test.YtpjcdacnhalclaaV6x2
import Derived.Test.YtpjcdacnhalclaaV6x15
import Derived.Test.YtpjcdacnhalclaaV6x7
import Derived.Test.YtpjcdacnhalclaaV6x8
import Derived.Test.YtpjcdacnhalclaaV6x14
import Derived.Test.YtpjcdacnhalclaaV6x4
set_option linter.unusedVariables false
set_option linter.unusedSimpArgs false
namespace Go.Proofs.Ytpjcdacnhalclaa.Q
open Go.RowKit Go.Proofs.YtpjcdacnhalclaaW.PrintWords Go.Proofs.YtpjcdacnhalclaaW.PrintLast Go.Proofs.YtpjcdacnhalclaaW.PrintMore
attribute [local go_sem] max2_int min2_int max_two min_two max_three min_three max_four min_four
theorem bool_eq_of_bne {a b : Bool} (h : (a != b) = false) : a = b := by cases a <;> cases b <;> first | rfl | cases h
theorem bool_not_of_beq {a b : Bool} (h : (a == b) = false) : a = !b := by cases a <;> cases b <;> first | rfl | cases h
mutual
def l3_IntervalPoints.j0 : Nat → List (S65) → List (S65) → List (S65) → List (S65) → List (S65) → List (S65) → Bool → Bool → List Int → Int → Option (Bool)
 | 0, _, _, _, _, _, _, _, _, _, _ => none
 | k + 1, x4, x5, x6, x8, x10, x12, x14, x72, x629000, x629001 => if x72 = true then (some false) else (l3_IntervalPoints.l0 k x4 x5 x6 x8 x10 x12 x14 0 x629000 x629001)
def l3_IntervalPoints.l0 : Nat → List (S65) → List (S65) → List (S65) → List (S65) → List (S65) → List (S65) → Bool → Int → List Int → Int → Option (Bool)
 | 0, _, _, _, _, _, _, _, _, _, _ => none
 | k + 1, x4, x5, x6, x8, x10, x12, x14, x16, x629000, x629001 => if x16 < 6 then ((cc_Any.f k x629000 x629001).bind fun bt655 => ((i_Has.f k x4 bt655.1 bt655.2.1 bt655.2.2.1).bind fun t660 => ((i_Has.f k x5 bt655.1 bt655.2.1 bt655.2.2.1).bind fun t661 => ((i_Has.f k x6 bt655.1 bt655.2.1 bt655.2.2.1).bind fun t662 => (if t660 = true then (if (t662 != true) = true then (some false) else ((i_Has.f k x8 bt655.1 bt655.2.1 bt655.2.2.1).bind fun t663 => (if (t663 != t661) = true then (some false) else ((i_Has.f k x10 bt655.1 bt655.2.1 bt655.2.2.1).bind fun t664 => (if (t664 != (!t661)) = true then (some false) else ((i_Has.f k x12 bt655.1 bt655.2.1 bt655.2.2.1).bind fun t665 => (if (t665 == t660) = true then (some false) else (if x14 = true then (if t661 = true then (l3_IntervalPoints.l0 k x4 x5 x6 x8 x10 x12 x14 (wrap64 (x16 + 1)) x629000 bt655.2.2.2) else (l3_IntervalPoints.l0 k x4 x5 x6 x8 x10 x12 x14 (wrap64 (x16 + 1)) x629000 bt655.2.2.2)) else (l3_IntervalPoints.l0 k x4 x5 x6 x8 x10 x12 x14 (wrap64 (x16 + 1)) x629000 bt655.2.2.2))))))))) else (if (t662 != t661) = true then (some false) else ((i_Has.f k x8 bt655.1 bt655.2.1 bt655.2.2.1).bind fun t666 => (if (t666 != false) = true then (some false) else ((i_Has.f k x10 bt655.1 bt655.2.1 bt655.2.2.1).bind fun t667 => (if (t667 != false) = true then (some false) else ((i_Has.f k x12 bt655.1 bt655.2.1 bt655.2.2.1).bind fun t668 => (if (t668 == t660) = true then (some false) else (if x14 = true then (if t661 = true then (some false) else (l3_IntervalPoints.l0 k x4 x5 x6 x8 x10 x12 x14 (wrap64 (x16 + 1)) x629000 bt655.2.2.2)) else (l3_IntervalPoints.l0 k x4 x5 x6 x8 x10 x12 x14 (wrap64 (x16 + 1)) x629000 bt655.2.2.2)))))))))))))) else ((l3_begun.f k).bind fun t669 => (if t669 = true then ((i_Valid.f k x6).bind fun t670 => (if t670 = true then ((i_Valid.f k x8).bind fun t671 => (if t671 = true then ((i_Valid.f k x10).bind fun t672 => (if t672 = true then ((i_Valid.f k x12).bind fun t673 => (some t673)) else (some false))) else (some false))) else (some false))) else (some false)))
end
def l3_IntervalPoints.f (k : Nat) (l0 : List Int) : Option (Bool) := (cs_New.f l0 120).bind fun bt626 => ((cc_Interval.f k bt626.1 bt626.2).bind fun bt629 => ((cc_Interval.f k bt626.1 bt629.2).bind fun bt633 => ((i_Union.f k bt629.1 bt633.1).bind fun bt637 => ((i_Intersect.f k bt629.1 bt633.1).bind fun bt641 => ((i_Minus.f k bt629.1 bt633.1).bind fun bt645 => ((i_Complement.f k bt629.1).bind fun bt649 => ((i_Covers.f k bt629.1 bt633.1).bind fun bt653 => (if bt637.2 = 0 then (if bt641.2 = 0 then (if bt645.2 = 0 then (if bt649.2 = 0 then (l3_IntervalPoints.j0 k bt629.1 bt633.1 bt637.1 bt641.1 bt645.1 bt649.1 bt653.1 (bt653.2 != 0) bt626.1 bt633.2) else (l3_IntervalPoints.j0 k bt629.1 bt633.1 bt637.1 bt641.1 bt645.1 bt649.1 bt653.1 true bt626.1 bt633.2)) else (l3_IntervalPoints.j0 k bt629.1 bt633.1 bt637.1 bt641.1 bt645.1 bt649.1 bt653.1 true bt626.1 bt633.2)) else (l3_IntervalPoints.j0 k bt629.1 bt633.1 bt637.1 bt641.1 bt645.1 bt649.1 bt653.1 true bt626.1 bt633.2)) else (l3_IntervalPoints.j0 k bt629.1 bt633.1 bt637.1 bt641.1 bt645.1 bt649.1 bt653.1 true bt626.1 bt633.2)))))))))
def l3_IntervalPoints.T14 : Bool × List (List Nat × List Nat) := (true, [([], []), ([], []), ([0, 1], [0, 1]), ([], []), ([], []), ([3, 4, 2], [3, 4]), ([2, 5, 0, 1, 2], [2]), ([5, 6, 0, 1, 2, 3, 4, 5, 6], [5])])
def l3_IntervalPoints.B14 : List Nat := [0, 0, 3, 0, 0, 31, 63, 127]
theorem l3_IntervalPoints.tab14 : rtab .any (opsOf Try.f6 14) = l3_IntervalPoints.T14 := by kernel_rfl
theorem l3_IntervalPoints.bits14 : waitsOk l3_IntervalPoints.T14.2 l3_IntervalPoints.B14 = true := by kernel_rfl
set_option maxHeartbeats 8000000 in
set_option maxRecDepth 100000 in
theorem l3_IntervalPoints.callsN (k : Nat) (A0 : Option Addr) (c0 : Nat) (l0 : List Int) (r : Bool) (w : World) (hr0 : Kd.C (Kd.int .u8) w A0 l0.length l0) (hc0 : l0.length ≤ c0) (h : l3_IntervalPoints.f k l0 = some r) (HRT : Aside0 (r = true)) :
  Calls Try.prog 6 #[.slice A0 l0.length c0] w fun e w' => e = .returned (.bool r) ∧ ∃ wb, Below w.heap.size w wb ∧ Below wb.heap.size wb w' := by
 have hu24 := Try.underlying24
 have HR0 := Aside0.mk hr0
 have HC0 := Aside0.mk hc0
 clear hr0 hc0
 have HB := aK (Below.refl w.heap.size w)
 have H : ((cs_New.f l0 120).bind fun bt626 => ((cc_Interval.f k bt626.1 bt626.2).bind fun bt629 => ((cc_Interval.f k bt626.1 bt629.2).bind fun bt633 => ((i_Union.f k bt629.1 bt633.1).bind fun bt637 => ((i_Intersect.f k bt629.1 bt633.1).bind fun bt641 => ((i_Minus.f k bt629.1 bt633.1).bind fun bt645 => ((i_Complement.f k bt629.1).bind fun bt649 => ((i_Covers.f k bt629.1 bt633.1).bind fun bt653 => (if bt637.2 = 0 then (if bt641.2 = 0 then (if bt645.2 = 0 then (if bt649.2 = 0 then (l3_IntervalPoints.j0 k bt629.1 bt633.1 bt637.1 bt641.1 bt645.1 bt649.1 bt653.1 (bt653.2 != 0) bt626.1 bt633.2) else (l3_IntervalPoints.j0 k bt629.1 bt633.1 bt637.1 bt641.1 bt645.1 bt649.1 bt653.1 true bt626.1 bt633.2)) else (l3_IntervalPoints.j0 k bt629.1 bt633.1 bt637.1 bt641.1 bt645.1 bt649.1 bt653.1 true bt626.1 bt633.2)) else (l3_IntervalPoints.j0 k bt629.1 bt633.1 bt637.1 bt641.1 bt645.1 bt649.1 bt653.1 true bt626.1 bt633.2)) else (l3_IntervalPoints.j0 k bt629.1 bt633.1 bt637.1 bt641.1 bt645.1 bt649.1 bt653.1 true bt626.1 bt633.2)))))))))) = some r := h
 clear h
 obtain ⟨⟨t626, t627⟩, A2, H⟩ := oB H
 try dsimp only at H
 obtain ⟨⟨t629, t632⟩, A4, H⟩ := oB H
 try dsimp only at H
 obtain ⟨⟨t633, t636⟩, A5, H⟩ := oB H
 try dsimp only at H
 obtain ⟨⟨t637, t638⟩, A6, H⟩ := oB H
 try dsimp only at H
 obtain ⟨⟨t641, t642⟩, A7, H⟩ := oB H
 try dsimp only at H
 obtain ⟨⟨t645, t646⟩, A8, H⟩ := oB H
 try dsimp only at H
 obtain ⟨⟨t649, t650⟩, A9, H⟩ := oB H
 try dsimp only at H
 obtain ⟨⟨t653, t654⟩, A10, H⟩ := oB H
 try dsimp only at H
 have HC11 := Aside0.mk H
 clear H
 go_enter Try.func6, Try.ntmps6
 go_upto_region 8 with (first | ((with_reducible refine gate_callee (f := 18) rfl ?_); refine gL (some 21) rfl Try.func18 #[.slice A0 l0.length c0, .int .i64 120] rfl ?_; (with_reducible refine (cs_New.calls _ _ l0 120 t626 t627 w _ ?side1 ?side2 ?side3 A2.out).mono ?_); (case side1 => exact bO); (case side2 => exact HR0.out); (case side3 => exact HC0.out); rintro e w3 ⟨g628, rfl, hi, hb, hb2⟩; refine ⟨_, rfl, ?_⟩; have n0_ := aK (hb); have n1_ := aK (hi); clear HB; have HB := n0_; have Hi := n1_; clear n0_ n1_; (try clear hb hb2 hi); have HNS := Hi.out; clear Hi HB; obtain ⟨w, BWN, BNW, hIN⟩ := HNS; have Hi := Aside0.mk hIN; have HB := Aside0.mk BNW; have HBWN := Aside0.mk BWN; clear hIN BNW BWN) | ((with_reducible refine gate_callee (f := 29) rfl ?_); refine gL (some 23) rfl Try.func29 #[.pointer (some ⟨g628, 0, none⟩)] rfl ?_; (with_reducible refine (cc_Interval.calls k g628 t626 t627 t629 t632 w _ ?side1 ?side2 A4.out).mono ?_); (case side1 => exact iX Hi.out); (case side2 => exact bS (IsS75.ge Hi.out)); rintro e w12 ⟨v630, rfl, ho0, hi, hb, hk⟩; refine ⟨_, rfl, ?_⟩; have n0_ := aK (Kd.R_lower ho0 (below_size (bS (IsS75.ge Hi.out)))); have n1_ := aK (hb); have n2_ := aK (hi); clear HB Hi; have HO631 := n0_; have HB := n1_; have Hi := n2_; clear n0_ n1_ n2_; (try clear hb hk hi ho0)) | ((with_reducible refine gate_callee (f := 29) rfl ?_); refine gL (some 25) rfl Try.func29 #[.pointer (some ⟨g628, 0, none⟩)] rfl ?_; (with_reducible refine (cc_Interval.calls k g628 t626 t632 t633 t636 w _ ?side1 ?side2 A5.out).mono ?_); (case side1 => exact iX Hi.out); (case side2 => exact bS (IsS75.ge Hi.out)); rintro e w13 ⟨v634, rfl, ho0, hi, hb, hk⟩; refine ⟨_, rfl, ?_⟩; have n0_ := aK (Kd.R_mono (Kd.R_told (Kd.R_oldK (IsS75.apart (show IsS75 w _ g628 t626 t632 from iX Hi.out) (rX HO631.out) (by decide)) hk) (Kd.R_base ho0)) (fun _ h_ => h_.1)); have n1_ := aK (Kd.R_lower (Kd.R_new' ho0 (Kd.R_lt (rX HO631.out))) (below_size (bS (IsS75.ge Hi.out)))); have n2_ := aK (hb); have n3_ := aK (hi); clear HO631 HB Hi; have HO631 := n0_; have HO635 := n1_; have HB := n2_; have Hi := n3_; clear n0_ n1_ n2_ n3_; (try clear hb hk hi ho0); obtain ⟨Ao14, co14, eo14⟩ := Kd.R_slice HO631.out; subst eo14; obtain ⟨Ao15, co15, eo15⟩ := Kd.R_slice HO635.out; subst eo15) | ((with_reducible refine gate_callee (f := 30) rfl ?_); refine gL (some 29) rfl Try.func30 #[.slice Ao14 t629.length co14, .slice Ao15 t633.length co15] rfl ?_; (with_reducible refine (i_Union.calls k _ _ t629 _ _ t633 t637 t638 _ ?side1 ?side2 ?side3 ?side4 A6.out).mono ?_); (case side1 => exact cX (Kd.R_reads' HO631.out).2.2); (case side2 => exact (Kd.R_reads' HO631.out).2.1); (case side3 => exact cX (Kd.R_reads' HO635.out).2.2); (case side4 => exact (Kd.R_reads' HO635.out).2.1); rintro e w16 ⟨v639, rfl, ho0, hb⟩; refine ⟨_, rfl, ?_⟩; have n0_ := aK (Kd.R_elder' (rX HO631.out) (Kd.R_base ho0) hb); have n1_ := aK (Kd.R_elder' (rX HO635.out) (Kd.R_base ho0) hb); have n2_ := aK (Kd.R_lower (Kd.R_new' (Kd.R_new' ho0 (Kd.R_lt (rX HO631.out))) (Kd.R_lt (rX HO635.out))) (below_size (bS (IsS75.ge Hi.out)))); have n3_ := aK (IsS75.below (iX Hi.out) hb); have n4_ := aK (below_step (bS (IsS75.ge Hi.out)) hb); clear HO631 HO635 Hi HB; have HO631 := n0_; have HO635 := n1_; have HO640 := n2_; have Hi := n3_; have HB := n4_; clear n0_ n1_ n2_ n3_ n4_; (try clear hb ho0)) | ((with_reducible refine gate_callee (f := 31) rfl ?_); refine gL (some 35) rfl Try.func31 #[.slice Ao14 t629.length co14, .slice Ao15 t633.length co15] rfl ?_; (with_reducible refine (i_Intersect.calls k _ _ t629 _ _ t633 t641 t642 _ ?side1 ?side2 ?side3 ?side4 A7.out).mono ?_); (case side1 => exact cX (Kd.R_reads' HO631.out).2.2); (case side2 => exact (Kd.R_reads' HO631.out).2.1); (case side3 => exact cX (Kd.R_reads' HO635.out).2.2); (case side4 => exact (Kd.R_reads' HO635.out).2.1); rintro e w17 ⟨v643, rfl, ho0, hb⟩; refine ⟨_, rfl, ?_⟩; have n0_ := aK (Kd.R_elder' (rX HO631.out) (Kd.R_base ho0) hb); have n1_ := aK (Kd.R_elder' (rX HO635.out) (Kd.R_base ho0) hb); have n2_ := aK (Kd.R_elder' (rX HO640.out) (Kd.R_base ho0) hb); have n3_ := aK (Kd.R_lower (Kd.R_new' (Kd.R_new' (Kd.R_new' ho0 (Kd.R_lt (rX HO631.out))) (Kd.R_lt (rX HO635.out))) (Kd.R_lt (rX HO640.out))) (below_size (bS (IsS75.ge Hi.out)))); have n4_ := aK (IsS75.below (iX Hi.out) hb); have n5_ := aK (below_step (bS (IsS75.ge Hi.out)) hb); clear HO631 HO635 HO640 Hi HB; have HO631 := n0_; have HO635 := n1_; have HO640 := n2_; have HO644 := n3_; have Hi := n4_; have HB := n5_; clear n0_ n1_ n2_ n3_ n4_ n5_; (try clear hb ho0)) | ((with_reducible refine gate_callee (f := 32) rfl ?_); refine gL (some 41) rfl Try.func32 #[.slice Ao14 t629.length co14, .slice Ao15 t633.length co15] rfl ?_; (with_reducible refine (i_Minus.calls k _ _ t629 _ _ t633 t645 t646 _ ?side1 ?side2 ?side3 ?side4 A8.out).mono ?_); (case side1 => exact cX (Kd.R_reads' HO631.out).2.2); (case side2 => exact (Kd.R_reads' HO631.out).2.1); (case side3 => exact cX (Kd.R_reads' HO635.out).2.2); (case side4 => exact (Kd.R_reads' HO635.out).2.1); rintro e w18 ⟨v647, rfl, ho0, hb⟩; refine ⟨_, rfl, ?_⟩; have n0_ := aK (Kd.R_elder' (rX HO631.out) (Kd.R_base ho0) hb); have n1_ := aK (Kd.R_elder' (rX HO635.out) (Kd.R_base ho0) hb); have n2_ := aK (Kd.R_elder' (rX HO640.out) (Kd.R_base ho0) hb); have n3_ := aK (Kd.R_elder' (rX HO644.out) (Kd.R_base ho0) hb); have n4_ := aK (Kd.R_lower (Kd.R_new' (Kd.R_new' (Kd.R_new' (Kd.R_new' ho0 (Kd.R_lt (rX HO631.out))) (Kd.R_lt (rX HO635.out))) (Kd.R_lt (rX HO640.out))) (Kd.R_lt (rX HO644.out))) (below_size (bS (IsS75.ge Hi.out)))); have n5_ := aK (IsS75.below (iX Hi.out) hb); have n6_ := aK (below_step (bS (IsS75.ge Hi.out)) hb); clear HO631 HO635 HO640 HO644 Hi HB; have HO631 := n0_; have HO635 := n1_; have HO640 := n2_; have HO644 := n3_; have HO648 := n4_; have Hi := n5_; have HB := n6_; clear n0_ n1_ n2_ n3_ n4_ n5_ n6_; (try clear hb ho0)) | ((with_reducible refine gate_callee (f := 33) rfl ?_); refine gL (some 46) rfl Try.func33 #[.slice Ao14 t629.length co14] rfl ?_; (with_reducible refine (i_Complement.calls k _ _ t629 t649 t650 _ ?side1 ?side2 A9.out).mono ?_); (case side1 => exact cX (Kd.R_reads' HO631.out).2.2); (case side2 => exact (Kd.R_reads' HO631.out).2.1); rintro e w19 ⟨v651, rfl, ho0, hb⟩; refine ⟨_, rfl, ?_⟩; have n0_ := aK (Kd.R_elder' (rX HO631.out) (Kd.R_base ho0) hb); have n1_ := aK (Kd.R_elder' (rX HO635.out) (Kd.R_base ho0) hb); have n2_ := aK (Kd.R_elder' (rX HO640.out) (Kd.R_base ho0) hb); have n3_ := aK (Kd.R_elder' (rX HO644.out) (Kd.R_base ho0) hb); have n4_ := aK (Kd.R_elder' (rX HO648.out) (Kd.R_base ho0) hb); have n5_ := aK (Kd.R_lower (Kd.R_new' (Kd.R_new' (Kd.R_new' (Kd.R_new' (Kd.R_new' ho0 (Kd.R_lt (rX HO631.out))) (Kd.R_lt (rX HO635.out))) (Kd.R_lt (rX HO640.out))) (Kd.R_lt (rX HO644.out))) (Kd.R_lt (rX HO648.out))) (below_size (bS (IsS75.ge Hi.out)))); have n6_ := aK (IsS75.below (iX Hi.out) hb); have n7_ := aK (below_step (bS (IsS75.ge Hi.out)) hb); clear HO631 HO635 HO640 HO644 HO648 Hi HB; have HO631 := n0_; have HO635 := n1_; have HO640 := n2_; have HO644 := n3_; have HO648 := n4_; have HO652 := n5_; have Hi := n6_; have HB := n7_; clear n0_ n1_ n2_ n3_ n4_ n5_ n6_ n7_; (try clear hb ho0)) | ((with_reducible refine gate_callee (f := 34) rfl ?_); refine gL (some 52) rfl Try.func34 #[.slice Ao14 t629.length co14, .slice Ao15 t633.length co15] rfl ?_; (with_reducible refine (i_Covers.calls k _ _ t629 _ _ t633 t653 t654 _ ?side1 ?side2 ?side3 ?side4 A10.out).mono ?_); (case side1 => exact cX (Kd.R_reads' HO631.out).2.2); (case side2 => exact (Kd.R_reads' HO631.out).2.1); (case side3 => exact cX (Kd.R_reads' HO635.out).2.2); (case side4 => exact (Kd.R_reads' HO635.out).2.1); rintro e w20 ⟨rfl, hb⟩; refine ⟨_, rfl, ?_⟩; have n0_ := aK (Kd.R_below (rX HO631.out) hb); have n1_ := aK (Kd.R_below (rX HO635.out) hb); have n2_ := aK (Kd.R_below (rX HO640.out) hb); have n3_ := aK (Kd.R_below (rX HO644.out) hb); have n4_ := aK (Kd.R_below (rX HO648.out) hb); have n5_ := aK (Kd.R_below (rX HO652.out) hb); have n6_ := aK (IsS75.below (iX Hi.out) hb); have n7_ := aK (below_step (bS (IsS75.ge Hi.out)) hb); clear HO631 HO635 HO640 HO644 HO648 HO652 Hi HB; have HO631 := n0_; have HO635 := n1_; have HO640 := n2_; have HO644 := n3_; have HO648 := n4_; have HO652 := n5_; have Hi := n6_; have HB := n7_; clear n0_ n1_ n2_ n3_ n4_ n5_ n6_ n7_; (try clear hb)))
 (try simp only [Act.put, List.setIfInBounds_toArray, List.set_cons_zero, List.set_cons_succ])
 go_cut [72] (fun v72 wc => ∃ (kq : Nat) (x72_10 : Bool), v72 = .bool x72_10 ∧ Aside0 (l3_IntervalPoints.j0 kq t629 t633 t637 t641 t645 t649 t653 x72_10 t626 t636 = some r) ∧ Aside0 (kq ≤ k) ∧ Aside0 (Kd.R k65 65 wc w.heap.size (fun k_ => some k_ ≠ ((.slice Ao15 t633.length co15) : Value).ownBlock ∧ some k_ ≠ (v639 : Value).ownBlock ∧ some k_ ≠ (v643 : Value).ownBlock ∧ some k_ ≠ (v647 : Value).ownBlock ∧ some k_ ≠ (v651 : Value).ownBlock) (.slice Ao14 t629.length co14) t629) ∧ Aside0 (Kd.R k65 65 wc w.heap.size (fun k_ => some k_ ≠ ((.slice Ao14 t629.length co14) : Value).ownBlock ∧ some k_ ≠ (v639 : Value).ownBlock ∧ some k_ ≠ (v643 : Value).ownBlock ∧ some k_ ≠ (v647 : Value).ownBlock ∧ some k_ ≠ (v651 : Value).ownBlock) (.slice Ao15 t633.length co15) t633) ∧ Aside0 (Kd.R k65 65 wc w.heap.size (fun k_ => some k_ ≠ ((.slice Ao14 t629.length co14) : Value).ownBlock ∧ some k_ ≠ ((.slice Ao15 t633.length co15) : Value).ownBlock ∧ some k_ ≠ (v643 : Value).ownBlock ∧ some k_ ≠ (v647 : Value).ownBlock ∧ some k_ ≠ (v651 : Value).ownBlock) v639 t637) ∧ Aside0 (Kd.R k65 65 wc w.heap.size (fun k_ => some k_ ≠ ((.slice Ao14 t629.length co14) : Value).ownBlock ∧ some k_ ≠ ((.slice Ao15 t633.length co15) : Value).ownBlock ∧ some k_ ≠ (v639 : Value).ownBlock ∧ some k_ ≠ (v647 : Value).ownBlock ∧ some k_ ≠ (v651 : Value).ownBlock) v643 t641) ∧ Aside0 (Kd.R k65 65 wc w.heap.size (fun k_ => some k_ ≠ ((.slice Ao14 t629.length co14) : Value).ownBlock ∧ some k_ ≠ ((.slice Ao15 t633.length co15) : Value).ownBlock ∧ some k_ ≠ (v639 : Value).ownBlock ∧ some k_ ≠ (v643 : Value).ownBlock ∧ some k_ ≠ (v651 : Value).ownBlock) v647 t645) ∧ Aside0 (Kd.R k65 65 wc w.heap.size (fun k_ => some k_ ≠ ((.slice Ao14 t629.length co14) : Value).ownBlock ∧ some k_ ≠ ((.slice Ao15 t633.length co15) : Value).ownBlock ∧ some k_ ≠ (v639 : Value).ownBlock ∧ some k_ ≠ (v643 : Value).ownBlock ∧ some k_ ≠ (v647 : Value).ownBlock) v651 t649) ∧ Aside0 (IsS75 w wc g628 t626 t636) ∧ Aside0 (Below w.heap.size w wc))
 case first =>
  have H := HC11.out
  clear HC11
  by_cases c21 : t638 = 0
  rotate_left
  ·rw [if_neg c21] at H
   have c21b0 : (t638 == 0) = false := beq_eq_false_iff_ne.mpr c21
   have c21b1 : (t638 != 0) = true := bne_iff_ne.mpr c21
   (first | rw [c21b0] | (simp only [i64_w, i32_w]; rw [c21b0]) | skip)
   have H' := Aside0.mk H
   clear H
   go_wp2
   go_meet
   case rel => exact ⟨_, (true), (by first | rfl | (simp; done) | (simp [*]; done)), H', ⟨by first | omega | exact Nat.le_refl _⟩, ⟨by (with_reducible repeat (first | apply Kd.R_alloc | apply Kd.R_drewN | apply Kd.R_drew)); exact Kd.R_mono HO631.out (fun _ hk => ⟨hk.1.1.1.1.2, ⟨hk.1.1.1.2, ⟨hk.1.1.2, ⟨hk.1.2, hk.2⟩⟩⟩⟩)⟩, ⟨by (with_reducible repeat (first | apply Kd.R_alloc | apply Kd.R_drewN | apply Kd.R_drew)); exact Kd.R_mono HO635.out (fun _ hk => ⟨hk.1.1.1.1.2, ⟨hk.1.1.1.2, ⟨hk.1.1.2, ⟨hk.1.2, hk.2⟩⟩⟩⟩)⟩, ⟨by (with_reducible repeat (first | apply Kd.R_alloc | apply Kd.R_drewN | apply Kd.R_drew)); exact Kd.R_mono HO640.out (fun _ hk => ⟨hk.1.1.1.1.2, ⟨hk.1.1.1.2, ⟨hk.1.1.2, ⟨hk.1.2, hk.2⟩⟩⟩⟩)⟩, ⟨by (with_reducible repeat (first | apply Kd.R_alloc | apply Kd.R_drewN | apply Kd.R_drew)); exact Kd.R_mono HO644.out (fun _ hk => ⟨hk.1.1.1.1.2, ⟨hk.1.1.1.2, ⟨hk.1.1.2, ⟨hk.1.2, hk.2⟩⟩⟩⟩)⟩, ⟨by (with_reducible repeat (first | apply Kd.R_alloc | apply Kd.R_drewN | apply Kd.R_drew)); exact Kd.R_mono HO648.out (fun _ hk => ⟨hk.1.1.1.1.2, ⟨hk.1.1.1.2, ⟨hk.1.1.2, ⟨hk.1.2, hk.2⟩⟩⟩⟩)⟩, ⟨by (with_reducible repeat (first | apply Kd.R_alloc | apply Kd.R_drewN | apply Kd.R_drew)); exact Kd.R_mono HO652.out (fun _ hk => ⟨hk.1.1.1.1.2, ⟨hk.1.1.1.2, ⟨hk.1.1.2, ⟨hk.1.2, hk.2⟩⟩⟩⟩)⟩, ⟨iX Hi.out⟩, ⟨bS (IsS75.ge Hi.out)⟩⟩
  rw [if_pos c21] at H
  have c21b0 : (t638 == 0) = true := beq_iff_eq.mpr c21
  have c21b1 : (t638 != 0) = false := bne_eq_false_iff_eq.mpr c21
  clear c21
  (first | rw [c21b0] | (simp only [i64_w, i32_w]; rw [c21b0]) | skip)
  by_cases c22 : t642 = 0
  rotate_left
  ·rw [if_neg c22] at H
   have c22b0 : (t642 == 0) = false := beq_eq_false_iff_ne.mpr c22
   have c22b1 : (t642 != 0) = true := bne_iff_ne.mpr c22
   have H' := Aside0.mk H
   clear H
   go_wp2
   go_meet
   case rel => exact ⟨_, (true), (by first | rfl | (simp; done) | (simp [*]; done)), H', ⟨by first | omega | exact Nat.le_refl _⟩, ⟨by (with_reducible repeat (first | apply Kd.R_alloc | apply Kd.R_drewN | apply Kd.R_drew)); exact Kd.R_mono HO631.out (fun _ hk => ⟨hk.1.1.1.1.2, ⟨hk.1.1.1.2, ⟨hk.1.1.2, ⟨hk.1.2, hk.2⟩⟩⟩⟩)⟩, ⟨by (with_reducible repeat (first | apply Kd.R_alloc | apply Kd.R_drewN | apply Kd.R_drew)); exact Kd.R_mono HO635.out (fun _ hk => ⟨hk.1.1.1.1.2, ⟨hk.1.1.1.2, ⟨hk.1.1.2, ⟨hk.1.2, hk.2⟩⟩⟩⟩)⟩, ⟨by (with_reducible repeat (first | apply Kd.R_alloc | apply Kd.R_drewN | apply Kd.R_drew)); exact Kd.R_mono HO640.out (fun _ hk => ⟨hk.1.1.1.1.2, ⟨hk.1.1.1.2, ⟨hk.1.1.2, ⟨hk.1.2, hk.2⟩⟩⟩⟩)⟩, ⟨by (with_reducible repeat (first | apply Kd.R_alloc | apply Kd.R_drewN | apply Kd.R_drew)); exact Kd.R_mono HO644.out (fun _ hk => ⟨hk.1.1.1.1.2, ⟨hk.1.1.1.2, ⟨hk.1.1.2, ⟨hk.1.2, hk.2⟩⟩⟩⟩)⟩, ⟨by (with_reducible repeat (first | apply Kd.R_alloc | apply Kd.R_drewN | apply Kd.R_drew)); exact Kd.R_mono HO648.out (fun _ hk => ⟨hk.1.1.1.1.2, ⟨hk.1.1.1.2, ⟨hk.1.1.2, ⟨hk.1.2, hk.2⟩⟩⟩⟩)⟩, ⟨by (with_reducible repeat (first | apply Kd.R_alloc | apply Kd.R_drewN | apply Kd.R_drew)); exact Kd.R_mono HO652.out (fun _ hk => ⟨hk.1.1.1.1.2, ⟨hk.1.1.1.2, ⟨hk.1.1.2, ⟨hk.1.2, hk.2⟩⟩⟩⟩)⟩, ⟨iX Hi.out⟩, ⟨bS (IsS75.ge Hi.out)⟩⟩
  rw [if_pos c22] at H
  have c22b0 : (t642 == 0) = true := beq_iff_eq.mpr c22
  have c22b1 : (t642 != 0) = false := bne_eq_false_iff_eq.mpr c22
  clear c22
  by_cases c23 : t646 = 0
  rotate_left
  ·rw [if_neg c23] at H
   have c23b0 : (t646 == 0) = false := beq_eq_false_iff_ne.mpr c23
   have c23b1 : (t646 != 0) = true := bne_iff_ne.mpr c23
   have H' := Aside0.mk H
   clear H
   go_wp2
   go_meet
   case rel => exact ⟨_, (true), (by first | rfl | (simp; done) | (simp [*]; done)), H', ⟨by first | omega | exact Nat.le_refl _⟩, ⟨by (with_reducible repeat (first | apply Kd.R_alloc | apply Kd.R_drewN | apply Kd.R_drew)); exact Kd.R_mono HO631.out (fun _ hk => ⟨hk.1.1.1.1.2, ⟨hk.1.1.1.2, ⟨hk.1.1.2, ⟨hk.1.2, hk.2⟩⟩⟩⟩)⟩, ⟨by (with_reducible repeat (first | apply Kd.R_alloc | apply Kd.R_drewN | apply Kd.R_drew)); exact Kd.R_mono HO635.out (fun _ hk => ⟨hk.1.1.1.1.2, ⟨hk.1.1.1.2, ⟨hk.1.1.2, ⟨hk.1.2, hk.2⟩⟩⟩⟩)⟩, ⟨by (with_reducible repeat (first | apply Kd.R_alloc | apply Kd.R_drewN | apply Kd.R_drew)); exact Kd.R_mono HO640.out (fun _ hk => ⟨hk.1.1.1.1.2, ⟨hk.1.1.1.2, ⟨hk.1.1.2, ⟨hk.1.2, hk.2⟩⟩⟩⟩)⟩, ⟨by (with_reducible repeat (first | apply Kd.R_alloc | apply Kd.R_drewN | apply Kd.R_drew)); exact Kd.R_mono HO644.out (fun _ hk => ⟨hk.1.1.1.1.2, ⟨hk.1.1.1.2, ⟨hk.1.1.2, ⟨hk.1.2, hk.2⟩⟩⟩⟩)⟩, ⟨by (with_reducible repeat (first | apply Kd.R_alloc | apply Kd.R_drewN | apply Kd.R_drew)); exact Kd.R_mono HO648.out (fun _ hk => ⟨hk.1.1.1.1.2, ⟨hk.1.1.1.2, ⟨hk.1.1.2, ⟨hk.1.2, hk.2⟩⟩⟩⟩)⟩, ⟨by (with_reducible repeat (first | apply Kd.R_alloc | apply Kd.R_drewN | apply Kd.R_drew)); exact Kd.R_mono HO652.out (fun _ hk => ⟨hk.1.1.1.1.2, ⟨hk.1.1.1.2, ⟨hk.1.1.2, ⟨hk.1.2, hk.2⟩⟩⟩⟩)⟩, ⟨iX Hi.out⟩, ⟨bS (IsS75.ge Hi.out)⟩⟩
  rw [if_pos c23] at H
  have c23b0 : (t646 == 0) = true := beq_iff_eq.mpr c23
  have c23b1 : (t646 != 0) = false := bne_eq_false_iff_eq.mpr c23
  clear c23
  by_cases c24 : t650 = 0
  rotate_left
  ·rw [if_neg c24] at H
   have c24b0 : (t650 == 0) = false := beq_eq_false_iff_ne.mpr c24
   have c24b1 : (t650 != 0) = true := bne_iff_ne.mpr c24
   have H' := Aside0.mk H
   clear H
   go_wp2
   go_meet
   case rel => exact ⟨_, (true), (by first | rfl | (simp; done) | (simp [*]; done)), H', ⟨by first | omega | exact Nat.le_refl _⟩, ⟨by (with_reducible repeat (first | apply Kd.R_alloc | apply Kd.R_drewN | apply Kd.R_drew)); exact Kd.R_mono HO631.out (fun _ hk => ⟨hk.1.1.1.1.2, ⟨hk.1.1.1.2, ⟨hk.1.1.2, ⟨hk.1.2, hk.2⟩⟩⟩⟩)⟩, ⟨by (with_reducible repeat (first | apply Kd.R_alloc | apply Kd.R_drewN | apply Kd.R_drew)); exact Kd.R_mono HO635.out (fun _ hk => ⟨hk.1.1.1.1.2, ⟨hk.1.1.1.2, ⟨hk.1.1.2, ⟨hk.1.2, hk.2⟩⟩⟩⟩)⟩, ⟨by (with_reducible repeat (first | apply Kd.R_alloc | apply Kd.R_drewN | apply Kd.R_drew)); exact Kd.R_mono HO640.out (fun _ hk => ⟨hk.1.1.1.1.2, ⟨hk.1.1.1.2, ⟨hk.1.1.2, ⟨hk.1.2, hk.2⟩⟩⟩⟩)⟩, ⟨by (with_reducible repeat (first | apply Kd.R_alloc | apply Kd.R_drewN | apply Kd.R_drew)); exact Kd.R_mono HO644.out (fun _ hk => ⟨hk.1.1.1.1.2, ⟨hk.1.1.1.2, ⟨hk.1.1.2, ⟨hk.1.2, hk.2⟩⟩⟩⟩)⟩, ⟨by (with_reducible repeat (first | apply Kd.R_alloc | apply Kd.R_drewN | apply Kd.R_drew)); exact Kd.R_mono HO648.out (fun _ hk => ⟨hk.1.1.1.1.2, ⟨hk.1.1.1.2, ⟨hk.1.1.2, ⟨hk.1.2, hk.2⟩⟩⟩⟩)⟩, ⟨by (with_reducible repeat (first | apply Kd.R_alloc | apply Kd.R_drewN | apply Kd.R_drew)); exact Kd.R_mono HO652.out (fun _ hk => ⟨hk.1.1.1.1.2, ⟨hk.1.1.1.2, ⟨hk.1.1.2, ⟨hk.1.2, hk.2⟩⟩⟩⟩)⟩, ⟨iX Hi.out⟩, ⟨bS (IsS75.ge Hi.out)⟩⟩
  rw [if_pos c24] at H
  have c24b0 : (t650 == 0) = true := beq_iff_eq.mpr c24
  have c24b1 : (t650 != 0) = false := bne_eq_false_iff_eq.mpr c24
  clear c24
  have H' := Aside0.mk H
  clear H
  go_wp2
  go_meet
  case rel => exact ⟨_, ((t654 != 0)), (by first | rfl | (simp; done) | (simp [*]; done)), H', ⟨by first | omega | exact Nat.le_refl _⟩, ⟨by (with_reducible repeat (first | apply Kd.R_alloc | apply Kd.R_drewN | apply Kd.R_drew)); exact Kd.R_mono HO631.out (fun _ hk => ⟨hk.1.1.1.1.2, ⟨hk.1.1.1.2, ⟨hk.1.1.2, ⟨hk.1.2, hk.2⟩⟩⟩⟩)⟩, ⟨by (with_reducible repeat (first | apply Kd.R_alloc | apply Kd.R_drewN | apply Kd.R_drew)); exact Kd.R_mono HO635.out (fun _ hk => ⟨hk.1.1.1.1.2, ⟨hk.1.1.1.2, ⟨hk.1.1.2, ⟨hk.1.2, hk.2⟩⟩⟩⟩)⟩, ⟨by (with_reducible repeat (first | apply Kd.R_alloc | apply Kd.R_drewN | apply Kd.R_drew)); exact Kd.R_mono HO640.out (fun _ hk => ⟨hk.1.1.1.1.2, ⟨hk.1.1.1.2, ⟨hk.1.1.2, ⟨hk.1.2, hk.2⟩⟩⟩⟩)⟩, ⟨by (with_reducible repeat (first | apply Kd.R_alloc | apply Kd.R_drewN | apply Kd.R_drew)); exact Kd.R_mono HO644.out (fun _ hk => ⟨hk.1.1.1.1.2, ⟨hk.1.1.1.2, ⟨hk.1.1.2, ⟨hk.1.2, hk.2⟩⟩⟩⟩)⟩, ⟨by (with_reducible repeat (first | apply Kd.R_alloc | apply Kd.R_drewN | apply Kd.R_drew)); exact Kd.R_mono HO648.out (fun _ hk => ⟨hk.1.1.1.1.2, ⟨hk.1.1.1.2, ⟨hk.1.1.2, ⟨hk.1.2, hk.2⟩⟩⟩⟩)⟩, ⟨by (with_reducible repeat (first | apply Kd.R_alloc | apply Kd.R_drewN | apply Kd.R_drew)); exact Kd.R_mono HO652.out (fun _ hk => ⟨hk.1.1.1.1.2, ⟨hk.1.1.1.2, ⟨hk.1.1.2, ⟨hk.1.2, hk.2⟩⟩⟩⟩)⟩, ⟨iX Hi.out⟩, ⟨bS (IsS75.ge Hi.out)⟩⟩
 case rest =>
  clear HC11
  try clear c1
  try clear c2
  try clear p2
  try clear c3
  try clear c6
  try clear c18
  try clear c21
  try clear c21b0
  try clear c21b1
  try clear c22
  try clear c22b0
  try clear c22b1
  try clear c23
  try clear c23b0
  try clear c23b1
  try clear c24
  try clear c24b0
  try clear c24b1
  obtain ⟨kq, x72_10, rfl, HA, HJ10, HO_4, HO_5, HO_6, HO_8, HO_10, HO_12, Hi, HB⟩ := hcut
  cases kq with
  | zero => exact absurd HA.out (by simp [l3_IntervalPoints.j0])
  | succ kj10 =>
   have H := HA.out
   clear HA
   simp only [l3_IntervalPoints.j0] at H
   by_cases c25 : x72_10 = true
   rotate_left
   ·replace c25 := Bool.eq_false_iff.mpr c25
    subst c25
    rw [if_neg (show ¬ (false = true) by decide)] at H
    have H' := Aside0.mk H
    clear H
    go_wp2
    go_loopg [16] kj10 (fun kq v16 w' => ∃ (x16_2 : Int) (xq : Int), v16 = .int .i64 x16_2 ∧ Aside0 (l3_IntervalPoints.l0 kq t629 t633 t637 t641 t645 t649 t653 x16_2 t626 xq = some r) ∧ Aside0 (kq ≤ kj10) ∧ Aside0 (Kd.R k65 65 w' w.heap.size (fun k_ => some k_ ≠ ((.slice Ao15 t633.length co15) : Value).ownBlock ∧ some k_ ≠ (v639 : Value).ownBlock ∧ some k_ ≠ (v643 : Value).ownBlock ∧ some k_ ≠ (v647 : Value).ownBlock ∧ some k_ ≠ (v651 : Value).ownBlock) (.slice Ao14 t629.length co14) t629) ∧ Aside0 (Kd.R k65 65 w' w.heap.size (fun k_ => some k_ ≠ ((.slice Ao14 t629.length co14) : Value).ownBlock ∧ some k_ ≠ (v639 : Value).ownBlock ∧ some k_ ≠ (v643 : Value).ownBlock ∧ some k_ ≠ (v647 : Value).ownBlock ∧ some k_ ≠ (v651 : Value).ownBlock) (.slice Ao15 t633.length co15) t633) ∧ Aside0 (Kd.R k65 65 w' w.heap.size (fun k_ => some k_ ≠ ((.slice Ao14 t629.length co14) : Value).ownBlock ∧ some k_ ≠ ((.slice Ao15 t633.length co15) : Value).ownBlock ∧ some k_ ≠ (v643 : Value).ownBlock ∧ some k_ ≠ (v647 : Value).ownBlock ∧ some k_ ≠ (v651 : Value).ownBlock) v639 t637) ∧ Aside0 (Kd.R k65 65 w' w.heap.size (fun k_ => some k_ ≠ ((.slice Ao14 t629.length co14) : Value).ownBlock ∧ some k_ ≠ ((.slice Ao15 t633.length co15) : Value).ownBlock ∧ some k_ ≠ (v639 : Value).ownBlock ∧ some k_ ≠ (v647 : Value).ownBlock ∧ some k_ ≠ (v651 : Value).ownBlock) v643 t641) ∧ Aside0 (Kd.R k65 65 w' w.heap.size (fun k_ => some k_ ≠ ((.slice Ao14 t629.length co14) : Value).ownBlock ∧ some k_ ≠ ((.slice Ao15 t633.length co15) : Value).ownBlock ∧ some k_ ≠ (v639 : Value).ownBlock ∧ some k_ ≠ (v643 : Value).ownBlock ∧ some k_ ≠ (v651 : Value).ownBlock) v647 t645) ∧ Aside0 (Kd.R k65 65 w' w.heap.size (fun k_ => some k_ ≠ ((.slice Ao14 t629.length co14) : Value).ownBlock ∧ some k_ ≠ ((.slice Ao15 t633.length co15) : Value).ownBlock ∧ some k_ ≠ (v639 : Value).ownBlock ∧ some k_ ≠ (v643 : Value).ownBlock ∧ some k_ ≠ (v647 : Value).ownBlock) v651 t649) ∧ Aside0 (IsS75 w w' g628 t626 xq) ∧ Aside0 (Below w.heap.size w w'))
    case atStart => exact ⟨(0), (t636), (by first | rfl | (simp; done) | (simp [*]; done)), H', ⟨Nat.le_refl _⟩, ⟨rX HO_4.out⟩, ⟨rX HO_5.out⟩, ⟨rX HO_6.out⟩, ⟨rX HO_8.out⟩, ⟨rX HO_10.out⟩, ⟨rX HO_12.out⟩, ⟨iX Hi.out⟩, ⟨bS (IsS75.ge Hi.out)⟩⟩
    case round =>
     clear H'
     try clear c1
     try clear c2
     try clear p2
     try clear c3
     try clear c6
     try clear c18
     try clear c21
     try clear c21b0
     try clear c21b1
     try clear c22
     try clear c22b0
     try clear c22b1
     try clear c23
     try clear c23b0
     try clear c23b1
     try clear c24
     try clear c24b0
     try clear c24b1
     try clear c25
     try clear p2
     obtain ⟨x16_2, xq, rfl, HA, HK2, HO_4, HO_5, HO_6, HO_8, HO_10, HO_12, Hi, HB⟩ := hrel
     cases gk with
     | zero => exact absurd HA.out (by simp [l3_IntervalPoints.l0])
     | succ k2 =>
      have H := HA.out
      clear HA
      simp only [l3_IntervalPoints.l0] at H
      by_cases c26 : x16_2 < 6
      rotate_left
      ·rw [if_neg c26] at H
       have c26b0 : decide (x16_2 < 6) = false := decide_eq_false c26
       clear c26
       obtain ⟨t669, A150, H⟩ := oB H
       try dsimp only at H
       by_cases c151 : t669 = true
       rotate_left
       ·replace c151 := Bool.eq_false_iff.mpr c151
        subst c151
        rw [if_neg (show ¬ (false = true) by decide)] at H
        exact absurd (H.trans (congrArg some HRT.out)) (by simp)
       subst c151
       rw [if_pos rfl] at H
       obtain ⟨t670, A152, H⟩ := oB H
       try dsimp only at H
       by_cases c153 : t670 = true
       rotate_left
       ·replace c153 := Bool.eq_false_iff.mpr c153
        subst c153
        rw [if_neg (show ¬ (false = true) by decide)] at H
        exact absurd (H.trans (congrArg some HRT.out)) (by simp)
       subst c153
       rw [if_pos rfl] at H
       obtain ⟨t671, A154, H⟩ := oB H
       try dsimp only at H
       by_cases c155 : t671 = true
       rotate_left
       ·replace c155 := Bool.eq_false_iff.mpr c155
        subst c155
        rw [if_neg (show ¬ (false = true) by decide)] at H
        exact absurd (H.trans (congrArg some HRT.out)) (by simp)
       subst c155
       rw [if_pos rfl] at H
       obtain ⟨t672, A156, H⟩ := oB H
       try dsimp only at H
       by_cases c157 : t672 = true
       rotate_left
       ·replace c157 := Bool.eq_false_iff.mpr c157
        subst c157
        rw [if_neg (show ¬ (false = true) by decide)] at H
        exact absurd (H.trans (congrArg some HRT.out)) (by simp)
       subst c157
       rw [if_pos rfl] at H
       obtain ⟨t673, A158, H⟩ := oB H
       try dsimp only at H
       obtain rfl := Option.some.inj H
       go_wp2_with (first | ((with_reducible refine gate_callee (f := 36) rfl ?_); refine gL (some 131) rfl Try.func36 #[] rfl ?_; (with_reducible refine (l3_begun.calls k2  true _ A150.out).mono ?_); rintro e w159 ⟨rfl, hb⟩; refine ⟨_, rfl, ?_⟩; have n0_ := aK (Kd.R_below (rX HO_4.out) hb); have n1_ := aK (Kd.R_below (rX HO_5.out) hb); have n2_ := aK (Kd.R_below (rX HO_6.out) hb); have n3_ := aK (Kd.R_below (rX HO_8.out) hb); have n4_ := aK (Kd.R_below (rX HO_10.out) hb); have n5_ := aK (Kd.R_below (rX HO_12.out) hb); have n6_ := aK (IsS75.below (iX Hi.out) hb); have n7_ := aK (below_step (bS (IsS75.ge Hi.out)) hb); clear HO_4 HO_5 HO_6 HO_8 HO_10 HO_12 Hi HB; have HO_4 := n0_; have HO_5 := n1_; have HO_6 := n2_; have HO_8 := n3_; have HO_10 := n4_; have HO_12 := n5_; have Hi := n6_; have HB := n7_; clear n0_ n1_ n2_ n3_ n4_ n5_ n6_ n7_; (try clear hb); obtain ⟨Ao160, co160, eo160⟩ := Kd.R_slice HO_6.out; subst eo160) | (go_at_call 37; (with_reducible refine (i_Valid.calls k2 _ _ t637 true _ ?side1 ?side2 A152.out).mono ?_); (case side1 => exact cX (Kd.R_reads' HO_6.out).2.2); (case side2 => exact (Kd.R_reads' HO_6.out).2.1); rintro e w161 ⟨rfl, hb⟩; have n0_ := aK (Kd.R_below (rX HO_4.out) hb); have n1_ := aK (Kd.R_below (rX HO_5.out) hb); have n2_ := aK (Kd.R_below (rX HO_6.out) hb); have n3_ := aK (Kd.R_below (rX HO_8.out) hb); have n4_ := aK (Kd.R_below (rX HO_10.out) hb); have n5_ := aK (Kd.R_below (rX HO_12.out) hb); have n6_ := aK (IsS75.below (iX Hi.out) hb); have n7_ := aK (below_step (bS (IsS75.ge Hi.out)) hb); clear HO_4 HO_5 HO_6 HO_8 HO_10 HO_12 Hi HB; have HO_4 := n0_; have HO_5 := n1_; have HO_6 := n2_; have HO_8 := n3_; have HO_10 := n4_; have HO_12 := n5_; have Hi := n6_; have HB := n7_; clear n0_ n1_ n2_ n3_ n4_ n5_ n6_ n7_; (try clear hb); obtain ⟨Ao162, co162, eo162⟩ := Kd.R_slice HO_8.out; subst eo162) | (go_at_call 37; (with_reducible refine (i_Valid.calls k2 _ _ t641 true _ ?side1 ?side2 A154.out).mono ?_); (case side1 => exact cX (Kd.R_reads' HO_8.out).2.2); (case side2 => exact (Kd.R_reads' HO_8.out).2.1); rintro e w163 ⟨rfl, hb⟩; have n0_ := aK (Kd.R_below (rX HO_4.out) hb); have n1_ := aK (Kd.R_below (rX HO_5.out) hb); have n2_ := aK (Kd.R_below (rX HO_6.out) hb); have n3_ := aK (Kd.R_below (rX HO_8.out) hb); have n4_ := aK (Kd.R_below (rX HO_10.out) hb); have n5_ := aK (Kd.R_below (rX HO_12.out) hb); have n6_ := aK (IsS75.below (iX Hi.out) hb); have n7_ := aK (below_step (bS (IsS75.ge Hi.out)) hb); clear HO_4 HO_5 HO_6 HO_8 HO_10 HO_12 Hi HB; have HO_4 := n0_; have HO_5 := n1_; have HO_6 := n2_; have HO_8 := n3_; have HO_10 := n4_; have HO_12 := n5_; have Hi := n6_; have HB := n7_; clear n0_ n1_ n2_ n3_ n4_ n5_ n6_ n7_; (try clear hb); obtain ⟨Ao164, co164, eo164⟩ := Kd.R_slice HO_10.out; subst eo164) | (go_at_call 37; (with_reducible refine (i_Valid.calls k2 _ _ t645 true _ ?side1 ?side2 A156.out).mono ?_); (case side1 => exact cX (Kd.R_reads' HO_10.out).2.2); (case side2 => exact (Kd.R_reads' HO_10.out).2.1); rintro e w165 ⟨rfl, hb⟩; have n0_ := aK (Kd.R_below (rX HO_4.out) hb); have n1_ := aK (Kd.R_below (rX HO_5.out) hb); have n2_ := aK (Kd.R_below (rX HO_6.out) hb); have n3_ := aK (Kd.R_below (rX HO_8.out) hb); have n4_ := aK (Kd.R_below (rX HO_10.out) hb); have n5_ := aK (Kd.R_below (rX HO_12.out) hb); have n6_ := aK (IsS75.below (iX Hi.out) hb); have n7_ := aK (below_step (bS (IsS75.ge Hi.out)) hb); clear HO_4 HO_5 HO_6 HO_8 HO_10 HO_12 Hi HB; have HO_4 := n0_; have HO_5 := n1_; have HO_6 := n2_; have HO_8 := n3_; have HO_10 := n4_; have HO_12 := n5_; have Hi := n6_; have HB := n7_; clear n0_ n1_ n2_ n3_ n4_ n5_ n6_ n7_; (try clear hb); obtain ⟨Ao166, co166, eo166⟩ := Kd.R_slice HO_12.out; subst eo166) | (go_at_call 37; (with_reducible refine (i_Valid.calls k2 _ _ t649 t673 _ ?side1 ?side2 A158.out).mono ?_); (case side1 => exact cX (Kd.R_reads' HO_12.out).2.2); (case side2 => exact (Kd.R_reads' HO_12.out).2.1); rintro e w167 ⟨rfl, hb⟩; have n0_ := aK (Kd.R_below (rX HO_4.out) hb); have n1_ := aK (Kd.R_below (rX HO_5.out) hb); have n2_ := aK (Kd.R_below (rX HO_6.out) hb); have n3_ := aK (Kd.R_below (rX HO_8.out) hb); have n4_ := aK (Kd.R_below (rX HO_10.out) hb); have n5_ := aK (Kd.R_below (rX HO_12.out) hb); have n6_ := aK (IsS75.below (iX Hi.out) hb); have n7_ := aK (below_step (bS (IsS75.ge Hi.out)) hb); clear HO_4 HO_5 HO_6 HO_8 HO_10 HO_12 Hi HB; have HO_4 := n0_; have HO_5 := n1_; have HO_6 := n2_; have HO_8 := n3_; have HO_10 := n4_; have HO_12 := n5_; have Hi := n6_; have HB := n7_; clear n0_ n1_ n2_ n3_ n4_ n5_ n6_ n7_; (try clear hb)))
       go_ret
       exact ⟨eW, _, HBWN.out, bS (IsS75.ge Hi.out)⟩
      rw [if_pos c26] at H
      have c26b0 : decide (x16_2 < 6) = true := decide_eq_true c26
      clear c26
      obtain ⟨⟨t655, t656, t657, t658⟩, A27, H⟩ := oB H
      try dsimp only at H
      obtain ⟨t660, A28, H⟩ := oB H
      try dsimp only at H
      obtain ⟨t661, A29, H⟩ := oB H
      try dsimp only at H
      obtain ⟨t662, A30, H⟩ := oB H
      try dsimp only at H
      by_cases c31 : t660 = true
      rotate_left
      ·replace c31 := Bool.eq_false_iff.mpr c31
       subst c31
       rw [if_neg (show ¬ (false = true) by decide)] at H
       by_cases c101 : (t662 != t661) = true
       rotate_left
       ·rw [if_neg c101] at H
        have c101b0 : (t662 != t661) = false := by simpa using c101
        have c101b9 : t662 = t661 := bool_eq_of_bne c101b0
        (try (have c101b1 : decide (t662 = t661) = true := by simpa using c101))
        (try (have c101b2 : (t662 == t661) = true := by simpa using c101))
        clear c101
        obtain ⟨t666, A102, H⟩ := oB H
        try dsimp only at H
        by_cases c103 : (t666 != false) = true
        rotate_left
        ·rw [if_neg c103] at H
         have c103b0 : (t666 != false) = false := by simpa using c103
         have c103b9 : t666 = false := bool_eq_of_bne c103b0
         (try (have c103b1 : decide (t666 = false) = true := by simpa using c103))
         (try (have c103b2 : (t666 == false) = true := by simpa using c103))
         clear c103
         obtain ⟨t667, A104, H⟩ := oB H
         try dsimp only at H
         by_cases c105 : (t667 != false) = true
         rotate_left
         ·rw [if_neg c105] at H
          have c105b0 : (t667 != false) = false := by simpa using c105
          have c105b9 : t667 = false := bool_eq_of_bne c105b0
          (try (have c105b1 : decide (t667 = false) = true := by simpa using c105))
          (try (have c105b2 : (t667 == false) = true := by simpa using c105))
          clear c105
          obtain ⟨t668, A106, H⟩ := oB H
          try dsimp only at H
          by_cases c107 : (t668 == false) = true
          rotate_left
          ·rw [if_neg c107] at H
           have c107b0 : (t668 == false) = false := by simpa using c107
           have c107b9 : t668 = !false := bool_not_of_beq c107b0
           (try (have c107b1 : decide (t668 = false) = false := by simpa using c107))
           (try (have c107b2 : (t668 == false) = false := by simpa using c107))
           (try (have c107b3 : ¬ (t668 = false) := by simpa using c107))
           clear c107
           by_cases c108 : t653 = true
           rotate_left
           ·replace c108 := Bool.eq_false_iff.mpr c108
            subst c108
            rw [if_neg (show ¬ (false = true) by decide)] at H
            have H' := Aside0.mk H
            clear H
            try go_wp2_with (first | ((with_reducible refine gate_callee (f := 19) rfl ?_); refine gL (some 78) rfl Try.func19 #[.pointer (some ⟨g628, 0, none⟩)] rfl ?_; (with_reducible refine (cc_Any.calls k2 g628 t626 xq t655 t656 t657 t658 w _ ?side1 ?side2 A27.out).mono ?_); (case side1 => exact iX Hi.out); (case side2 => exact bS (IsS75.ge Hi.out)); rintro e w130 ⟨rfl, hi, hb, hk⟩; refine ⟨_, rfl, ?_⟩; have n0_ := aK (Kd.R_mono (Kd.R_keep (IsS75.apart (show IsS75 w _ g628 t626 xq from iX Hi.out) (rX HO_4.out) (by decide)) hk (fun _ h => h.2)) (fun _ h => h.1)); have n1_ := aK (Kd.R_mono (Kd.R_keep (IsS75.apart (show IsS75 w _ g628 t626 xq from iX Hi.out) (rX HO_5.out) (by decide)) hk (fun _ h => h.2)) (fun _ h => h.1)); have n2_ := aK (Kd.R_mono (Kd.R_keep (IsS75.apart (show IsS75 w _ g628 t626 xq from iX Hi.out) (rX HO_6.out) (by decide)) hk (fun _ h => h.2)) (fun _ h => h.1)); have n3_ := aK (Kd.R_mono (Kd.R_keep (IsS75.apart (show IsS75 w _ g628 t626 xq from iX Hi.out) (rX HO_8.out) (by decide)) hk (fun _ h => h.2)) (fun _ h => h.1)); have n4_ := aK (Kd.R_mono (Kd.R_keep (IsS75.apart (show IsS75 w _ g628 t626 xq from iX Hi.out) (rX HO_10.out) (by decide)) hk (fun _ h => h.2)) (fun _ h => h.1)); have n5_ := aK (Kd.R_mono (Kd.R_keep (IsS75.apart (show IsS75 w _ g628 t626 xq from iX Hi.out) (rX HO_12.out) (by decide)) hk (fun _ h => h.2)) (fun _ h => h.1)); have n6_ := aK (hb); have n7_ := aK (hi); clear HO_4 HO_5 HO_6 HO_8 HO_10 HO_12 HB Hi; have HO_4 := n0_; have HO_5 := n1_; have HO_6 := n2_; have HO_8 := n3_; have HO_10 := n4_; have HO_12 := n5_; have HB := n6_; have Hi := n7_; clear n0_ n1_ n2_ n3_ n4_ n5_ n6_ n7_; (try clear hb hk hi)) | ((with_reducible refine gate_dst (N := 17) rfl ?_); refine box_event ?hg (N := 17) ?hd (cs := #[.int .i64 0, .int .i64 0, .string (⟨#[]⟩ : ByteArray)]) (t := 24) ?hr ?_; (case hd => rfl); (case hg => rfl); (case hr => exact hR); intro gb hg w131 hbox hb; have n0_ := aK (Kd.R_below (rX HO_4.out) hb); have n1_ := aK (Kd.R_below (rX HO_5.out) hb); have n2_ := aK (Kd.R_below (rX HO_6.out) hb); have n3_ := aK (Kd.R_below (rX HO_8.out) hb); have n4_ := aK (Kd.R_below (rX HO_10.out) hb); have n5_ := aK (Kd.R_below (rX HO_12.out) hb); have n6_ := aK (IsS75.below (iX Hi.out) hb); have n7_ := aK (below_step (bS (IsS75.ge Hi.out)) hb); have n8_ := aK (hbox); have n9_ := aK ((by rw [hg]; exact (below_size (bS (IsS75.ge Hi.out))) : w.heap.size ≤ gb)); have n10_ := aK ((by rw [hg]; exact (below_size (bS (IsS75.ge Hi.out))) : w.heap.size ≤ gb)); have n11_ := aK ((by rw [hg]; exact Nat.ne_of_lt (IsS75.lt (show IsS75 w _ g628 t626 t658 from iX Hi.out)) : g628 ≠ gb)); have n12_ := aK ((by rw [hg]; exact Nat.ne_of_gt (IsS75.lt (show IsS75 w _ g628 t626 t658 from iX Hi.out)) : gb ≠ g628)); clear HO_4 HO_5 HO_6 HO_8 HO_10 HO_12 Hi HB; have HO_4 := n0_; have HO_5 := n1_; have HO_6 := n2_; have HO_8 := n3_; have HO_10 := n4_; have HO_12 := n5_; have Hi := n6_; have HB := n7_; have BK := n8_; have GW := n9_; have GE := n10_; have NB := n11_; have NB659_628 := n12_; clear n0_ n1_ n2_ n3_ n4_ n5_ n6_ n7_ n8_ n9_ n10_ n11_ n12_ hb hbox hg; have hnb132 := NB659_628.out; have hnc132 := NB.out; obtain ⟨hcz133_0, hcz133_1, hcz133_2⟩ := z3 BK.out (.int .i64 0) (.int .i64 0) (.string (⟨#[]⟩ : ByteArray)); obtain ⟨hfz133_0, hfz133_1, hfz133_2⟩ := f3 BK.out))
            have n0_ : Aside0 (Kd.R k65 65 (((w131.setCell ⟨gb, 0, none⟩ (.int .i64 t655)).setCell ⟨gb, 1, none⟩ (.int .i64 t656)).setCell ⟨gb, 2, none⟩ (.string t657)) w.heap.size (fun k_ => some k_ ≠ (.slice Ao15 t633.length co15 : Value).ownBlock ∧ some k_ ≠ (v639 : Value).ownBlock ∧ some k_ ≠ (v643 : Value).ownBlock ∧ some k_ ≠ (v647 : Value).ownBlock ∧ some k_ ≠ (v651 : Value).ownBlock) (.slice Ao14 t629.length co14) t629) := ⟨by (with_reducible repeat (first | apply Kd.R_alloc | apply Kd.R_drewN | apply Kd.R_drew)); exact Kd.R_mono (Kd.R_far (p := ⟨gb, 2, none⟩) (Kd.R_far (p := ⟨gb, 1, none⟩) (Kd.R_far (p := ⟨gb, 0, none⟩) (Kd.R_types HO_4.out BK.out (by decide)) (fun _ hk => hk.2) (.int .i64 t655)) (fun _ hk => hk.2) (.int .i64 t656)) (fun _ hk => hk.2) (.string t657)) (fun _ hk => ⟨hk.1.1, ⟨hk.1.2.1, ⟨hk.1.2.2.1, ⟨hk.1.2.2.2.1, hk.1.2.2.2.2⟩⟩⟩⟩)⟩
            have n1_ : Aside0 (Kd.R k65 65 (((w131.setCell ⟨gb, 0, none⟩ (.int .i64 t655)).setCell ⟨gb, 1, none⟩ (.int .i64 t656)).setCell ⟨gb, 2, none⟩ (.string t657)) w.heap.size (fun k_ => some k_ ≠ (.slice Ao14 t629.length co14 : Value).ownBlock ∧ some k_ ≠ (v639 : Value).ownBlock ∧ some k_ ≠ (v643 : Value).ownBlock ∧ some k_ ≠ (v647 : Value).ownBlock ∧ some k_ ≠ (v651 : Value).ownBlock) (.slice Ao15 t633.length co15) t633) := ⟨by (with_reducible repeat (first | apply Kd.R_alloc | apply Kd.R_drewN | apply Kd.R_drew)); exact Kd.R_mono (Kd.R_far (p := ⟨gb, 2, none⟩) (Kd.R_far (p := ⟨gb, 1, none⟩) (Kd.R_far (p := ⟨gb, 0, none⟩) (Kd.R_types HO_5.out BK.out (by decide)) (fun _ hk => hk.2) (.int .i64 t655)) (fun _ hk => hk.2) (.int .i64 t656)) (fun _ hk => hk.2) (.string t657)) (fun _ hk => ⟨hk.1.1, ⟨hk.1.2.1, ⟨hk.1.2.2.1, ⟨hk.1.2.2.2.1, hk.1.2.2.2.2⟩⟩⟩⟩)⟩
            have n2_ : Aside0 (Kd.R k65 65 (((w131.setCell ⟨gb, 0, none⟩ (.int .i64 t655)).setCell ⟨gb, 1, none⟩ (.int .i64 t656)).setCell ⟨gb, 2, none⟩ (.string t657)) w.heap.size (fun k_ => some k_ ≠ (.slice Ao14 t629.length co14 : Value).ownBlock ∧ some k_ ≠ (.slice Ao15 t633.length co15 : Value).ownBlock ∧ some k_ ≠ (v643 : Value).ownBlock ∧ some k_ ≠ (v647 : Value).ownBlock ∧ some k_ ≠ (v651 : Value).ownBlock) v639 t637) := ⟨by (with_reducible repeat (first | apply Kd.R_alloc | apply Kd.R_drewN | apply Kd.R_drew)); exact Kd.R_mono (Kd.R_far (p := ⟨gb, 2, none⟩) (Kd.R_far (p := ⟨gb, 1, none⟩) (Kd.R_far (p := ⟨gb, 0, none⟩) (Kd.R_types HO_6.out BK.out (by decide)) (fun _ hk => hk.2) (.int .i64 t655)) (fun _ hk => hk.2) (.int .i64 t656)) (fun _ hk => hk.2) (.string t657)) (fun _ hk => ⟨hk.1.1, ⟨hk.1.2.1, ⟨hk.1.2.2.1, ⟨hk.1.2.2.2.1, hk.1.2.2.2.2⟩⟩⟩⟩)⟩
            have n3_ : Aside0 (Kd.R k65 65 (((w131.setCell ⟨gb, 0, none⟩ (.int .i64 t655)).setCell ⟨gb, 1, none⟩ (.int .i64 t656)).setCell ⟨gb, 2, none⟩ (.string t657)) w.heap.size (fun k_ => some k_ ≠ (.slice Ao14 t629.length co14 : Value).ownBlock ∧ some k_ ≠ (.slice Ao15 t633.length co15 : Value).ownBlock ∧ some k_ ≠ (v639 : Value).ownBlock ∧ some k_ ≠ (v647 : Value).ownBlock ∧ some k_ ≠ (v651 : Value).ownBlock) v643 t641) := ⟨by (with_reducible repeat (first | apply Kd.R_alloc | apply Kd.R_drewN | apply Kd.R_drew)); exact Kd.R_mono (Kd.R_far (p := ⟨gb, 2, none⟩) (Kd.R_far (p := ⟨gb, 1, none⟩) (Kd.R_far (p := ⟨gb, 0, none⟩) (Kd.R_types HO_8.out BK.out (by decide)) (fun _ hk => hk.2) (.int .i64 t655)) (fun _ hk => hk.2) (.int .i64 t656)) (fun _ hk => hk.2) (.string t657)) (fun _ hk => ⟨hk.1.1, ⟨hk.1.2.1, ⟨hk.1.2.2.1, ⟨hk.1.2.2.2.1, hk.1.2.2.2.2⟩⟩⟩⟩)⟩
            have n4_ : Aside0 (Kd.R k65 65 (((w131.setCell ⟨gb, 0, none⟩ (.int .i64 t655)).setCell ⟨gb, 1, none⟩ (.int .i64 t656)).setCell ⟨gb, 2, none⟩ (.string t657)) w.heap.size (fun k_ => some k_ ≠ (.slice Ao14 t629.length co14 : Value).ownBlock ∧ some k_ ≠ (.slice Ao15 t633.length co15 : Value).ownBlock ∧ some k_ ≠ (v639 : Value).ownBlock ∧ some k_ ≠ (v643 : Value).ownBlock ∧ some k_ ≠ (v651 : Value).ownBlock) v647 t645) := ⟨by (with_reducible repeat (first | apply Kd.R_alloc | apply Kd.R_drewN | apply Kd.R_drew)); exact Kd.R_mono (Kd.R_far (p := ⟨gb, 2, none⟩) (Kd.R_far (p := ⟨gb, 1, none⟩) (Kd.R_far (p := ⟨gb, 0, none⟩) (Kd.R_types HO_10.out BK.out (by decide)) (fun _ hk => hk.2) (.int .i64 t655)) (fun _ hk => hk.2) (.int .i64 t656)) (fun _ hk => hk.2) (.string t657)) (fun _ hk => ⟨hk.1.1, ⟨hk.1.2.1, ⟨hk.1.2.2.1, ⟨hk.1.2.2.2.1, hk.1.2.2.2.2⟩⟩⟩⟩)⟩
            have n5_ : Aside0 (Kd.R k65 65 (((w131.setCell ⟨gb, 0, none⟩ (.int .i64 t655)).setCell ⟨gb, 1, none⟩ (.int .i64 t656)).setCell ⟨gb, 2, none⟩ (.string t657)) w.heap.size (fun k_ => some k_ ≠ (.slice Ao14 t629.length co14 : Value).ownBlock ∧ some k_ ≠ (.slice Ao15 t633.length co15 : Value).ownBlock ∧ some k_ ≠ (v639 : Value).ownBlock ∧ some k_ ≠ (v643 : Value).ownBlock ∧ some k_ ≠ (v647 : Value).ownBlock) v651 t649) := ⟨by (with_reducible repeat (first | apply Kd.R_alloc | apply Kd.R_drewN | apply Kd.R_drew)); exact Kd.R_mono (Kd.R_far (p := ⟨gb, 2, none⟩) (Kd.R_far (p := ⟨gb, 1, none⟩) (Kd.R_far (p := ⟨gb, 0, none⟩) (Kd.R_types HO_12.out BK.out (by decide)) (fun _ hk => hk.2) (.int .i64 t655)) (fun _ hk => hk.2) (.int .i64 t656)) (fun _ hk => hk.2) (.string t657)) (fun _ hk => ⟨hk.1.1, ⟨hk.1.2.1, ⟨hk.1.2.2.1, ⟨hk.1.2.2.2.1, hk.1.2.2.2.2⟩⟩⟩⟩)⟩
            have n6_ : Aside0 ((((w131.setCell ⟨gb, 0, none⟩ (.int .i64 t655)).setCell ⟨gb, 1, none⟩ (.int .i64 t656)).setCell ⟨gb, 2, none⟩ (.string t657)).heap[gb]? = some (.cells #[.int .i64 t655, .int .i64 t656, .string t657] 24 (0, 0))) := ⟨by (with_reducible repeat (first | refine blk_drewN ?_ _ | refine blk_drew ?_ | refine blk_alloc ?_ _)); refine blk_put (cs := #[.int .i64 t655, .int .i64 t656, .string (⟨#[]⟩ : ByteArray)]) ?_ 2 _ rfl; (with_reducible repeat (first | refine blk_drewN ?_ _ | refine blk_drew ?_ | refine blk_alloc ?_ _)); refine blk_put (cs := #[.int .i64 t655, .int .i64 0, .string (⟨#[]⟩ : ByteArray)]) ?_ 1 _ rfl; (with_reducible repeat (first | refine blk_drewN ?_ _ | refine blk_drew ?_ | refine blk_alloc ?_ _)); refine blk_put (cs := #[.int .i64 0, .int .i64 0, .string (⟨#[]⟩ : ByteArray)]) ?_ 0 _ rfl; (with_reducible repeat (first | refine blk_drewN ?_ _ | refine blk_drew ?_ | refine blk_alloc ?_ _)); exact BK.out⟩
            have n7_ : Aside0 (IsS75 w (((w131.setCell ⟨gb, 0, none⟩ (.int .i64 t655)).setCell ⟨gb, 1, none⟩ (.int .i64 t656)).setCell ⟨gb, 2, none⟩ (.string t657)) g628 t626 t658) := ⟨iF Hi.out NB.out⟩
            have n8_ : Aside0 (Below w.heap.size w (((w131.setCell ⟨gb, 0, none⟩ (.int .i64 t655)).setCell ⟨gb, 1, none⟩ (.int .i64 t656)).setCell ⟨gb, 2, none⟩ (.string t657))) := ⟨bT (IsS75.ge Hi.out) GE.out⟩
            (try clear HO_4)
            (try clear HO_5)
            (try clear HO_6)
            (try clear HO_8)
            (try clear HO_10)
            (try clear HO_12)
            (try clear BK)
            (try clear Hi)
            (try clear HB)
            generalize (((w131.setCell ⟨gb, 0, none⟩ (.int .i64 t655)).setCell ⟨gb, 1, none⟩ (.int .i64 t656)).setCell ⟨gb, 2, none⟩ (.string t657)) = w134 at n0_ n1_ n2_ n3_ n4_ n5_ n6_ n7_ n8_ ⊢
            have HO_4 := n0_
            have HO_5 := n1_
            have HO_6 := n2_
            have HO_8 := n3_
            have HO_10 := n4_
            have HO_12 := n5_
            have BK := n6_
            have Hi := n7_
            have HB := n8_
            clear n0_ n1_ n2_ n3_ n4_ n5_ n6_ n7_ n8_
            have n0_ := aK (Kd.R_drew HO_4.out)
            have n1_ := aK (Kd.R_drew HO_5.out)
            have n2_ := aK (Kd.R_drew HO_6.out)
            have n3_ := aK (Kd.R_drew HO_8.out)
            have n4_ := aK (Kd.R_drew HO_10.out)
            have n5_ := aK (Kd.R_drew HO_12.out)
            have n6_ := aK (blk_drew BK.out)
            have n7_ := aK (IsS75.drew Hi.out)
            have n8_ := aK (below_drew1 HB.out)
            clear HO_4
            clear HO_5
            clear HO_6
            clear HO_8
            clear HO_10
            clear HO_12
            clear BK
            clear Hi
            clear HB
            have HO_4 := n0_
            have HO_5 := n1_
            have HO_6 := n2_
            have HO_8 := n3_
            have HO_10 := n4_
            have HO_12 := n5_
            have BK := n6_
            have Hi := n7_
            have HB := n8_
            clear n0_ n1_ n2_ n3_ n4_ n5_ n6_ n7_ n8_
            refine start_ (n := 8) (S := fun w' => w'.cell? ⟨gb, 0, none⟩ = some (.int .i64 t655) ∧ w'.cell? ⟨gb, 1, none⟩ = some (.int .i64 t656) ∧ w'.cell? ⟨gb, 2, none⟩ = some (.string t657)) (ds := []) #[false, false, false, false, false, false, false, false] (by kernel_rfl) rfl rfl ⟨(blk_cell BK.out 0).trans rfl, (blk_cell BK.out 1).trans rfl, (blk_cell BK.out 2).trans rfl⟩ (fun hHeld => ?_); refine with_tabW l3_IntervalPoints.tab14 l3_IntervalPoints.bits14 (fun HT_ HW_ => ?_)
            generalize w134.drew = w135 at HO_4 HO_5 HO_6 HO_8 HO_10 HO_12 BK Hi HB hHeld ⊢
            refine pY (i := 0) (N := some 79) (tf 1 7) rfl rfl HT_.out ?_
            refine pY (i := 3) (N := some 82) #[true, false, false, true, false, false, false, false] rfl rfl HT_.out ?_
            refine take_ (i := 1) (N := some 80) (v := ?_) (a' := ?_) #[true, true, false, true, false, false, false, false] rfl rfl (take_ofW HT_.out HW_.out (by kernel_rfl)) (fun _ _ _ h => h) (Or.inl ⟨by rfl, ?_⟩) hHeld ?_ ?_
            rotate_left
            ·rintro w' ⟨s0, s1, s2⟩
             go_simp
             with_reducible rfl
            rotate_left
            ·exact aP
            refine take_ (i := 4) (N := some 83) (v := ?_) (a' := ?_) #[true, true, false, true, true, false, false, false] rfl rfl (take_ofW HT_.out HW_.out (by kernel_rfl)) (fun _ _ _ h => h) (Or.inl ⟨by rfl, ?_⟩) hHeld ?_ ?_
            rotate_left
            ·rintro w' ⟨s0, s1, s2⟩
             go_simp
             with_reducible rfl
            rotate_left
            ·exact aP
            refine one_ (i := 2) (N := some 81) #[true, true, true, true, true, false, false, false] rfl rfl (one_of HT_.out (by kernel_rfl)) (by decide) (fun K hK => ?_)
            refine goes_ Try.func35 (by kernel_rfl) rfl #[.slice Ao14 t629.length co14, .agg #[.int .i64 t655, .int .i64 t656, .string t657]] (by rfl) rfl rfl (by (try simp only [List.map_toArray, List.map_cons, List.map_nil]); first | done | rfl | (simp only [List.length_drop, List.length_take]; rfl)) ?_
            with_reducible refine (i_Has.calls k2 _ _ t629 t655 t656 t657 false _ ?side1 ?side2 A28.out).mono ?_
            (case side1 => exact cX (Kd.R_reads' HO_4.out).2.2)
            (case side2 => exact (Kd.R_reads' HO_4.out).2.1)
            rintro e w136 ⟨rfl, hb⟩
            refine ⟨_, rfl, ?_⟩
            have n0_ := aK (Kd.R_below (rX HO_4.out) hb)
            have n1_ := aK (Kd.R_below (rX HO_5.out) hb)
            have n2_ := aK (Kd.R_below (rX HO_6.out) hb)
            have n3_ := aK (Kd.R_below (rX HO_8.out) hb)
            have n4_ := aK (Kd.R_below (rX HO_10.out) hb)
            have n5_ := aK (Kd.R_below (rX HO_12.out) hb)
            have n6_ := aK (IsS75.below (iF Hi.out NB.out) hb)
            have n7_ := aK (blk_below (bX BK.out) hb)
            have n8_ := aK (below_step (bT (IsS75.ge Hi.out) GE.out) hb)
            clear HO_4
            clear HO_5
            clear HO_6
            clear HO_8
            clear HO_10
            clear HO_12
            clear Hi
            clear BK
            clear HB
            have HO_4 := n0_
            have HO_5 := n1_
            have HO_6 := n2_
            have HO_8 := n3_
            have HO_10 := n4_
            have HO_12 := n5_
            have Hi := n6_
            have BK := n7_
            have HB := n8_
            clear n0_ n1_ n2_ n3_ n4_ n5_ n6_ n7_ n8_
            (try clear hb)
            (try clear hb2)
            (try clear hk)
            (try clear hi)
            refine hK.out _ _ ⟨(blk_cell BK.out 0).trans rfl, (blk_cell BK.out 1).trans rfl, (blk_cell BK.out 2).trans rfl⟩ (fun hHeld => ?_)
            clear hK K
            refine norm_ (a' := ?_) ?_ ?_
            rotate_left
            ·show Act.put _ (some 81) _ = _
             simp only [Act.put, List.setIfInBounds_toArray, List.set_cons_zero, List.set_cons_succ, i64_w, i32_w]
             rfl
            refine one_ (i := 5) (N := some 84) #[true, true, true, true, true, true, false, false] rfl rfl (one_of HT_.out (by kernel_rfl)) (by decide) (fun K hK => ?_)
            refine goes_ Try.func35 (by kernel_rfl) rfl #[.slice Ao15 t633.length co15, .agg #[.int .i64 t655, .int .i64 t656, .string t657]] (by rfl) rfl rfl (by (try simp only [List.map_toArray, List.map_cons, List.map_nil]); first | done | rfl | (simp only [List.length_drop, List.length_take]; rfl)) ?_
            with_reducible refine (i_Has.calls k2 _ _ t633 t655 t656 t657 t661 _ ?side1 ?side2 A29.out).mono ?_
            (case side1 => exact cX (Kd.R_reads' HO_5.out).2.2)
            (case side2 => exact (Kd.R_reads' HO_5.out).2.1)
            rintro e w137 ⟨rfl, hb⟩
            refine ⟨_, rfl, ?_⟩
            have n0_ := aK (Kd.R_below (rX HO_4.out) hb)
            have n1_ := aK (Kd.R_below (rX HO_5.out) hb)
            have n2_ := aK (Kd.R_below (rX HO_6.out) hb)
            have n3_ := aK (Kd.R_below (rX HO_8.out) hb)
            have n4_ := aK (Kd.R_below (rX HO_10.out) hb)
            have n5_ := aK (Kd.R_below (rX HO_12.out) hb)
            have n6_ := aK (IsS75.below (iF Hi.out NB.out) hb)
            have n7_ := aK (blk_below (bX BK.out) hb)
            have n8_ := aK (below_step (bT (IsS75.ge Hi.out) GE.out) hb)
            clear HO_4
            clear HO_5
            clear HO_6
            clear HO_8
            clear HO_10
            clear HO_12
            clear Hi
            clear BK
            clear HB
            have HO_4 := n0_
            have HO_5 := n1_
            have HO_6 := n2_
            have HO_8 := n3_
            have HO_10 := n4_
            have HO_12 := n5_
            have Hi := n6_
            have BK := n7_
            have HB := n8_
            clear n0_ n1_ n2_ n3_ n4_ n5_ n6_ n7_ n8_
            (try clear hb)
            (try clear hb2)
            (try clear hk)
            (try clear hi)
            refine hK.out _ _ ⟨(blk_cell BK.out 0).trans rfl, (blk_cell BK.out 1).trans rfl, (blk_cell BK.out 2).trans rfl⟩ (fun hHeld => ?_)
            clear hK K
            refine norm_ (a' := ?_) ?_ ?_
            rotate_left
            ·show Act.put _ (some 84) _ = _
             simp only [Act.put, List.setIfInBounds_toArray, List.set_cons_zero, List.set_cons_succ, i64_w, i32_w]
             rfl
            refine pY (i := 6) (N := some 18) (tf 7 1) rfl rfl HT_.out ?_
            refine pY (i := 7) (N := some 19) (tf 8 0) rfl rfl HT_.out ?_
            refine done_ (done_of HT_.out (by kernel_rfl)) ?_
            obtain ⟨hcz138_0, hcz138_1, hcz138_2⟩ := z3 BK.out (.int .i64 t655) (.int .i64 t656) (.string t657)
            obtain ⟨hfz138_0, hfz138_1, hfz138_2⟩ := f3 BK.out
            obtain ⟨Ao139, co139, eo139⟩ := Kd.R_slice HO_6.out
            subst eo139
            try go_wp2_with (first | ((with_reducible refine gate_callee (f := 35) rfl ?_); refine gL (some 87) rfl Try.func35 #[.slice Ao139 t637.length co139, .agg #[.int .i64 t655, .int .i64 t656, .string t657]] rfl ?_; (with_reducible refine (i_Has.calls k2 _ _ t637 t655 t656 t657 t662 _ ?side1 ?side2 A30.out).mono ?_); (case side1 => exact cX (Kd.R_reads' HO_6.out).2.2); (case side2 => exact (Kd.R_reads' HO_6.out).2.1); rintro e w140 ⟨rfl, hb⟩; refine ⟨_, rfl, ?_⟩; have n0_ := aK (Kd.R_below (rX HO_4.out) hb); have n1_ := aK (Kd.R_below (rX HO_5.out) hb); have n2_ := aK (Kd.R_below (rX HO_6.out) hb); have n3_ := aK (Kd.R_below (rX HO_8.out) hb); have n4_ := aK (Kd.R_below (rX HO_10.out) hb); have n5_ := aK (Kd.R_below (rX HO_12.out) hb); have n6_ := aK (IsS75.below (iF Hi.out NB.out) hb); have n7_ := aK (blk_below (bX BK.out) hb); have n8_ := aK (below_step (bT (IsS75.ge Hi.out) GE.out) hb); clear HO_4 HO_5 HO_6 HO_8 HO_10 HO_12 Hi BK HB; have HO_4 := n0_; have HO_5 := n1_; have HO_6 := n2_; have HO_8 := n3_; have HO_10 := n4_; have HO_12 := n5_; have Hi := n6_; have BK := n7_; have HB := n8_; clear n0_ n1_ n2_ n3_ n4_ n5_ n6_ n7_ n8_; (try clear hb); obtain ⟨hcz141_0, hcz141_1, hcz141_2⟩ := z3 BK.out (.int .i64 t655) (.int .i64 t656) (.string t657); obtain ⟨hfz141_0, hfz141_1, hfz141_2⟩ := f3 BK.out; obtain ⟨Ao142, co142, eo142⟩ := Kd.R_slice HO_8.out; subst eo142) | (go_at_call 35; (with_reducible refine (i_Has.calls k2 _ _ t641 t655 t656 t657 t666 _ ?side1 ?side2 A102.out).mono ?_); (case side1 => exact cX (Kd.R_reads' HO_8.out).2.2); (case side2 => exact (Kd.R_reads' HO_8.out).2.1); rintro e w143 ⟨rfl, hb⟩; have n0_ := aK (Kd.R_below (rX HO_4.out) hb); have n1_ := aK (Kd.R_below (rX HO_5.out) hb); have n2_ := aK (Kd.R_below (rX HO_6.out) hb); have n3_ := aK (Kd.R_below (rX HO_8.out) hb); have n4_ := aK (Kd.R_below (rX HO_10.out) hb); have n5_ := aK (Kd.R_below (rX HO_12.out) hb); have n6_ := aK (IsS75.below (iF Hi.out NB.out) hb); have n7_ := aK (blk_below (bX BK.out) hb); have n8_ := aK (below_step (bT (IsS75.ge Hi.out) GE.out) hb); clear HO_4 HO_5 HO_6 HO_8 HO_10 HO_12 Hi BK HB; have HO_4 := n0_; have HO_5 := n1_; have HO_6 := n2_; have HO_8 := n3_; have HO_10 := n4_; have HO_12 := n5_; have Hi := n6_; have BK := n7_; have HB := n8_; clear n0_ n1_ n2_ n3_ n4_ n5_ n6_ n7_ n8_; (try clear hb); obtain ⟨hcz144_0, hcz144_1, hcz144_2⟩ := z3 BK.out (.int .i64 t655) (.int .i64 t656) (.string t657); obtain ⟨hfz144_0, hfz144_1, hfz144_2⟩ := f3 BK.out; obtain ⟨Ao145, co145, eo145⟩ := Kd.R_slice HO_10.out; subst eo145) | (go_at_call 35; (with_reducible refine (i_Has.calls k2 _ _ t645 t655 t656 t657 t667 _ ?side1 ?side2 A104.out).mono ?_); (case side1 => exact cX (Kd.R_reads' HO_10.out).2.2); (case side2 => exact (Kd.R_reads' HO_10.out).2.1); rintro e w146 ⟨rfl, hb⟩; have n0_ := aK (Kd.R_below (rX HO_4.out) hb); have n1_ := aK (Kd.R_below (rX HO_5.out) hb); have n2_ := aK (Kd.R_below (rX HO_6.out) hb); have n3_ := aK (Kd.R_below (rX HO_8.out) hb); have n4_ := aK (Kd.R_below (rX HO_10.out) hb); have n5_ := aK (Kd.R_below (rX HO_12.out) hb); have n6_ := aK (IsS75.below (iF Hi.out NB.out) hb); have n7_ := aK (blk_below (bX BK.out) hb); have n8_ := aK (below_step (bT (IsS75.ge Hi.out) GE.out) hb); clear HO_4 HO_5 HO_6 HO_8 HO_10 HO_12 Hi BK HB; have HO_4 := n0_; have HO_5 := n1_; have HO_6 := n2_; have HO_8 := n3_; have HO_10 := n4_; have HO_12 := n5_; have Hi := n6_; have BK := n7_; have HB := n8_; clear n0_ n1_ n2_ n3_ n4_ n5_ n6_ n7_ n8_; (try clear hb); obtain ⟨hcz147_0, hcz147_1, hcz147_2⟩ := z3 BK.out (.int .i64 t655) (.int .i64 t656) (.string t657); obtain ⟨hfz147_0, hfz147_1, hfz147_2⟩ := f3 BK.out; obtain ⟨Ao148, co148, eo148⟩ := Kd.R_slice HO_12.out; subst eo148) | (go_at_call 35; (with_reducible refine (i_Has.calls k2 _ _ t649 t655 t656 t657 t668 _ ?side1 ?side2 A106.out).mono ?_); (case side1 => exact cX (Kd.R_reads' HO_12.out).2.2); (case side2 => exact (Kd.R_reads' HO_12.out).2.1); rintro e w149 ⟨rfl, hb⟩; have n0_ := aK (Kd.R_below (rX HO_4.out) hb); have n1_ := aK (Kd.R_below (rX HO_5.out) hb); have n2_ := aK (Kd.R_below (rX HO_6.out) hb); have n3_ := aK (Kd.R_below (rX HO_8.out) hb); have n4_ := aK (Kd.R_below (rX HO_10.out) hb); have n5_ := aK (Kd.R_below (rX HO_12.out) hb); have n6_ := aK (IsS75.below (iF Hi.out NB.out) hb); have n7_ := aK (blk_below (bX BK.out) hb); have n8_ := aK (below_step (bT (IsS75.ge Hi.out) GE.out) hb); clear HO_4 HO_5 HO_6 HO_8 HO_10 HO_12 Hi BK HB; have HO_4 := n0_; have HO_5 := n1_; have HO_6 := n2_; have HO_8 := n3_; have HO_10 := n4_; have HO_12 := n5_; have Hi := n6_; have BK := n7_; have HB := n8_; clear n0_ n1_ n2_ n3_ n4_ n5_ n6_ n7_ n8_; (try clear hb)))
            go_roundg k2
            case measure => have := HJ10.out; have := HK2.out; omega
            case rel => exact ⟨(wrap64 (x16_2 + 1)), (t658), (by first | rfl | (simp; done) | (simp [*]; done)), H', ⟨by have := HJ10.out; have := HK2.out; omega⟩, ⟨rX HO_4.out⟩, ⟨rX HO_5.out⟩, ⟨rX HO_6.out⟩, ⟨rX HO_8.out⟩, ⟨rX HO_10.out⟩, ⟨rX HO_12.out⟩, ⟨iF Hi.out NB.out⟩, ⟨bT (IsS75.ge Hi.out) GE.out⟩⟩
           subst c108
           rw [if_pos rfl] at H
           by_cases c109 : t661 = true
           rotate_left
           ·replace c109 := Bool.eq_false_iff.mpr c109
            subst c109
            rw [if_neg (show ¬ (false = true) by decide)] at H
            have H' := Aside0.mk H
            clear H
            try go_wp2_with (first | ((with_reducible refine gate_callee (f := 19) rfl ?_); refine gL (some 78) rfl Try.func19 #[.pointer (some ⟨g628, 0, none⟩)] rfl ?_; (with_reducible refine (cc_Any.calls k2 g628 t626 xq t655 t656 t657 t658 w _ ?side1 ?side2 A27.out).mono ?_); (case side1 => exact iX Hi.out); (case side2 => exact bS (IsS75.ge Hi.out)); rintro e w110 ⟨rfl, hi, hb, hk⟩; refine ⟨_, rfl, ?_⟩; have n0_ := aK (Kd.R_mono (Kd.R_keep (IsS75.apart (show IsS75 w _ g628 t626 xq from iX Hi.out) (rX HO_4.out) (by decide)) hk (fun _ h => h.2)) (fun _ h => h.1)); have n1_ := aK (Kd.R_mono (Kd.R_keep (IsS75.apart (show IsS75 w _ g628 t626 xq from iX Hi.out) (rX HO_5.out) (by decide)) hk (fun _ h => h.2)) (fun _ h => h.1)); have n2_ := aK (Kd.R_mono (Kd.R_keep (IsS75.apart (show IsS75 w _ g628 t626 xq from iX Hi.out) (rX HO_6.out) (by decide)) hk (fun _ h => h.2)) (fun _ h => h.1)); have n3_ := aK (Kd.R_mono (Kd.R_keep (IsS75.apart (show IsS75 w _ g628 t626 xq from iX Hi.out) (rX HO_8.out) (by decide)) hk (fun _ h => h.2)) (fun _ h => h.1)); have n4_ := aK (Kd.R_mono (Kd.R_keep (IsS75.apart (show IsS75 w _ g628 t626 xq from iX Hi.out) (rX HO_10.out) (by decide)) hk (fun _ h => h.2)) (fun _ h => h.1)); have n5_ := aK (Kd.R_mono (Kd.R_keep (IsS75.apart (show IsS75 w _ g628 t626 xq from iX Hi.out) (rX HO_12.out) (by decide)) hk (fun _ h => h.2)) (fun _ h => h.1)); have n6_ := aK (hb); have n7_ := aK (hi); clear HO_4 HO_5 HO_6 HO_8 HO_10 HO_12 HB Hi; have HO_4 := n0_; have HO_5 := n1_; have HO_6 := n2_; have HO_8 := n3_; have HO_10 := n4_; have HO_12 := n5_; have HB := n6_; have Hi := n7_; clear n0_ n1_ n2_ n3_ n4_ n5_ n6_ n7_; (try clear hb hk hi)) | ((with_reducible refine gate_dst (N := 17) rfl ?_); refine box_event ?hg (N := 17) ?hd (cs := #[.int .i64 0, .int .i64 0, .string (⟨#[]⟩ : ByteArray)]) (t := 24) ?hr ?_; (case hd => rfl); (case hg => rfl); (case hr => exact hR); intro gb hg w111 hbox hb; have n0_ := aK (Kd.R_below (rX HO_4.out) hb); have n1_ := aK (Kd.R_below (rX HO_5.out) hb); have n2_ := aK (Kd.R_below (rX HO_6.out) hb); have n3_ := aK (Kd.R_below (rX HO_8.out) hb); have n4_ := aK (Kd.R_below (rX HO_10.out) hb); have n5_ := aK (Kd.R_below (rX HO_12.out) hb); have n6_ := aK (IsS75.below (iX Hi.out) hb); have n7_ := aK (below_step (bS (IsS75.ge Hi.out)) hb); have n8_ := aK (hbox); have n9_ := aK ((by rw [hg]; exact (below_size (bS (IsS75.ge Hi.out))) : w.heap.size ≤ gb)); have n10_ := aK ((by rw [hg]; exact (below_size (bS (IsS75.ge Hi.out))) : w.heap.size ≤ gb)); have n11_ := aK ((by rw [hg]; exact Nat.ne_of_lt (IsS75.lt (show IsS75 w _ g628 t626 t658 from iX Hi.out)) : g628 ≠ gb)); have n12_ := aK ((by rw [hg]; exact Nat.ne_of_gt (IsS75.lt (show IsS75 w _ g628 t626 t658 from iX Hi.out)) : gb ≠ g628)); clear HO_4 HO_5 HO_6 HO_8 HO_10 HO_12 Hi HB; have HO_4 := n0_; have HO_5 := n1_; have HO_6 := n2_; have HO_8 := n3_; have HO_10 := n4_; have HO_12 := n5_; have Hi := n6_; have HB := n7_; have BK := n8_; have GW := n9_; have GE := n10_; have NB := n11_; have NB659_628 := n12_; clear n0_ n1_ n2_ n3_ n4_ n5_ n6_ n7_ n8_ n9_ n10_ n11_ n12_ hb hbox hg; have hnb112 := NB659_628.out; have hnc112 := NB.out; obtain ⟨hcz113_0, hcz113_1, hcz113_2⟩ := z3 BK.out (.int .i64 0) (.int .i64 0) (.string (⟨#[]⟩ : ByteArray)); obtain ⟨hfz113_0, hfz113_1, hfz113_2⟩ := f3 BK.out))
            have n0_ : Aside0 (Kd.R k65 65 (((w111.setCell ⟨gb, 0, none⟩ (.int .i64 t655)).setCell ⟨gb, 1, none⟩ (.int .i64 t656)).setCell ⟨gb, 2, none⟩ (.string t657)) w.heap.size (fun k_ => some k_ ≠ (.slice Ao15 t633.length co15 : Value).ownBlock ∧ some k_ ≠ (v639 : Value).ownBlock ∧ some k_ ≠ (v643 : Value).ownBlock ∧ some k_ ≠ (v647 : Value).ownBlock ∧ some k_ ≠ (v651 : Value).ownBlock) (.slice Ao14 t629.length co14) t629) := ⟨by (with_reducible repeat (first | apply Kd.R_alloc | apply Kd.R_drewN | apply Kd.R_drew)); exact Kd.R_mono (Kd.R_far (p := ⟨gb, 2, none⟩) (Kd.R_far (p := ⟨gb, 1, none⟩) (Kd.R_far (p := ⟨gb, 0, none⟩) (Kd.R_types HO_4.out BK.out (by decide)) (fun _ hk => hk.2) (.int .i64 t655)) (fun _ hk => hk.2) (.int .i64 t656)) (fun _ hk => hk.2) (.string t657)) (fun _ hk => ⟨hk.1.1, ⟨hk.1.2.1, ⟨hk.1.2.2.1, ⟨hk.1.2.2.2.1, hk.1.2.2.2.2⟩⟩⟩⟩)⟩
            have n1_ : Aside0 (Kd.R k65 65 (((w111.setCell ⟨gb, 0, none⟩ (.int .i64 t655)).setCell ⟨gb, 1, none⟩ (.int .i64 t656)).setCell ⟨gb, 2, none⟩ (.string t657)) w.heap.size (fun k_ => some k_ ≠ (.slice Ao14 t629.length co14 : Value).ownBlock ∧ some k_ ≠ (v639 : Value).ownBlock ∧ some k_ ≠ (v643 : Value).ownBlock ∧ some k_ ≠ (v647 : Value).ownBlock ∧ some k_ ≠ (v651 : Value).ownBlock) (.slice Ao15 t633.length co15) t633) := ⟨by (with_reducible repeat (first | apply Kd.R_alloc | apply Kd.R_drewN | apply Kd.R_drew)); exact Kd.R_mono (Kd.R_far (p := ⟨gb, 2, none⟩) (Kd.R_far (p := ⟨gb, 1, none⟩) (Kd.R_far (p := ⟨gb, 0, none⟩) (Kd.R_types HO_5.out BK.out (by decide)) (fun _ hk => hk.2) (.int .i64 t655)) (fun _ hk => hk.2) (.int .i64 t656)) (fun _ hk => hk.2) (.string t657)) (fun _ hk => ⟨hk.1.1, ⟨hk.1.2.1, ⟨hk.1.2.2.1, ⟨hk.1.2.2.2.1, hk.1.2.2.2.2⟩⟩⟩⟩)⟩
            have n2_ : Aside0 (Kd.R k65 65 (((w111.setCell ⟨gb, 0, none⟩ (.int .i64 t655)).setCell ⟨gb, 1, none⟩ (.int .i64 t656)).setCell ⟨gb, 2, none⟩ (.string t657)) w.heap.size (fun k_ => some k_ ≠ (.slice Ao14 t629.length co14 : Value).ownBlock ∧ some k_ ≠ (.slice Ao15 t633.length co15 : Value).ownBlock ∧ some k_ ≠ (v643 : Value).ownBlock ∧ some k_ ≠ (v647 : Value).ownBlock ∧ some k_ ≠ (v651 : Value).ownBlock) v639 t637) := ⟨by (with_reducible repeat (first | apply Kd.R_alloc | apply Kd.R_drewN | apply Kd.R_drew)); exact Kd.R_mono (Kd.R_far (p := ⟨gb, 2, none⟩) (Kd.R_far (p := ⟨gb, 1, none⟩) (Kd.R_far (p := ⟨gb, 0, none⟩) (Kd.R_types HO_6.out BK.out (by decide)) (fun _ hk => hk.2) (.int .i64 t655)) (fun _ hk => hk.2) (.int .i64 t656)) (fun _ hk => hk.2) (.string t657)) (fun _ hk => ⟨hk.1.1, ⟨hk.1.2.1, ⟨hk.1.2.2.1, ⟨hk.1.2.2.2.1, hk.1.2.2.2.2⟩⟩⟩⟩)⟩
            have n3_ : Aside0 (Kd.R k65 65 (((w111.setCell ⟨gb, 0, none⟩ (.int .i64 t655)).setCell ⟨gb, 1, none⟩ (.int .i64 t656)).setCell ⟨gb, 2, none⟩ (.string t657)) w.heap.size (fun k_ => some k_ ≠ (.slice Ao14 t629.length co14 : Value).ownBlock ∧ some k_ ≠ (.slice Ao15 t633.length co15 : Value).ownBlock ∧ some k_ ≠ (v639 : Value).ownBlock ∧ some k_ ≠ (v647 : Value).ownBlock ∧ some k_ ≠ (v651 : Value).ownBlock) v643 t641) := ⟨by (with_reducible repeat (first | apply Kd.R_alloc | apply Kd.R_drewN | apply Kd.R_drew)); exact Kd.R_mono (Kd.R_far (p := ⟨gb, 2, none⟩) (Kd.R_far (p := ⟨gb, 1, none⟩) (Kd.R_far (p := ⟨gb, 0, none⟩) (Kd.R_types HO_8.out BK.out (by decide)) (fun _ hk => hk.2) (.int .i64 t655)) (fun _ hk => hk.2) (.int .i64 t656)) (fun _ hk => hk.2) (.string t657)) (fun _ hk => ⟨hk.1.1, ⟨hk.1.2.1, ⟨hk.1.2.2.1, ⟨hk.1.2.2.2.1, hk.1.2.2.2.2⟩⟩⟩⟩)⟩
            have n4_ : Aside0 (Kd.R k65 65 (((w111.setCell ⟨gb, 0, none⟩ (.int .i64 t655)).setCell ⟨gb, 1, none⟩ (.int .i64 t656)).setCell ⟨gb, 2, none⟩ (.string t657)) w.heap.size (fun k_ => some k_ ≠ (.slice Ao14 t629.length co14 : Value).ownBlock ∧ some k_ ≠ (.slice Ao15 t633.length co15 : Value).ownBlock ∧ some k_ ≠ (v639 : Value).ownBlock ∧ some k_ ≠ (v643 : Value).ownBlock ∧ some k_ ≠ (v651 : Value).ownBlock) v647 t645) := ⟨by (with_reducible repeat (first | apply Kd.R_alloc | apply Kd.R_drewN | apply Kd.R_drew)); exact Kd.R_mono (Kd.R_far (p := ⟨gb, 2, none⟩) (Kd.R_far (p := ⟨gb, 1, none⟩) (Kd.R_far (p := ⟨gb, 0, none⟩) (Kd.R_types HO_10.out BK.out (by decide)) (fun _ hk => hk.2) (.int .i64 t655)) (fun _ hk => hk.2) (.int .i64 t656)) (fun _ hk => hk.2) (.string t657)) (fun _ hk => ⟨hk.1.1, ⟨hk.1.2.1, ⟨hk.1.2.2.1, ⟨hk.1.2.2.2.1, hk.1.2.2.2.2⟩⟩⟩⟩)⟩
            have n5_ : Aside0 (Kd.R k65 65 (((w111.setCell ⟨gb, 0, none⟩ (.int .i64 t655)).setCell ⟨gb, 1, none⟩ (.int .i64 t656)).setCell ⟨gb, 2, none⟩ (.string t657)) w.heap.size (fun k_ => some k_ ≠ (.slice Ao14 t629.length co14 : Value).ownBlock ∧ some k_ ≠ (.slice Ao15 t633.length co15 : Value).ownBlock ∧ some k_ ≠ (v639 : Value).ownBlock ∧ some k_ ≠ (v643 : Value).ownBlock ∧ some k_ ≠ (v647 : Value).ownBlock) v651 t649) := ⟨by (with_reducible repeat (first | apply Kd.R_alloc | apply Kd.R_drewN | apply Kd.R_drew)); exact Kd.R_mono (Kd.R_far (p := ⟨gb, 2, none⟩) (Kd.R_far (p := ⟨gb, 1, none⟩) (Kd.R_far (p := ⟨gb, 0, none⟩) (Kd.R_types HO_12.out BK.out (by decide)) (fun _ hk => hk.2) (.int .i64 t655)) (fun _ hk => hk.2) (.int .i64 t656)) (fun _ hk => hk.2) (.string t657)) (fun _ hk => ⟨hk.1.1, ⟨hk.1.2.1, ⟨hk.1.2.2.1, ⟨hk.1.2.2.2.1, hk.1.2.2.2.2⟩⟩⟩⟩)⟩
            have n6_ : Aside0 ((((w111.setCell ⟨gb, 0, none⟩ (.int .i64 t655)).setCell ⟨gb, 1, none⟩ (.int .i64 t656)).setCell ⟨gb, 2, none⟩ (.string t657)).heap[gb]? = some (.cells #[.int .i64 t655, .int .i64 t656, .string t657] 24 (0, 0))) := ⟨by (with_reducible repeat (first | refine blk_drewN ?_ _ | refine blk_drew ?_ | refine blk_alloc ?_ _)); refine blk_put (cs := #[.int .i64 t655, .int .i64 t656, .string (⟨#[]⟩ : ByteArray)]) ?_ 2 _ rfl; (with_reducible repeat (first | refine blk_drewN ?_ _ | refine blk_drew ?_ | refine blk_alloc ?_ _)); refine blk_put (cs := #[.int .i64 t655, .int .i64 0, .string (⟨#[]⟩ : ByteArray)]) ?_ 1 _ rfl; (with_reducible repeat (first | refine blk_drewN ?_ _ | refine blk_drew ?_ | refine blk_alloc ?_ _)); refine blk_put (cs := #[.int .i64 0, .int .i64 0, .string (⟨#[]⟩ : ByteArray)]) ?_ 0 _ rfl; (with_reducible repeat (first | refine blk_drewN ?_ _ | refine blk_drew ?_ | refine blk_alloc ?_ _)); exact BK.out⟩
            have n7_ : Aside0 (IsS75 w (((w111.setCell ⟨gb, 0, none⟩ (.int .i64 t655)).setCell ⟨gb, 1, none⟩ (.int .i64 t656)).setCell ⟨gb, 2, none⟩ (.string t657)) g628 t626 t658) := ⟨iF Hi.out NB.out⟩
            have n8_ : Aside0 (Below w.heap.size w (((w111.setCell ⟨gb, 0, none⟩ (.int .i64 t655)).setCell ⟨gb, 1, none⟩ (.int .i64 t656)).setCell ⟨gb, 2, none⟩ (.string t657))) := ⟨bT (IsS75.ge Hi.out) GE.out⟩
            (try clear HO_4)
            (try clear HO_5)
            (try clear HO_6)
            (try clear HO_8)
            (try clear HO_10)
            (try clear HO_12)
            (try clear BK)
            (try clear Hi)
            (try clear HB)
            generalize (((w111.setCell ⟨gb, 0, none⟩ (.int .i64 t655)).setCell ⟨gb, 1, none⟩ (.int .i64 t656)).setCell ⟨gb, 2, none⟩ (.string t657)) = w114 at n0_ n1_ n2_ n3_ n4_ n5_ n6_ n7_ n8_ ⊢
            have HO_4 := n0_
            have HO_5 := n1_
            have HO_6 := n2_
            have HO_8 := n3_
            have HO_10 := n4_
            have HO_12 := n5_
            have BK := n6_
            have Hi := n7_
            have HB := n8_
            clear n0_ n1_ n2_ n3_ n4_ n5_ n6_ n7_ n8_
            have n0_ := aK (Kd.R_drew HO_4.out)
            have n1_ := aK (Kd.R_drew HO_5.out)
            have n2_ := aK (Kd.R_drew HO_6.out)
            have n3_ := aK (Kd.R_drew HO_8.out)
            have n4_ := aK (Kd.R_drew HO_10.out)
            have n5_ := aK (Kd.R_drew HO_12.out)
            have n6_ := aK (blk_drew BK.out)
            have n7_ := aK (IsS75.drew Hi.out)
            have n8_ := aK (below_drew1 HB.out)
            clear HO_4
            clear HO_5
            clear HO_6
            clear HO_8
            clear HO_10
            clear HO_12
            clear BK
            clear Hi
            clear HB
            have HO_4 := n0_
            have HO_5 := n1_
            have HO_6 := n2_
            have HO_8 := n3_
            have HO_10 := n4_
            have HO_12 := n5_
            have BK := n6_
            have Hi := n7_
            have HB := n8_
            clear n0_ n1_ n2_ n3_ n4_ n5_ n6_ n7_ n8_
            refine start_ (n := 8) (S := fun w' => w'.cell? ⟨gb, 0, none⟩ = some (.int .i64 t655) ∧ w'.cell? ⟨gb, 1, none⟩ = some (.int .i64 t656) ∧ w'.cell? ⟨gb, 2, none⟩ = some (.string t657)) (ds := []) #[false, false, false, false, false, false, false, false] (by kernel_rfl) rfl rfl ⟨(blk_cell BK.out 0).trans rfl, (blk_cell BK.out 1).trans rfl, (blk_cell BK.out 2).trans rfl⟩ (fun hHeld => ?_); refine with_tabW l3_IntervalPoints.tab14 l3_IntervalPoints.bits14 (fun HT_ HW_ => ?_)
            generalize w114.drew = w115 at HO_4 HO_5 HO_6 HO_8 HO_10 HO_12 BK Hi HB hHeld ⊢
            refine pY (i := 0) (N := some 79) (tf 1 7) rfl rfl HT_.out ?_
            refine pY (i := 3) (N := some 82) #[true, false, false, true, false, false, false, false] rfl rfl HT_.out ?_
            refine take_ (i := 1) (N := some 80) (v := ?_) (a' := ?_) #[true, true, false, true, false, false, false, false] rfl rfl (take_ofW HT_.out HW_.out (by kernel_rfl)) (fun _ _ _ h => h) (Or.inl ⟨by rfl, ?_⟩) hHeld ?_ ?_
            rotate_left
            ·rintro w' ⟨s0, s1, s2⟩
             go_simp
             with_reducible rfl
            rotate_left
            ·exact aP
            refine take_ (i := 4) (N := some 83) (v := ?_) (a' := ?_) #[true, true, false, true, true, false, false, false] rfl rfl (take_ofW HT_.out HW_.out (by kernel_rfl)) (fun _ _ _ h => h) (Or.inl ⟨by rfl, ?_⟩) hHeld ?_ ?_
            rotate_left
            ·rintro w' ⟨s0, s1, s2⟩
             go_simp
             with_reducible rfl
            rotate_left
            ·exact aP
            refine one_ (i := 2) (N := some 81) #[true, true, true, true, true, false, false, false] rfl rfl (one_of HT_.out (by kernel_rfl)) (by decide) (fun K hK => ?_)
            refine goes_ Try.func35 (by kernel_rfl) rfl #[.slice Ao14 t629.length co14, .agg #[.int .i64 t655, .int .i64 t656, .string t657]] (by rfl) rfl rfl (by (try simp only [List.map_toArray, List.map_cons, List.map_nil]); first | done | rfl | (simp only [List.length_drop, List.length_take]; rfl)) ?_
            with_reducible refine (i_Has.calls k2 _ _ t629 t655 t656 t657 false _ ?side1 ?side2 A28.out).mono ?_
            (case side1 => exact cX (Kd.R_reads' HO_4.out).2.2)
            (case side2 => exact (Kd.R_reads' HO_4.out).2.1)
            rintro e w116 ⟨rfl, hb⟩
            refine ⟨_, rfl, ?_⟩
            have n0_ := aK (Kd.R_below (rX HO_4.out) hb)
            have n1_ := aK (Kd.R_below (rX HO_5.out) hb)
            have n2_ := aK (Kd.R_below (rX HO_6.out) hb)
            have n3_ := aK (Kd.R_below (rX HO_8.out) hb)
            have n4_ := aK (Kd.R_below (rX HO_10.out) hb)
            have n5_ := aK (Kd.R_below (rX HO_12.out) hb)
            have n6_ := aK (IsS75.below (iF Hi.out NB.out) hb)
            have n7_ := aK (blk_below (bX BK.out) hb)
            have n8_ := aK (below_step (bT (IsS75.ge Hi.out) GE.out) hb)
            clear HO_4
            clear HO_5
            clear HO_6
            clear HO_8
            clear HO_10
            clear HO_12
            clear Hi
            clear BK
            clear HB
            have HO_4 := n0_
            have HO_5 := n1_
            have HO_6 := n2_
            have HO_8 := n3_
            have HO_10 := n4_
            have HO_12 := n5_
            have Hi := n6_
            have BK := n7_
            have HB := n8_
            clear n0_ n1_ n2_ n3_ n4_ n5_ n6_ n7_ n8_
            (try clear hb)
            (try clear hb2)
            (try clear hk)
            (try clear hi)
            refine hK.out _ _ ⟨(blk_cell BK.out 0).trans rfl, (blk_cell BK.out 1).trans rfl, (blk_cell BK.out 2).trans rfl⟩ (fun hHeld => ?_)
            clear hK K
            refine norm_ (a' := ?_) ?_ ?_
            rotate_left
            ·show Act.put _ (some 81) _ = _
             simp only [Act.put, List.setIfInBounds_toArray, List.set_cons_zero, List.set_cons_succ, i64_w, i32_w]
             rfl
            refine one_ (i := 5) (N := some 84) #[true, true, true, true, true, true, false, false] rfl rfl (one_of HT_.out (by kernel_rfl)) (by decide) (fun K hK => ?_)
            refine goes_ Try.func35 (by kernel_rfl) rfl #[.slice Ao15 t633.length co15, .agg #[.int .i64 t655, .int .i64 t656, .string t657]] (by rfl) rfl rfl (by (try simp only [List.map_toArray, List.map_cons, List.map_nil]); first | done | rfl | (simp only [List.length_drop, List.length_take]; rfl)) ?_
            with_reducible refine (i_Has.calls k2 _ _ t633 t655 t656 t657 false _ ?side1 ?side2 A29.out).mono ?_
            (case side1 => exact cX (Kd.R_reads' HO_5.out).2.2)
            (case side2 => exact (Kd.R_reads' HO_5.out).2.1)
            rintro e w117 ⟨rfl, hb⟩
            refine ⟨_, rfl, ?_⟩
            have n0_ := aK (Kd.R_below (rX HO_4.out) hb)
            have n1_ := aK (Kd.R_below (rX HO_5.out) hb)
            have n2_ := aK (Kd.R_below (rX HO_6.out) hb)
            have n3_ := aK (Kd.R_below (rX HO_8.out) hb)
            have n4_ := aK (Kd.R_below (rX HO_10.out) hb)
            have n5_ := aK (Kd.R_below (rX HO_12.out) hb)
            have n6_ := aK (IsS75.below (iF Hi.out NB.out) hb)
            have n7_ := aK (blk_below (bX BK.out) hb)
            have n8_ := aK (below_step (bT (IsS75.ge Hi.out) GE.out) hb)
            clear HO_4
            clear HO_5
            clear HO_6
            clear HO_8
            clear HO_10
            clear HO_12
            clear Hi
            clear BK
            clear HB
            have HO_4 := n0_
            have HO_5 := n1_
            have HO_6 := n2_
            have HO_8 := n3_
            have HO_10 := n4_
            have HO_12 := n5_
            have Hi := n6_
            have BK := n7_
            have HB := n8_
            clear n0_ n1_ n2_ n3_ n4_ n5_ n6_ n7_ n8_
            (try clear hb)
            (try clear hb2)
            (try clear hk)
            (try clear hi)
            refine hK.out _ _ ⟨(blk_cell BK.out 0).trans rfl, (blk_cell BK.out 1).trans rfl, (blk_cell BK.out 2).trans rfl⟩ (fun hHeld => ?_)
            clear hK K
            refine norm_ (a' := ?_) ?_ ?_
            rotate_left
            ·show Act.put _ (some 84) _ = _
             simp only [Act.put, List.setIfInBounds_toArray, List.set_cons_zero, List.set_cons_succ, i64_w, i32_w]
             rfl
            refine pY (i := 6) (N := some 18) (tf 7 1) rfl rfl HT_.out ?_
            refine pY (i := 7) (N := some 19) (tf 8 0) rfl rfl HT_.out ?_
            refine done_ (done_of HT_.out (by kernel_rfl)) ?_
            obtain ⟨hcz118_0, hcz118_1, hcz118_2⟩ := z3 BK.out (.int .i64 t655) (.int .i64 t656) (.string t657)
            obtain ⟨hfz118_0, hfz118_1, hfz118_2⟩ := f3 BK.out
            obtain ⟨Ao119, co119, eo119⟩ := Kd.R_slice HO_6.out
            subst eo119
            try go_wp2_with (first | ((with_reducible refine gate_callee (f := 35) rfl ?_); refine gL (some 87) rfl Try.func35 #[.slice Ao119 t637.length co119, .agg #[.int .i64 t655, .int .i64 t656, .string t657]] rfl ?_; (with_reducible refine (i_Has.calls k2 _ _ t637 t655 t656 t657 t662 _ ?side1 ?side2 A30.out).mono ?_); (case side1 => exact cX (Kd.R_reads' HO_6.out).2.2); (case side2 => exact (Kd.R_reads' HO_6.out).2.1); rintro e w120 ⟨rfl, hb⟩; refine ⟨_, rfl, ?_⟩; have n0_ := aK (Kd.R_below (rX HO_4.out) hb); have n1_ := aK (Kd.R_below (rX HO_5.out) hb); have n2_ := aK (Kd.R_below (rX HO_6.out) hb); have n3_ := aK (Kd.R_below (rX HO_8.out) hb); have n4_ := aK (Kd.R_below (rX HO_10.out) hb); have n5_ := aK (Kd.R_below (rX HO_12.out) hb); have n6_ := aK (IsS75.below (iF Hi.out NB.out) hb); have n7_ := aK (blk_below (bX BK.out) hb); have n8_ := aK (below_step (bT (IsS75.ge Hi.out) GE.out) hb); clear HO_4 HO_5 HO_6 HO_8 HO_10 HO_12 Hi BK HB; have HO_4 := n0_; have HO_5 := n1_; have HO_6 := n2_; have HO_8 := n3_; have HO_10 := n4_; have HO_12 := n5_; have Hi := n6_; have BK := n7_; have HB := n8_; clear n0_ n1_ n2_ n3_ n4_ n5_ n6_ n7_ n8_; (try clear hb); obtain ⟨hcz121_0, hcz121_1, hcz121_2⟩ := z3 BK.out (.int .i64 t655) (.int .i64 t656) (.string t657); obtain ⟨hfz121_0, hfz121_1, hfz121_2⟩ := f3 BK.out; obtain ⟨Ao122, co122, eo122⟩ := Kd.R_slice HO_8.out; subst eo122) | (go_at_call 35; (with_reducible refine (i_Has.calls k2 _ _ t641 t655 t656 t657 t666 _ ?side1 ?side2 A102.out).mono ?_); (case side1 => exact cX (Kd.R_reads' HO_8.out).2.2); (case side2 => exact (Kd.R_reads' HO_8.out).2.1); rintro e w123 ⟨rfl, hb⟩; have n0_ := aK (Kd.R_below (rX HO_4.out) hb); have n1_ := aK (Kd.R_below (rX HO_5.out) hb); have n2_ := aK (Kd.R_below (rX HO_6.out) hb); have n3_ := aK (Kd.R_below (rX HO_8.out) hb); have n4_ := aK (Kd.R_below (rX HO_10.out) hb); have n5_ := aK (Kd.R_below (rX HO_12.out) hb); have n6_ := aK (IsS75.below (iF Hi.out NB.out) hb); have n7_ := aK (blk_below (bX BK.out) hb); have n8_ := aK (below_step (bT (IsS75.ge Hi.out) GE.out) hb); clear HO_4 HO_5 HO_6 HO_8 HO_10 HO_12 Hi BK HB; have HO_4 := n0_; have HO_5 := n1_; have HO_6 := n2_; have HO_8 := n3_; have HO_10 := n4_; have HO_12 := n5_; have Hi := n6_; have BK := n7_; have HB := n8_; clear n0_ n1_ n2_ n3_ n4_ n5_ n6_ n7_ n8_; (try clear hb); obtain ⟨hcz124_0, hcz124_1, hcz124_2⟩ := z3 BK.out (.int .i64 t655) (.int .i64 t656) (.string t657); obtain ⟨hfz124_0, hfz124_1, hfz124_2⟩ := f3 BK.out; obtain ⟨Ao125, co125, eo125⟩ := Kd.R_slice HO_10.out; subst eo125) | (go_at_call 35; (with_reducible refine (i_Has.calls k2 _ _ t645 t655 t656 t657 t667 _ ?side1 ?side2 A104.out).mono ?_); (case side1 => exact cX (Kd.R_reads' HO_10.out).2.2); (case side2 => exact (Kd.R_reads' HO_10.out).2.1); rintro e w126 ⟨rfl, hb⟩; have n0_ := aK (Kd.R_below (rX HO_4.out) hb); have n1_ := aK (Kd.R_below (rX HO_5.out) hb); have n2_ := aK (Kd.R_below (rX HO_6.out) hb); have n3_ := aK (Kd.R_below (rX HO_8.out) hb); have n4_ := aK (Kd.R_below (rX HO_10.out) hb); have n5_ := aK (Kd.R_below (rX HO_12.out) hb); have n6_ := aK (IsS75.below (iF Hi.out NB.out) hb); have n7_ := aK (blk_below (bX BK.out) hb); have n8_ := aK (below_step (bT (IsS75.ge Hi.out) GE.out) hb); clear HO_4 HO_5 HO_6 HO_8 HO_10 HO_12 Hi BK HB; have HO_4 := n0_; have HO_5 := n1_; have HO_6 := n2_; have HO_8 := n3_; have HO_10 := n4_; have HO_12 := n5_; have Hi := n6_; have BK := n7_; have HB := n8_; clear n0_ n1_ n2_ n3_ n4_ n5_ n6_ n7_ n8_; (try clear hb); obtain ⟨hcz127_0, hcz127_1, hcz127_2⟩ := z3 BK.out (.int .i64 t655) (.int .i64 t656) (.string t657); obtain ⟨hfz127_0, hfz127_1, hfz127_2⟩ := f3 BK.out; obtain ⟨Ao128, co128, eo128⟩ := Kd.R_slice HO_12.out; subst eo128) | (go_at_call 35; (with_reducible refine (i_Has.calls k2 _ _ t649 t655 t656 t657 t668 _ ?side1 ?side2 A106.out).mono ?_); (case side1 => exact cX (Kd.R_reads' HO_12.out).2.2); (case side2 => exact (Kd.R_reads' HO_12.out).2.1); rintro e w129 ⟨rfl, hb⟩; have n0_ := aK (Kd.R_below (rX HO_4.out) hb); have n1_ := aK (Kd.R_below (rX HO_5.out) hb); have n2_ := aK (Kd.R_below (rX HO_6.out) hb); have n3_ := aK (Kd.R_below (rX HO_8.out) hb); have n4_ := aK (Kd.R_below (rX HO_10.out) hb); have n5_ := aK (Kd.R_below (rX HO_12.out) hb); have n6_ := aK (IsS75.below (iF Hi.out NB.out) hb); have n7_ := aK (blk_below (bX BK.out) hb); have n8_ := aK (below_step (bT (IsS75.ge Hi.out) GE.out) hb); clear HO_4 HO_5 HO_6 HO_8 HO_10 HO_12 Hi BK HB; have HO_4 := n0_; have HO_5 := n1_; have HO_6 := n2_; have HO_8 := n3_; have HO_10 := n4_; have HO_12 := n5_; have Hi := n6_; have BK := n7_; have HB := n8_; clear n0_ n1_ n2_ n3_ n4_ n5_ n6_ n7_ n8_; (try clear hb)))
            go_roundg k2
            case measure => have := HJ10.out; have := HK2.out; omega
            case rel => exact ⟨(wrap64 (x16_2 + 1)), (t658), (by first | rfl | (simp; done) | (simp [*]; done)), H', ⟨by have := HJ10.out; have := HK2.out; omega⟩, ⟨rX HO_4.out⟩, ⟨rX HO_5.out⟩, ⟨rX HO_6.out⟩, ⟨rX HO_8.out⟩, ⟨rX HO_10.out⟩, ⟨rX HO_12.out⟩, ⟨iF Hi.out NB.out⟩, ⟨bT (IsS75.ge Hi.out) GE.out⟩⟩
           subst c109
           rw [if_pos rfl] at H
           exact absurd (H.trans (congrArg some HRT.out)) (by simp)
          rw [if_pos c107] at H
          have c107b0 : (t668 == false) = true := c107
          (try (have c107b1 : decide (t668 = false) = true := by simpa using c107))
          (try (have c107b2 : (t668 == false) = true := by simpa using c107))
          clear c107
          exact absurd (H.trans (congrArg some HRT.out)) (by simp)
         rw [if_pos c105] at H
         have c105b0 : (t667 != false) = true := c105
         (try (have c105b1 : decide (t667 = false) = false := by simpa using c105))
         (try (have c105b2 : (t667 == false) = false := by simpa using c105))
         (try (have c105b3 : ¬ (t667 = false) := by simpa using c105))
         clear c105
         exact absurd (H.trans (congrArg some HRT.out)) (by simp)
        rw [if_pos c103] at H
        have c103b0 : (t666 != false) = true := c103
        (try (have c103b1 : decide (t666 = false) = false := by simpa using c103))
        (try (have c103b2 : (t666 == false) = false := by simpa using c103))
        (try (have c103b3 : ¬ (t666 = false) := by simpa using c103))
        clear c103
        exact absurd (H.trans (congrArg some HRT.out)) (by simp)
       rw [if_pos c101] at H
       have c101b0 : (t662 != t661) = true := c101
       (try (have c101b1 : decide (t662 = t661) = false := by simpa using c101))
       (try (have c101b2 : (t662 == t661) = false := by simpa using c101))
       (try (have c101b3 : ¬ (t662 = t661) := by simpa using c101))
       clear c101
       exact absurd (H.trans (congrArg some HRT.out)) (by simp)
      subst c31
      rw [if_pos rfl] at H
      by_cases c32 : (t662 != true) = true
      rotate_left
      ·rw [if_neg c32] at H
       have c32b0 : (t662 != true) = false := by simpa using c32
       have c32b9 : t662 = true := bool_eq_of_bne c32b0
       (try (have c32b1 : decide (t662 = true) = true := by simpa using c32))
       (try (have c32b2 : (t662 == true) = true := by simpa using c32))
       clear c32
       obtain ⟨t663, A33, H⟩ := oB H
       try dsimp only at H
       by_cases c34 : (t663 != t661) = true
       rotate_left
       ·rw [if_neg c34] at H
        have c34b0 : (t663 != t661) = false := by simpa using c34
        have c34b9 : t663 = t661 := bool_eq_of_bne c34b0
        (try (have c34b1 : decide (t663 = t661) = true := by simpa using c34))
        (try (have c34b2 : (t663 == t661) = true := by simpa using c34))
        clear c34
        obtain ⟨t664, A35, H⟩ := oB H
        try dsimp only at H
        by_cases c36 : (t664 != (!t661)) = true
        rotate_left
        ·rw [if_neg c36] at H
         have c36b0 : (t664 != (!t661)) = false := by simpa using c36
         have c36b9 : t664 = (!t661) := bool_eq_of_bne c36b0
         (try (have c36b1 : decide (t664 = (!t661)) = true := by simpa using c36))
         (try (have c36b2 : (t664 == (!t661)) = true := by simpa using c36))
         clear c36
         obtain ⟨t665, A37, H⟩ := oB H
         try dsimp only at H
         by_cases c38 : (t665 == true) = true
         rotate_left
         ·rw [if_neg c38] at H
          have c38b0 : (t665 == true) = false := by simpa using c38
          have c38b9 : t665 = !true := bool_not_of_beq c38b0
          (try (have c38b1 : decide (t665 = true) = false := by simpa using c38))
          (try (have c38b2 : (t665 == true) = false := by simpa using c38))
          (try (have c38b3 : ¬ (t665 = true) := by simpa using c38))
          clear c38
          by_cases c39 : t653 = true
          rotate_left
          ·replace c39 := Bool.eq_false_iff.mpr c39
           subst c39
           rw [if_neg (show ¬ (false = true) by decide)] at H
           have H' := Aside0.mk H
           clear H
           try go_wp2_with (first | ((with_reducible refine gate_callee (f := 19) rfl ?_); refine gL (some 78) rfl Try.func19 #[.pointer (some ⟨g628, 0, none⟩)] rfl ?_; (with_reducible refine (cc_Any.calls k2 g628 t626 xq t655 t656 t657 t658 w _ ?side1 ?side2 A27.out).mono ?_); (case side1 => exact iX Hi.out); (case side2 => exact bS (IsS75.ge Hi.out)); rintro e w81 ⟨rfl, hi, hb, hk⟩; refine ⟨_, rfl, ?_⟩; have n0_ := aK (Kd.R_mono (Kd.R_keep (IsS75.apart (show IsS75 w _ g628 t626 xq from iX Hi.out) (rX HO_4.out) (by decide)) hk (fun _ h => h.2)) (fun _ h => h.1)); have n1_ := aK (Kd.R_mono (Kd.R_keep (IsS75.apart (show IsS75 w _ g628 t626 xq from iX Hi.out) (rX HO_5.out) (by decide)) hk (fun _ h => h.2)) (fun _ h => h.1)); have n2_ := aK (Kd.R_mono (Kd.R_keep (IsS75.apart (show IsS75 w _ g628 t626 xq from iX Hi.out) (rX HO_6.out) (by decide)) hk (fun _ h => h.2)) (fun _ h => h.1)); have n3_ := aK (Kd.R_mono (Kd.R_keep (IsS75.apart (show IsS75 w _ g628 t626 xq from iX Hi.out) (rX HO_8.out) (by decide)) hk (fun _ h => h.2)) (fun _ h => h.1)); have n4_ := aK (Kd.R_mono (Kd.R_keep (IsS75.apart (show IsS75 w _ g628 t626 xq from iX Hi.out) (rX HO_10.out) (by decide)) hk (fun _ h => h.2)) (fun _ h => h.1)); have n5_ := aK (Kd.R_mono (Kd.R_keep (IsS75.apart (show IsS75 w _ g628 t626 xq from iX Hi.out) (rX HO_12.out) (by decide)) hk (fun _ h => h.2)) (fun _ h => h.1)); have n6_ := aK (hb); have n7_ := aK (hi); clear HO_4 HO_5 HO_6 HO_8 HO_10 HO_12 HB Hi; have HO_4 := n0_; have HO_5 := n1_; have HO_6 := n2_; have HO_8 := n3_; have HO_10 := n4_; have HO_12 := n5_; have HB := n6_; have Hi := n7_; clear n0_ n1_ n2_ n3_ n4_ n5_ n6_ n7_; (try clear hb hk hi)) | ((with_reducible refine gate_dst (N := 17) rfl ?_); refine box_event ?hg (N := 17) ?hd (cs := #[.int .i64 0, .int .i64 0, .string (⟨#[]⟩ : ByteArray)]) (t := 24) ?hr ?_; (case hd => rfl); (case hg => rfl); (case hr => exact hR); intro gb hg w82 hbox hb; have n0_ := aK (Kd.R_below (rX HO_4.out) hb); have n1_ := aK (Kd.R_below (rX HO_5.out) hb); have n2_ := aK (Kd.R_below (rX HO_6.out) hb); have n3_ := aK (Kd.R_below (rX HO_8.out) hb); have n4_ := aK (Kd.R_below (rX HO_10.out) hb); have n5_ := aK (Kd.R_below (rX HO_12.out) hb); have n6_ := aK (IsS75.below (iX Hi.out) hb); have n7_ := aK (below_step (bS (IsS75.ge Hi.out)) hb); have n8_ := aK (hbox); have n9_ := aK ((by rw [hg]; exact (below_size (bS (IsS75.ge Hi.out))) : w.heap.size ≤ gb)); have n10_ := aK ((by rw [hg]; exact (below_size (bS (IsS75.ge Hi.out))) : w.heap.size ≤ gb)); have n11_ := aK ((by rw [hg]; exact Nat.ne_of_lt (IsS75.lt (show IsS75 w _ g628 t626 t658 from iX Hi.out)) : g628 ≠ gb)); have n12_ := aK ((by rw [hg]; exact Nat.ne_of_gt (IsS75.lt (show IsS75 w _ g628 t626 t658 from iX Hi.out)) : gb ≠ g628)); clear HO_4 HO_5 HO_6 HO_8 HO_10 HO_12 Hi HB; have HO_4 := n0_; have HO_5 := n1_; have HO_6 := n2_; have HO_8 := n3_; have HO_10 := n4_; have HO_12 := n5_; have Hi := n6_; have HB := n7_; have BK := n8_; have GW := n9_; have GE := n10_; have NB := n11_; have NB659_628 := n12_; clear n0_ n1_ n2_ n3_ n4_ n5_ n6_ n7_ n8_ n9_ n10_ n11_ n12_ hb hbox hg; have hnb83 := NB659_628.out; have hnc83 := NB.out; obtain ⟨hcz84_0, hcz84_1, hcz84_2⟩ := z3 BK.out (.int .i64 0) (.int .i64 0) (.string (⟨#[]⟩ : ByteArray)); obtain ⟨hfz84_0, hfz84_1, hfz84_2⟩ := f3 BK.out))
           have n0_ : Aside0 (Kd.R k65 65 (((w82.setCell ⟨gb, 0, none⟩ (.int .i64 t655)).setCell ⟨gb, 1, none⟩ (.int .i64 t656)).setCell ⟨gb, 2, none⟩ (.string t657)) w.heap.size (fun k_ => some k_ ≠ (.slice Ao15 t633.length co15 : Value).ownBlock ∧ some k_ ≠ (v639 : Value).ownBlock ∧ some k_ ≠ (v643 : Value).ownBlock ∧ some k_ ≠ (v647 : Value).ownBlock ∧ some k_ ≠ (v651 : Value).ownBlock) (.slice Ao14 t629.length co14) t629) := ⟨by (with_reducible repeat (first | apply Kd.R_alloc | apply Kd.R_drewN | apply Kd.R_drew)); exact Kd.R_mono (Kd.R_far (p := ⟨gb, 2, none⟩) (Kd.R_far (p := ⟨gb, 1, none⟩) (Kd.R_far (p := ⟨gb, 0, none⟩) (Kd.R_types HO_4.out BK.out (by decide)) (fun _ hk => hk.2) (.int .i64 t655)) (fun _ hk => hk.2) (.int .i64 t656)) (fun _ hk => hk.2) (.string t657)) (fun _ hk => ⟨hk.1.1, ⟨hk.1.2.1, ⟨hk.1.2.2.1, ⟨hk.1.2.2.2.1, hk.1.2.2.2.2⟩⟩⟩⟩)⟩
           have n1_ : Aside0 (Kd.R k65 65 (((w82.setCell ⟨gb, 0, none⟩ (.int .i64 t655)).setCell ⟨gb, 1, none⟩ (.int .i64 t656)).setCell ⟨gb, 2, none⟩ (.string t657)) w.heap.size (fun k_ => some k_ ≠ (.slice Ao14 t629.length co14 : Value).ownBlock ∧ some k_ ≠ (v639 : Value).ownBlock ∧ some k_ ≠ (v643 : Value).ownBlock ∧ some k_ ≠ (v647 : Value).ownBlock ∧ some k_ ≠ (v651 : Value).ownBlock) (.slice Ao15 t633.length co15) t633) := ⟨by (with_reducible repeat (first | apply Kd.R_alloc | apply Kd.R_drewN | apply Kd.R_drew)); exact Kd.R_mono (Kd.R_far (p := ⟨gb, 2, none⟩) (Kd.R_far (p := ⟨gb, 1, none⟩) (Kd.R_far (p := ⟨gb, 0, none⟩) (Kd.R_types HO_5.out BK.out (by decide)) (fun _ hk => hk.2) (.int .i64 t655)) (fun _ hk => hk.2) (.int .i64 t656)) (fun _ hk => hk.2) (.string t657)) (fun _ hk => ⟨hk.1.1, ⟨hk.1.2.1, ⟨hk.1.2.2.1, ⟨hk.1.2.2.2.1, hk.1.2.2.2.2⟩⟩⟩⟩)⟩
           have n2_ : Aside0 (Kd.R k65 65 (((w82.setCell ⟨gb, 0, none⟩ (.int .i64 t655)).setCell ⟨gb, 1, none⟩ (.int .i64 t656)).setCell ⟨gb, 2, none⟩ (.string t657)) w.heap.size (fun k_ => some k_ ≠ (.slice Ao14 t629.length co14 : Value).ownBlock ∧ some k_ ≠ (.slice Ao15 t633.length co15 : Value).ownBlock ∧ some k_ ≠ (v643 : Value).ownBlock ∧ some k_ ≠ (v647 : Value).ownBlock ∧ some k_ ≠ (v651 : Value).ownBlock) v639 t637) := ⟨by (with_reducible repeat (first | apply Kd.R_alloc | apply Kd.R_drewN | apply Kd.R_drew)); exact Kd.R_mono (Kd.R_far (p := ⟨gb, 2, none⟩) (Kd.R_far (p := ⟨gb, 1, none⟩) (Kd.R_far (p := ⟨gb, 0, none⟩) (Kd.R_types HO_6.out BK.out (by decide)) (fun _ hk => hk.2) (.int .i64 t655)) (fun _ hk => hk.2) (.int .i64 t656)) (fun _ hk => hk.2) (.string t657)) (fun _ hk => ⟨hk.1.1, ⟨hk.1.2.1, ⟨hk.1.2.2.1, ⟨hk.1.2.2.2.1, hk.1.2.2.2.2⟩⟩⟩⟩)⟩
           have n3_ : Aside0 (Kd.R k65 65 (((w82.setCell ⟨gb, 0, none⟩ (.int .i64 t655)).setCell ⟨gb, 1, none⟩ (.int .i64 t656)).setCell ⟨gb, 2, none⟩ (.string t657)) w.heap.size (fun k_ => some k_ ≠ (.slice Ao14 t629.length co14 : Value).ownBlock ∧ some k_ ≠ (.slice Ao15 t633.length co15 : Value).ownBlock ∧ some k_ ≠ (v639 : Value).ownBlock ∧ some k_ ≠ (v647 : Value).ownBlock ∧ some k_ ≠ (v651 : Value).ownBlock) v643 t641) := ⟨by (with_reducible repeat (first | apply Kd.R_alloc | apply Kd.R_drewN | apply Kd.R_drew)); exact Kd.R_mono (Kd.R_far (p := ⟨gb, 2, none⟩) (Kd.R_far (p := ⟨gb, 1, none⟩) (Kd.R_far (p := ⟨gb, 0, none⟩) (Kd.R_types HO_8.out BK.out (by decide)) (fun _ hk => hk.2) (.int .i64 t655)) (fun _ hk => hk.2) (.int .i64 t656)) (fun _ hk => hk.2) (.string t657)) (fun _ hk => ⟨hk.1.1, ⟨hk.1.2.1, ⟨hk.1.2.2.1, ⟨hk.1.2.2.2.1, hk.1.2.2.2.2⟩⟩⟩⟩)⟩
           have n4_ : Aside0 (Kd.R k65 65 (((w82.setCell ⟨gb, 0, none⟩ (.int .i64 t655)).setCell ⟨gb, 1, none⟩ (.int .i64 t656)).setCell ⟨gb, 2, none⟩ (.string t657)) w.heap.size (fun k_ => some k_ ≠ (.slice Ao14 t629.length co14 : Value).ownBlock ∧ some k_ ≠ (.slice Ao15 t633.length co15 : Value).ownBlock ∧ some k_ ≠ (v639 : Value).ownBlock ∧ some k_ ≠ (v643 : Value).ownBlock ∧ some k_ ≠ (v651 : Value).ownBlock) v647 t645) := ⟨by (with_reducible repeat (first | apply Kd.R_alloc | apply Kd.R_drewN | apply Kd.R_drew)); exact Kd.R_mono (Kd.R_far (p := ⟨gb, 2, none⟩) (Kd.R_far (p := ⟨gb, 1, none⟩) (Kd.R_far (p := ⟨gb, 0, none⟩) (Kd.R_types HO_10.out BK.out (by decide)) (fun _ hk => hk.2) (.int .i64 t655)) (fun _ hk => hk.2) (.int .i64 t656)) (fun _ hk => hk.2) (.string t657)) (fun _ hk => ⟨hk.1.1, ⟨hk.1.2.1, ⟨hk.1.2.2.1, ⟨hk.1.2.2.2.1, hk.1.2.2.2.2⟩⟩⟩⟩)⟩
           have n5_ : Aside0 (Kd.R k65 65 (((w82.setCell ⟨gb, 0, none⟩ (.int .i64 t655)).setCell ⟨gb, 1, none⟩ (.int .i64 t656)).setCell ⟨gb, 2, none⟩ (.string t657)) w.heap.size (fun k_ => some k_ ≠ (.slice Ao14 t629.length co14 : Value).ownBlock ∧ some k_ ≠ (.slice Ao15 t633.length co15 : Value).ownBlock ∧ some k_ ≠ (v639 : Value).ownBlock ∧ some k_ ≠ (v643 : Value).ownBlock ∧ some k_ ≠ (v647 : Value).ownBlock) v651 t649) := ⟨by (with_reducible repeat (first | apply Kd.R_alloc | apply Kd.R_drewN | apply Kd.R_drew)); exact Kd.R_mono (Kd.R_far (p := ⟨gb, 2, none⟩) (Kd.R_far (p := ⟨gb, 1, none⟩) (Kd.R_far (p := ⟨gb, 0, none⟩) (Kd.R_types HO_12.out BK.out (by decide)) (fun _ hk => hk.2) (.int .i64 t655)) (fun _ hk => hk.2) (.int .i64 t656)) (fun _ hk => hk.2) (.string t657)) (fun _ hk => ⟨hk.1.1, ⟨hk.1.2.1, ⟨hk.1.2.2.1, ⟨hk.1.2.2.2.1, hk.1.2.2.2.2⟩⟩⟩⟩)⟩
           have n6_ : Aside0 ((((w82.setCell ⟨gb, 0, none⟩ (.int .i64 t655)).setCell ⟨gb, 1, none⟩ (.int .i64 t656)).setCell ⟨gb, 2, none⟩ (.string t657)).heap[gb]? = some (.cells #[.int .i64 t655, .int .i64 t656, .string t657] 24 (0, 0))) := ⟨by (with_reducible repeat (first | refine blk_drewN ?_ _ | refine blk_drew ?_ | refine blk_alloc ?_ _)); refine blk_put (cs := #[.int .i64 t655, .int .i64 t656, .string (⟨#[]⟩ : ByteArray)]) ?_ 2 _ rfl; (with_reducible repeat (first | refine blk_drewN ?_ _ | refine blk_drew ?_ | refine blk_alloc ?_ _)); refine blk_put (cs := #[.int .i64 t655, .int .i64 0, .string (⟨#[]⟩ : ByteArray)]) ?_ 1 _ rfl; (with_reducible repeat (first | refine blk_drewN ?_ _ | refine blk_drew ?_ | refine blk_alloc ?_ _)); refine blk_put (cs := #[.int .i64 0, .int .i64 0, .string (⟨#[]⟩ : ByteArray)]) ?_ 0 _ rfl; (with_reducible repeat (first | refine blk_drewN ?_ _ | refine blk_drew ?_ | refine blk_alloc ?_ _)); exact BK.out⟩
           have n7_ : Aside0 (IsS75 w (((w82.setCell ⟨gb, 0, none⟩ (.int .i64 t655)).setCell ⟨gb, 1, none⟩ (.int .i64 t656)).setCell ⟨gb, 2, none⟩ (.string t657)) g628 t626 t658) := ⟨iF Hi.out NB.out⟩
           have n8_ : Aside0 (Below w.heap.size w (((w82.setCell ⟨gb, 0, none⟩ (.int .i64 t655)).setCell ⟨gb, 1, none⟩ (.int .i64 t656)).setCell ⟨gb, 2, none⟩ (.string t657))) := ⟨bT (IsS75.ge Hi.out) GE.out⟩
           (try clear HO_4)
           (try clear HO_5)
           (try clear HO_6)
           (try clear HO_8)
           (try clear HO_10)
           (try clear HO_12)
           (try clear BK)
           (try clear Hi)
           (try clear HB)
           generalize (((w82.setCell ⟨gb, 0, none⟩ (.int .i64 t655)).setCell ⟨gb, 1, none⟩ (.int .i64 t656)).setCell ⟨gb, 2, none⟩ (.string t657)) = w85 at n0_ n1_ n2_ n3_ n4_ n5_ n6_ n7_ n8_ ⊢
           have HO_4 := n0_
           have HO_5 := n1_
           have HO_6 := n2_
           have HO_8 := n3_
           have HO_10 := n4_
           have HO_12 := n5_
           have BK := n6_
           have Hi := n7_
           have HB := n8_
           clear n0_ n1_ n2_ n3_ n4_ n5_ n6_ n7_ n8_
           have n0_ := aK (Kd.R_drew HO_4.out)
           have n1_ := aK (Kd.R_drew HO_5.out)
           have n2_ := aK (Kd.R_drew HO_6.out)
           have n3_ := aK (Kd.R_drew HO_8.out)
           have n4_ := aK (Kd.R_drew HO_10.out)
           have n5_ := aK (Kd.R_drew HO_12.out)
           have n6_ := aK (blk_drew BK.out)
           have n7_ := aK (IsS75.drew Hi.out)
           have n8_ := aK (below_drew1 HB.out)
           clear HO_4
           clear HO_5
           clear HO_6
           clear HO_8
           clear HO_10
           clear HO_12
           clear BK
           clear Hi
           clear HB
           have HO_4 := n0_
           have HO_5 := n1_
           have HO_6 := n2_
           have HO_8 := n3_
           have HO_10 := n4_
           have HO_12 := n5_
           have BK := n6_
           have Hi := n7_
           have HB := n8_
           clear n0_ n1_ n2_ n3_ n4_ n5_ n6_ n7_ n8_
           refine start_ (n := 8) (S := fun w' => w'.cell? ⟨gb, 0, none⟩ = some (.int .i64 t655) ∧ w'.cell? ⟨gb, 1, none⟩ = some (.int .i64 t656) ∧ w'.cell? ⟨gb, 2, none⟩ = some (.string t657)) (ds := []) #[false, false, false, false, false, false, false, false] (by kernel_rfl) rfl rfl ⟨(blk_cell BK.out 0).trans rfl, (blk_cell BK.out 1).trans rfl, (blk_cell BK.out 2).trans rfl⟩ (fun hHeld => ?_); refine with_tabW l3_IntervalPoints.tab14 l3_IntervalPoints.bits14 (fun HT_ HW_ => ?_)
           generalize w85.drew = w86 at HO_4 HO_5 HO_6 HO_8 HO_10 HO_12 BK Hi HB hHeld ⊢
           refine pY (i := 0) (N := some 79) (tf 1 7) rfl rfl HT_.out ?_
           refine pY (i := 3) (N := some 82) #[true, false, false, true, false, false, false, false] rfl rfl HT_.out ?_
           refine take_ (i := 1) (N := some 80) (v := ?_) (a' := ?_) #[true, true, false, true, false, false, false, false] rfl rfl (take_ofW HT_.out HW_.out (by kernel_rfl)) (fun _ _ _ h => h) (Or.inl ⟨by rfl, ?_⟩) hHeld ?_ ?_
           rotate_left
           ·rintro w' ⟨s0, s1, s2⟩
            go_simp
            with_reducible rfl
           rotate_left
           ·exact aP
           refine take_ (i := 4) (N := some 83) (v := ?_) (a' := ?_) #[true, true, false, true, true, false, false, false] rfl rfl (take_ofW HT_.out HW_.out (by kernel_rfl)) (fun _ _ _ h => h) (Or.inl ⟨by rfl, ?_⟩) hHeld ?_ ?_
           rotate_left
           ·rintro w' ⟨s0, s1, s2⟩
            go_simp
            with_reducible rfl
           rotate_left
           ·exact aP
           refine one_ (i := 2) (N := some 81) #[true, true, true, true, true, false, false, false] rfl rfl (one_of HT_.out (by kernel_rfl)) (by decide) (fun K hK => ?_)
           refine goes_ Try.func35 (by kernel_rfl) rfl #[.slice Ao14 t629.length co14, .agg #[.int .i64 t655, .int .i64 t656, .string t657]] (by rfl) rfl rfl (by (try simp only [List.map_toArray, List.map_cons, List.map_nil]); first | done | rfl | (simp only [List.length_drop, List.length_take]; rfl)) ?_
           with_reducible refine (i_Has.calls k2 _ _ t629 t655 t656 t657 true _ ?side1 ?side2 A28.out).mono ?_
           (case side1 => exact cX (Kd.R_reads' HO_4.out).2.2)
           (case side2 => exact (Kd.R_reads' HO_4.out).2.1)
           rintro e w87 ⟨rfl, hb⟩
           refine ⟨_, rfl, ?_⟩
           have n0_ := aK (Kd.R_below (rX HO_4.out) hb)
           have n1_ := aK (Kd.R_below (rX HO_5.out) hb)
           have n2_ := aK (Kd.R_below (rX HO_6.out) hb)
           have n3_ := aK (Kd.R_below (rX HO_8.out) hb)
           have n4_ := aK (Kd.R_below (rX HO_10.out) hb)
           have n5_ := aK (Kd.R_below (rX HO_12.out) hb)
           have n6_ := aK (IsS75.below (iF Hi.out NB.out) hb)
           have n7_ := aK (blk_below (bX BK.out) hb)
           have n8_ := aK (below_step (bT (IsS75.ge Hi.out) GE.out) hb)
           clear HO_4
           clear HO_5
           clear HO_6
           clear HO_8
           clear HO_10
           clear HO_12
           clear Hi
           clear BK
           clear HB
           have HO_4 := n0_
           have HO_5 := n1_
           have HO_6 := n2_
           have HO_8 := n3_
           have HO_10 := n4_
           have HO_12 := n5_
           have Hi := n6_
           have BK := n7_
           have HB := n8_
           clear n0_ n1_ n2_ n3_ n4_ n5_ n6_ n7_ n8_
           (try clear hb)
           (try clear hb2)
           (try clear hk)
           (try clear hi)
           refine hK.out _ _ ⟨(blk_cell BK.out 0).trans rfl, (blk_cell BK.out 1).trans rfl, (blk_cell BK.out 2).trans rfl⟩ (fun hHeld => ?_)
           clear hK K
           refine norm_ (a' := ?_) ?_ ?_
           rotate_left
           ·show Act.put _ (some 81) _ = _
            simp only [Act.put, List.setIfInBounds_toArray, List.set_cons_zero, List.set_cons_succ, i64_w, i32_w]
            rfl
           refine one_ (i := 5) (N := some 84) #[true, true, true, true, true, true, false, false] rfl rfl (one_of HT_.out (by kernel_rfl)) (by decide) (fun K hK => ?_)
           refine goes_ Try.func35 (by kernel_rfl) rfl #[.slice Ao15 t633.length co15, .agg #[.int .i64 t655, .int .i64 t656, .string t657]] (by rfl) rfl rfl (by (try simp only [List.map_toArray, List.map_cons, List.map_nil]); first | done | rfl | (simp only [List.length_drop, List.length_take]; rfl)) ?_
           with_reducible refine (i_Has.calls k2 _ _ t633 t655 t656 t657 t661 _ ?side1 ?side2 A29.out).mono ?_
           (case side1 => exact cX (Kd.R_reads' HO_5.out).2.2)
           (case side2 => exact (Kd.R_reads' HO_5.out).2.1)
           rintro e w88 ⟨rfl, hb⟩
           refine ⟨_, rfl, ?_⟩
           have n0_ := aK (Kd.R_below (rX HO_4.out) hb)
           have n1_ := aK (Kd.R_below (rX HO_5.out) hb)
           have n2_ := aK (Kd.R_below (rX HO_6.out) hb)
           have n3_ := aK (Kd.R_below (rX HO_8.out) hb)
           have n4_ := aK (Kd.R_below (rX HO_10.out) hb)
           have n5_ := aK (Kd.R_below (rX HO_12.out) hb)
           have n6_ := aK (IsS75.below (iF Hi.out NB.out) hb)
           have n7_ := aK (blk_below (bX BK.out) hb)
           have n8_ := aK (below_step (bT (IsS75.ge Hi.out) GE.out) hb)
           clear HO_4
           clear HO_5
           clear HO_6
           clear HO_8
           clear HO_10
           clear HO_12
           clear Hi
           clear BK
           clear HB
           have HO_4 := n0_
           have HO_5 := n1_
           have HO_6 := n2_
           have HO_8 := n3_
           have HO_10 := n4_
           have HO_12 := n5_
           have Hi := n6_
           have BK := n7_
           have HB := n8_
           clear n0_ n1_ n2_ n3_ n4_ n5_ n6_ n7_ n8_
           (try clear hb)
           (try clear hb2)
           (try clear hk)
           (try clear hi)
           refine hK.out _ _ ⟨(blk_cell BK.out 0).trans rfl, (blk_cell BK.out 1).trans rfl, (blk_cell BK.out 2).trans rfl⟩ (fun hHeld => ?_)
           clear hK K
           refine norm_ (a' := ?_) ?_ ?_
           rotate_left
           ·show Act.put _ (some 84) _ = _
            simp only [Act.put, List.setIfInBounds_toArray, List.set_cons_zero, List.set_cons_succ, i64_w, i32_w]
            rfl
           refine pY (i := 6) (N := some 18) (tf 7 1) rfl rfl HT_.out ?_
           refine pY (i := 7) (N := some 19) (tf 8 0) rfl rfl HT_.out ?_
           refine done_ (done_of HT_.out (by kernel_rfl)) ?_
           obtain ⟨hcz89_0, hcz89_1, hcz89_2⟩ := z3 BK.out (.int .i64 t655) (.int .i64 t656) (.string t657)
           obtain ⟨hfz89_0, hfz89_1, hfz89_2⟩ := f3 BK.out
           obtain ⟨Ao90, co90, eo90⟩ := Kd.R_slice HO_6.out
           subst eo90
           try go_wp2_with (first | ((with_reducible refine gate_callee (f := 35) rfl ?_); refine gL (some 87) rfl Try.func35 #[.slice Ao90 t637.length co90, .agg #[.int .i64 t655, .int .i64 t656, .string t657]] rfl ?_; (with_reducible refine (i_Has.calls k2 _ _ t637 t655 t656 t657 t662 _ ?side1 ?side2 A30.out).mono ?_); (case side1 => exact cX (Kd.R_reads' HO_6.out).2.2); (case side2 => exact (Kd.R_reads' HO_6.out).2.1); rintro e w91 ⟨rfl, hb⟩; refine ⟨_, rfl, ?_⟩; have n0_ := aK (Kd.R_below (rX HO_4.out) hb); have n1_ := aK (Kd.R_below (rX HO_5.out) hb); have n2_ := aK (Kd.R_below (rX HO_6.out) hb); have n3_ := aK (Kd.R_below (rX HO_8.out) hb); have n4_ := aK (Kd.R_below (rX HO_10.out) hb); have n5_ := aK (Kd.R_below (rX HO_12.out) hb); have n6_ := aK (IsS75.below (iF Hi.out NB.out) hb); have n7_ := aK (blk_below (bX BK.out) hb); have n8_ := aK (below_step (bT (IsS75.ge Hi.out) GE.out) hb); clear HO_4 HO_5 HO_6 HO_8 HO_10 HO_12 Hi BK HB; have HO_4 := n0_; have HO_5 := n1_; have HO_6 := n2_; have HO_8 := n3_; have HO_10 := n4_; have HO_12 := n5_; have Hi := n6_; have BK := n7_; have HB := n8_; clear n0_ n1_ n2_ n3_ n4_ n5_ n6_ n7_ n8_; (try clear hb); obtain ⟨hcz92_0, hcz92_1, hcz92_2⟩ := z3 BK.out (.int .i64 t655) (.int .i64 t656) (.string t657); obtain ⟨hfz92_0, hfz92_1, hfz92_2⟩ := f3 BK.out; obtain ⟨Ao93, co93, eo93⟩ := Kd.R_slice HO_8.out; subst eo93) | (go_at_call 35; (with_reducible refine (i_Has.calls k2 _ _ t641 t655 t656 t657 t663 _ ?side1 ?side2 A33.out).mono ?_); (case side1 => exact cX (Kd.R_reads' HO_8.out).2.2); (case side2 => exact (Kd.R_reads' HO_8.out).2.1); rintro e w94 ⟨rfl, hb⟩; have n0_ := aK (Kd.R_below (rX HO_4.out) hb); have n1_ := aK (Kd.R_below (rX HO_5.out) hb); have n2_ := aK (Kd.R_below (rX HO_6.out) hb); have n3_ := aK (Kd.R_below (rX HO_8.out) hb); have n4_ := aK (Kd.R_below (rX HO_10.out) hb); have n5_ := aK (Kd.R_below (rX HO_12.out) hb); have n6_ := aK (IsS75.below (iF Hi.out NB.out) hb); have n7_ := aK (blk_below (bX BK.out) hb); have n8_ := aK (below_step (bT (IsS75.ge Hi.out) GE.out) hb); clear HO_4 HO_5 HO_6 HO_8 HO_10 HO_12 Hi BK HB; have HO_4 := n0_; have HO_5 := n1_; have HO_6 := n2_; have HO_8 := n3_; have HO_10 := n4_; have HO_12 := n5_; have Hi := n6_; have BK := n7_; have HB := n8_; clear n0_ n1_ n2_ n3_ n4_ n5_ n6_ n7_ n8_; (try clear hb); obtain ⟨hcz95_0, hcz95_1, hcz95_2⟩ := z3 BK.out (.int .i64 t655) (.int .i64 t656) (.string t657); obtain ⟨hfz95_0, hfz95_1, hfz95_2⟩ := f3 BK.out; obtain ⟨Ao96, co96, eo96⟩ := Kd.R_slice HO_10.out; subst eo96) | (go_at_call 35; (with_reducible refine (i_Has.calls k2 _ _ t645 t655 t656 t657 t664 _ ?side1 ?side2 A35.out).mono ?_); (case side1 => exact cX (Kd.R_reads' HO_10.out).2.2); (case side2 => exact (Kd.R_reads' HO_10.out).2.1); rintro e w97 ⟨rfl, hb⟩; have n0_ := aK (Kd.R_below (rX HO_4.out) hb); have n1_ := aK (Kd.R_below (rX HO_5.out) hb); have n2_ := aK (Kd.R_below (rX HO_6.out) hb); have n3_ := aK (Kd.R_below (rX HO_8.out) hb); have n4_ := aK (Kd.R_below (rX HO_10.out) hb); have n5_ := aK (Kd.R_below (rX HO_12.out) hb); have n6_ := aK (IsS75.below (iF Hi.out NB.out) hb); have n7_ := aK (blk_below (bX BK.out) hb); have n8_ := aK (below_step (bT (IsS75.ge Hi.out) GE.out) hb); clear HO_4 HO_5 HO_6 HO_8 HO_10 HO_12 Hi BK HB; have HO_4 := n0_; have HO_5 := n1_; have HO_6 := n2_; have HO_8 := n3_; have HO_10 := n4_; have HO_12 := n5_; have Hi := n6_; have BK := n7_; have HB := n8_; clear n0_ n1_ n2_ n3_ n4_ n5_ n6_ n7_ n8_; (try clear hb); obtain ⟨hcz98_0, hcz98_1, hcz98_2⟩ := z3 BK.out (.int .i64 t655) (.int .i64 t656) (.string t657); obtain ⟨hfz98_0, hfz98_1, hfz98_2⟩ := f3 BK.out; obtain ⟨Ao99, co99, eo99⟩ := Kd.R_slice HO_12.out; subst eo99) | (go_at_call 35; (with_reducible refine (i_Has.calls k2 _ _ t649 t655 t656 t657 t665 _ ?side1 ?side2 A37.out).mono ?_); (case side1 => exact cX (Kd.R_reads' HO_12.out).2.2); (case side2 => exact (Kd.R_reads' HO_12.out).2.1); rintro e w100 ⟨rfl, hb⟩; have n0_ := aK (Kd.R_below (rX HO_4.out) hb); have n1_ := aK (Kd.R_below (rX HO_5.out) hb); have n2_ := aK (Kd.R_below (rX HO_6.out) hb); have n3_ := aK (Kd.R_below (rX HO_8.out) hb); have n4_ := aK (Kd.R_below (rX HO_10.out) hb); have n5_ := aK (Kd.R_below (rX HO_12.out) hb); have n6_ := aK (IsS75.below (iF Hi.out NB.out) hb); have n7_ := aK (blk_below (bX BK.out) hb); have n8_ := aK (below_step (bT (IsS75.ge Hi.out) GE.out) hb); clear HO_4 HO_5 HO_6 HO_8 HO_10 HO_12 Hi BK HB; have HO_4 := n0_; have HO_5 := n1_; have HO_6 := n2_; have HO_8 := n3_; have HO_10 := n4_; have HO_12 := n5_; have Hi := n6_; have BK := n7_; have HB := n8_; clear n0_ n1_ n2_ n3_ n4_ n5_ n6_ n7_ n8_; (try clear hb)))
           go_roundg k2
           case measure => have := HJ10.out; have := HK2.out; omega
           case rel => exact ⟨(wrap64 (x16_2 + 1)), (t658), (by first | rfl | (simp; done) | (simp [*]; done)), H', ⟨by have := HJ10.out; have := HK2.out; omega⟩, ⟨rX HO_4.out⟩, ⟨rX HO_5.out⟩, ⟨rX HO_6.out⟩, ⟨rX HO_8.out⟩, ⟨rX HO_10.out⟩, ⟨rX HO_12.out⟩, ⟨iF Hi.out NB.out⟩, ⟨bT (IsS75.ge Hi.out) GE.out⟩⟩
          subst c39
          rw [if_pos rfl] at H
          by_cases c40 : t661 = true
          rotate_left
          ·replace c40 := Bool.eq_false_iff.mpr c40
           subst c40
           rw [if_neg (show ¬ (false = true) by decide)] at H
           have H' := Aside0.mk H
           clear H
           try go_wp2_with (first | ((with_reducible refine gate_callee (f := 19) rfl ?_); refine gL (some 78) rfl Try.func19 #[.pointer (some ⟨g628, 0, none⟩)] rfl ?_; (with_reducible refine (cc_Any.calls k2 g628 t626 xq t655 t656 t657 t658 w _ ?side1 ?side2 A27.out).mono ?_); (case side1 => exact iX Hi.out); (case side2 => exact bS (IsS75.ge Hi.out)); rintro e w61 ⟨rfl, hi, hb, hk⟩; refine ⟨_, rfl, ?_⟩; have n0_ := aK (Kd.R_mono (Kd.R_keep (IsS75.apart (show IsS75 w _ g628 t626 xq from iX Hi.out) (rX HO_4.out) (by decide)) hk (fun _ h => h.2)) (fun _ h => h.1)); have n1_ := aK (Kd.R_mono (Kd.R_keep (IsS75.apart (show IsS75 w _ g628 t626 xq from iX Hi.out) (rX HO_5.out) (by decide)) hk (fun _ h => h.2)) (fun _ h => h.1)); have n2_ := aK (Kd.R_mono (Kd.R_keep (IsS75.apart (show IsS75 w _ g628 t626 xq from iX Hi.out) (rX HO_6.out) (by decide)) hk (fun _ h => h.2)) (fun _ h => h.1)); have n3_ := aK (Kd.R_mono (Kd.R_keep (IsS75.apart (show IsS75 w _ g628 t626 xq from iX Hi.out) (rX HO_8.out) (by decide)) hk (fun _ h => h.2)) (fun _ h => h.1)); have n4_ := aK (Kd.R_mono (Kd.R_keep (IsS75.apart (show IsS75 w _ g628 t626 xq from iX Hi.out) (rX HO_10.out) (by decide)) hk (fun _ h => h.2)) (fun _ h => h.1)); have n5_ := aK (Kd.R_mono (Kd.R_keep (IsS75.apart (show IsS75 w _ g628 t626 xq from iX Hi.out) (rX HO_12.out) (by decide)) hk (fun _ h => h.2)) (fun _ h => h.1)); have n6_ := aK (hb); have n7_ := aK (hi); clear HO_4 HO_5 HO_6 HO_8 HO_10 HO_12 HB Hi; have HO_4 := n0_; have HO_5 := n1_; have HO_6 := n2_; have HO_8 := n3_; have HO_10 := n4_; have HO_12 := n5_; have HB := n6_; have Hi := n7_; clear n0_ n1_ n2_ n3_ n4_ n5_ n6_ n7_; (try clear hb hk hi)) | ((with_reducible refine gate_dst (N := 17) rfl ?_); refine box_event ?hg (N := 17) ?hd (cs := #[.int .i64 0, .int .i64 0, .string (⟨#[]⟩ : ByteArray)]) (t := 24) ?hr ?_; (case hd => rfl); (case hg => rfl); (case hr => exact hR); intro gb hg w62 hbox hb; have n0_ := aK (Kd.R_below (rX HO_4.out) hb); have n1_ := aK (Kd.R_below (rX HO_5.out) hb); have n2_ := aK (Kd.R_below (rX HO_6.out) hb); have n3_ := aK (Kd.R_below (rX HO_8.out) hb); have n4_ := aK (Kd.R_below (rX HO_10.out) hb); have n5_ := aK (Kd.R_below (rX HO_12.out) hb); have n6_ := aK (IsS75.below (iX Hi.out) hb); have n7_ := aK (below_step (bS (IsS75.ge Hi.out)) hb); have n8_ := aK (hbox); have n9_ := aK ((by rw [hg]; exact (below_size (bS (IsS75.ge Hi.out))) : w.heap.size ≤ gb)); have n10_ := aK ((by rw [hg]; exact (below_size (bS (IsS75.ge Hi.out))) : w.heap.size ≤ gb)); have n11_ := aK ((by rw [hg]; exact Nat.ne_of_lt (IsS75.lt (show IsS75 w _ g628 t626 t658 from iX Hi.out)) : g628 ≠ gb)); have n12_ := aK ((by rw [hg]; exact Nat.ne_of_gt (IsS75.lt (show IsS75 w _ g628 t626 t658 from iX Hi.out)) : gb ≠ g628)); clear HO_4 HO_5 HO_6 HO_8 HO_10 HO_12 Hi HB; have HO_4 := n0_; have HO_5 := n1_; have HO_6 := n2_; have HO_8 := n3_; have HO_10 := n4_; have HO_12 := n5_; have Hi := n6_; have HB := n7_; have BK := n8_; have GW := n9_; have GE := n10_; have NB := n11_; have NB659_628 := n12_; clear n0_ n1_ n2_ n3_ n4_ n5_ n6_ n7_ n8_ n9_ n10_ n11_ n12_ hb hbox hg; have hnb63 := NB659_628.out; have hnc63 := NB.out; obtain ⟨hcz64_0, hcz64_1, hcz64_2⟩ := z3 BK.out (.int .i64 0) (.int .i64 0) (.string (⟨#[]⟩ : ByteArray)); obtain ⟨hfz64_0, hfz64_1, hfz64_2⟩ := f3 BK.out))
           have n0_ : Aside0 (Kd.R k65 65 (((w62.setCell ⟨gb, 0, none⟩ (.int .i64 t655)).setCell ⟨gb, 1, none⟩ (.int .i64 t656)).setCell ⟨gb, 2, none⟩ (.string t657)) w.heap.size (fun k_ => some k_ ≠ (.slice Ao15 t633.length co15 : Value).ownBlock ∧ some k_ ≠ (v639 : Value).ownBlock ∧ some k_ ≠ (v643 : Value).ownBlock ∧ some k_ ≠ (v647 : Value).ownBlock ∧ some k_ ≠ (v651 : Value).ownBlock) (.slice Ao14 t629.length co14) t629) := ⟨by (with_reducible repeat (first | apply Kd.R_alloc | apply Kd.R_drewN | apply Kd.R_drew)); exact Kd.R_mono (Kd.R_far (p := ⟨gb, 2, none⟩) (Kd.R_far (p := ⟨gb, 1, none⟩) (Kd.R_far (p := ⟨gb, 0, none⟩) (Kd.R_types HO_4.out BK.out (by decide)) (fun _ hk => hk.2) (.int .i64 t655)) (fun _ hk => hk.2) (.int .i64 t656)) (fun _ hk => hk.2) (.string t657)) (fun _ hk => ⟨hk.1.1, ⟨hk.1.2.1, ⟨hk.1.2.2.1, ⟨hk.1.2.2.2.1, hk.1.2.2.2.2⟩⟩⟩⟩)⟩
           have n1_ : Aside0 (Kd.R k65 65 (((w62.setCell ⟨gb, 0, none⟩ (.int .i64 t655)).setCell ⟨gb, 1, none⟩ (.int .i64 t656)).setCell ⟨gb, 2, none⟩ (.string t657)) w.heap.size (fun k_ => some k_ ≠ (.slice Ao14 t629.length co14 : Value).ownBlock ∧ some k_ ≠ (v639 : Value).ownBlock ∧ some k_ ≠ (v643 : Value).ownBlock ∧ some k_ ≠ (v647 : Value).ownBlock ∧ some k_ ≠ (v651 : Value).ownBlock) (.slice Ao15 t633.length co15) t633) := ⟨by (with_reducible repeat (first | apply Kd.R_alloc | apply Kd.R_drewN | apply Kd.R_drew)); exact Kd.R_mono (Kd.R_far (p := ⟨gb, 2, none⟩) (Kd.R_far (p := ⟨gb, 1, none⟩) (Kd.R_far (p := ⟨gb, 0, none⟩) (Kd.R_types HO_5.out BK.out (by decide)) (fun _ hk => hk.2) (.int .i64 t655)) (fun _ hk => hk.2) (.int .i64 t656)) (fun _ hk => hk.2) (.string t657)) (fun _ hk => ⟨hk.1.1, ⟨hk.1.2.1, ⟨hk.1.2.2.1, ⟨hk.1.2.2.2.1, hk.1.2.2.2.2⟩⟩⟩⟩)⟩
           have n2_ : Aside0 (Kd.R k65 65 (((w62.setCell ⟨gb, 0, none⟩ (.int .i64 t655)).setCell ⟨gb, 1, none⟩ (.int .i64 t656)).setCell ⟨gb, 2, none⟩ (.string t657)) w.heap.size (fun k_ => some k_ ≠ (.slice Ao14 t629.length co14 : Value).ownBlock ∧ some k_ ≠ (.slice Ao15 t633.length co15 : Value).ownBlock ∧ some k_ ≠ (v643 : Value).ownBlock ∧ some k_ ≠ (v647 : Value).ownBlock ∧ some k_ ≠ (v651 : Value).ownBlock) v639 t637) := ⟨by (with_reducible repeat (first | apply Kd.R_alloc | apply Kd.R_drewN | apply Kd.R_drew)); exact Kd.R_mono (Kd.R_far (p := ⟨gb, 2, none⟩) (Kd.R_far (p := ⟨gb, 1, none⟩) (Kd.R_far (p := ⟨gb, 0, none⟩) (Kd.R_types HO_6.out BK.out (by decide)) (fun _ hk => hk.2) (.int .i64 t655)) (fun _ hk => hk.2) (.int .i64 t656)) (fun _ hk => hk.2) (.string t657)) (fun _ hk => ⟨hk.1.1, ⟨hk.1.2.1, ⟨hk.1.2.2.1, ⟨hk.1.2.2.2.1, hk.1.2.2.2.2⟩⟩⟩⟩)⟩
           have n3_ : Aside0 (Kd.R k65 65 (((w62.setCell ⟨gb, 0, none⟩ (.int .i64 t655)).setCell ⟨gb, 1, none⟩ (.int .i64 t656)).setCell ⟨gb, 2, none⟩ (.string t657)) w.heap.size (fun k_ => some k_ ≠ (.slice Ao14 t629.length co14 : Value).ownBlock ∧ some k_ ≠ (.slice Ao15 t633.length co15 : Value).ownBlock ∧ some k_ ≠ (v639 : Value).ownBlock ∧ some k_ ≠ (v647 : Value).ownBlock ∧ some k_ ≠ (v651 : Value).ownBlock) v643 t641) := ⟨by (with_reducible repeat (first | apply Kd.R_alloc | apply Kd.R_drewN | apply Kd.R_drew)); exact Kd.R_mono (Kd.R_far (p := ⟨gb, 2, none⟩) (Kd.R_far (p := ⟨gb, 1, none⟩) (Kd.R_far (p := ⟨gb, 0, none⟩) (Kd.R_types HO_8.out BK.out (by decide)) (fun _ hk => hk.2) (.int .i64 t655)) (fun _ hk => hk.2) (.int .i64 t656)) (fun _ hk => hk.2) (.string t657)) (fun _ hk => ⟨hk.1.1, ⟨hk.1.2.1, ⟨hk.1.2.2.1, ⟨hk.1.2.2.2.1, hk.1.2.2.2.2⟩⟩⟩⟩)⟩
           have n4_ : Aside0 (Kd.R k65 65 (((w62.setCell ⟨gb, 0, none⟩ (.int .i64 t655)).setCell ⟨gb, 1, none⟩ (.int .i64 t656)).setCell ⟨gb, 2, none⟩ (.string t657)) w.heap.size (fun k_ => some k_ ≠ (.slice Ao14 t629.length co14 : Value).ownBlock ∧ some k_ ≠ (.slice Ao15 t633.length co15 : Value).ownBlock ∧ some k_ ≠ (v639 : Value).ownBlock ∧ some k_ ≠ (v643 : Value).ownBlock ∧ some k_ ≠ (v651 : Value).ownBlock) v647 t645) := ⟨by (with_reducible repeat (first | apply Kd.R_alloc | apply Kd.R_drewN | apply Kd.R_drew)); exact Kd.R_mono (Kd.R_far (p := ⟨gb, 2, none⟩) (Kd.R_far (p := ⟨gb, 1, none⟩) (Kd.R_far (p := ⟨gb, 0, none⟩) (Kd.R_types HO_10.out BK.out (by decide)) (fun _ hk => hk.2) (.int .i64 t655)) (fun _ hk => hk.2) (.int .i64 t656)) (fun _ hk => hk.2) (.string t657)) (fun _ hk => ⟨hk.1.1, ⟨hk.1.2.1, ⟨hk.1.2.2.1, ⟨hk.1.2.2.2.1, hk.1.2.2.2.2⟩⟩⟩⟩)⟩
           have n5_ : Aside0 (Kd.R k65 65 (((w62.setCell ⟨gb, 0, none⟩ (.int .i64 t655)).setCell ⟨gb, 1, none⟩ (.int .i64 t656)).setCell ⟨gb, 2, none⟩ (.string t657)) w.heap.size (fun k_ => some k_ ≠ (.slice Ao14 t629.length co14 : Value).ownBlock ∧ some k_ ≠ (.slice Ao15 t633.length co15 : Value).ownBlock ∧ some k_ ≠ (v639 : Value).ownBlock ∧ some k_ ≠ (v643 : Value).ownBlock ∧ some k_ ≠ (v647 : Value).ownBlock) v651 t649) := ⟨by (with_reducible repeat (first | apply Kd.R_alloc | apply Kd.R_drewN | apply Kd.R_drew)); exact Kd.R_mono (Kd.R_far (p := ⟨gb, 2, none⟩) (Kd.R_far (p := ⟨gb, 1, none⟩) (Kd.R_far (p := ⟨gb, 0, none⟩) (Kd.R_types HO_12.out BK.out (by decide)) (fun _ hk => hk.2) (.int .i64 t655)) (fun _ hk => hk.2) (.int .i64 t656)) (fun _ hk => hk.2) (.string t657)) (fun _ hk => ⟨hk.1.1, ⟨hk.1.2.1, ⟨hk.1.2.2.1, ⟨hk.1.2.2.2.1, hk.1.2.2.2.2⟩⟩⟩⟩)⟩
           have n6_ : Aside0 ((((w62.setCell ⟨gb, 0, none⟩ (.int .i64 t655)).setCell ⟨gb, 1, none⟩ (.int .i64 t656)).setCell ⟨gb, 2, none⟩ (.string t657)).heap[gb]? = some (.cells #[.int .i64 t655, .int .i64 t656, .string t657] 24 (0, 0))) := ⟨by (with_reducible repeat (first | refine blk_drewN ?_ _ | refine blk_drew ?_ | refine blk_alloc ?_ _)); refine blk_put (cs := #[.int .i64 t655, .int .i64 t656, .string (⟨#[]⟩ : ByteArray)]) ?_ 2 _ rfl; (with_reducible repeat (first | refine blk_drewN ?_ _ | refine blk_drew ?_ | refine blk_alloc ?_ _)); refine blk_put (cs := #[.int .i64 t655, .int .i64 0, .string (⟨#[]⟩ : ByteArray)]) ?_ 1 _ rfl; (with_reducible repeat (first | refine blk_drewN ?_ _ | refine blk_drew ?_ | refine blk_alloc ?_ _)); refine blk_put (cs := #[.int .i64 0, .int .i64 0, .string (⟨#[]⟩ : ByteArray)]) ?_ 0 _ rfl; (with_reducible repeat (first | refine blk_drewN ?_ _ | refine blk_drew ?_ | refine blk_alloc ?_ _)); exact BK.out⟩
           have n7_ : Aside0 (IsS75 w (((w62.setCell ⟨gb, 0, none⟩ (.int .i64 t655)).setCell ⟨gb, 1, none⟩ (.int .i64 t656)).setCell ⟨gb, 2, none⟩ (.string t657)) g628 t626 t658) := ⟨iF Hi.out NB.out⟩
           have n8_ : Aside0 (Below w.heap.size w (((w62.setCell ⟨gb, 0, none⟩ (.int .i64 t655)).setCell ⟨gb, 1, none⟩ (.int .i64 t656)).setCell ⟨gb, 2, none⟩ (.string t657))) := ⟨bT (IsS75.ge Hi.out) GE.out⟩
           (try clear HO_4)
           (try clear HO_5)
           (try clear HO_6)
           (try clear HO_8)
           (try clear HO_10)
           (try clear HO_12)
           (try clear BK)
           (try clear Hi)
           (try clear HB)
           generalize (((w62.setCell ⟨gb, 0, none⟩ (.int .i64 t655)).setCell ⟨gb, 1, none⟩ (.int .i64 t656)).setCell ⟨gb, 2, none⟩ (.string t657)) = w65 at n0_ n1_ n2_ n3_ n4_ n5_ n6_ n7_ n8_ ⊢
           have HO_4 := n0_
           have HO_5 := n1_
           have HO_6 := n2_
           have HO_8 := n3_
           have HO_10 := n4_
           have HO_12 := n5_
           have BK := n6_
           have Hi := n7_
           have HB := n8_
           clear n0_ n1_ n2_ n3_ n4_ n5_ n6_ n7_ n8_
           have n0_ := aK (Kd.R_drew HO_4.out)
           have n1_ := aK (Kd.R_drew HO_5.out)
           have n2_ := aK (Kd.R_drew HO_6.out)
           have n3_ := aK (Kd.R_drew HO_8.out)
           have n4_ := aK (Kd.R_drew HO_10.out)
           have n5_ := aK (Kd.R_drew HO_12.out)
           have n6_ := aK (blk_drew BK.out)
           have n7_ := aK (IsS75.drew Hi.out)
           have n8_ := aK (below_drew1 HB.out)
           clear HO_4
           clear HO_5
           clear HO_6
           clear HO_8
           clear HO_10
           clear HO_12
           clear BK
           clear Hi
           clear HB
           have HO_4 := n0_
           have HO_5 := n1_
           have HO_6 := n2_
           have HO_8 := n3_
           have HO_10 := n4_
           have HO_12 := n5_
           have BK := n6_
           have Hi := n7_
           have HB := n8_
           clear n0_ n1_ n2_ n3_ n4_ n5_ n6_ n7_ n8_
           refine start_ (n := 8) (S := fun w' => w'.cell? ⟨gb, 0, none⟩ = some (.int .i64 t655) ∧ w'.cell? ⟨gb, 1, none⟩ = some (.int .i64 t656) ∧ w'.cell? ⟨gb, 2, none⟩ = some (.string t657)) (ds := []) #[false, false, false, false, false, false, false, false] (by kernel_rfl) rfl rfl ⟨(blk_cell BK.out 0).trans rfl, (blk_cell BK.out 1).trans rfl, (blk_cell BK.out 2).trans rfl⟩ (fun hHeld => ?_); refine with_tabW l3_IntervalPoints.tab14 l3_IntervalPoints.bits14 (fun HT_ HW_ => ?_)
           generalize w65.drew = w66 at HO_4 HO_5 HO_6 HO_8 HO_10 HO_12 BK Hi HB hHeld ⊢
           refine pY (i := 0) (N := some 79) (tf 1 7) rfl rfl HT_.out ?_
           refine pY (i := 3) (N := some 82) #[true, false, false, true, false, false, false, false] rfl rfl HT_.out ?_
           refine take_ (i := 1) (N := some 80) (v := ?_) (a' := ?_) #[true, true, false, true, false, false, false, false] rfl rfl (take_ofW HT_.out HW_.out (by kernel_rfl)) (fun _ _ _ h => h) (Or.inl ⟨by rfl, ?_⟩) hHeld ?_ ?_
           rotate_left
           ·rintro w' ⟨s0, s1, s2⟩
            go_simp
            with_reducible rfl
           rotate_left
           ·exact aP
           refine take_ (i := 4) (N := some 83) (v := ?_) (a' := ?_) #[true, true, false, true, true, false, false, false] rfl rfl (take_ofW HT_.out HW_.out (by kernel_rfl)) (fun _ _ _ h => h) (Or.inl ⟨by rfl, ?_⟩) hHeld ?_ ?_
           rotate_left
           ·rintro w' ⟨s0, s1, s2⟩
            go_simp
            with_reducible rfl
           rotate_left
           ·exact aP
           refine one_ (i := 2) (N := some 81) #[true, true, true, true, true, false, false, false] rfl rfl (one_of HT_.out (by kernel_rfl)) (by decide) (fun K hK => ?_)
           refine goes_ Try.func35 (by kernel_rfl) rfl #[.slice Ao14 t629.length co14, .agg #[.int .i64 t655, .int .i64 t656, .string t657]] (by rfl) rfl rfl (by (try simp only [List.map_toArray, List.map_cons, List.map_nil]); first | done | rfl | (simp only [List.length_drop, List.length_take]; rfl)) ?_
           with_reducible refine (i_Has.calls k2 _ _ t629 t655 t656 t657 true _ ?side1 ?side2 A28.out).mono ?_
           (case side1 => exact cX (Kd.R_reads' HO_4.out).2.2)
           (case side2 => exact (Kd.R_reads' HO_4.out).2.1)
           rintro e w67 ⟨rfl, hb⟩
           refine ⟨_, rfl, ?_⟩
           have n0_ := aK (Kd.R_below (rX HO_4.out) hb)
           have n1_ := aK (Kd.R_below (rX HO_5.out) hb)
           have n2_ := aK (Kd.R_below (rX HO_6.out) hb)
           have n3_ := aK (Kd.R_below (rX HO_8.out) hb)
           have n4_ := aK (Kd.R_below (rX HO_10.out) hb)
           have n5_ := aK (Kd.R_below (rX HO_12.out) hb)
           have n6_ := aK (IsS75.below (iF Hi.out NB.out) hb)
           have n7_ := aK (blk_below (bX BK.out) hb)
           have n8_ := aK (below_step (bT (IsS75.ge Hi.out) GE.out) hb)
           clear HO_4
           clear HO_5
           clear HO_6
           clear HO_8
           clear HO_10
           clear HO_12
           clear Hi
           clear BK
           clear HB
           have HO_4 := n0_
           have HO_5 := n1_
           have HO_6 := n2_
           have HO_8 := n3_
           have HO_10 := n4_
           have HO_12 := n5_
           have Hi := n6_
           have BK := n7_
           have HB := n8_
           clear n0_ n1_ n2_ n3_ n4_ n5_ n6_ n7_ n8_
           (try clear hb)
           (try clear hb2)
           (try clear hk)
           (try clear hi)
           refine hK.out _ _ ⟨(blk_cell BK.out 0).trans rfl, (blk_cell BK.out 1).trans rfl, (blk_cell BK.out 2).trans rfl⟩ (fun hHeld => ?_)
           clear hK K
           refine norm_ (a' := ?_) ?_ ?_
           rotate_left
           ·show Act.put _ (some 81) _ = _
            simp only [Act.put, List.setIfInBounds_toArray, List.set_cons_zero, List.set_cons_succ, i64_w, i32_w]
            rfl
           refine one_ (i := 5) (N := some 84) #[true, true, true, true, true, true, false, false] rfl rfl (one_of HT_.out (by kernel_rfl)) (by decide) (fun K hK => ?_)
           refine goes_ Try.func35 (by kernel_rfl) rfl #[.slice Ao15 t633.length co15, .agg #[.int .i64 t655, .int .i64 t656, .string t657]] (by rfl) rfl rfl (by (try simp only [List.map_toArray, List.map_cons, List.map_nil]); first | done | rfl | (simp only [List.length_drop, List.length_take]; rfl)) ?_
           with_reducible refine (i_Has.calls k2 _ _ t633 t655 t656 t657 false _ ?side1 ?side2 A29.out).mono ?_
           (case side1 => exact cX (Kd.R_reads' HO_5.out).2.2)
           (case side2 => exact (Kd.R_reads' HO_5.out).2.1)
           rintro e w68 ⟨rfl, hb⟩
           refine ⟨_, rfl, ?_⟩
           have n0_ := aK (Kd.R_below (rX HO_4.out) hb)
           have n1_ := aK (Kd.R_below (rX HO_5.out) hb)
           have n2_ := aK (Kd.R_below (rX HO_6.out) hb)
           have n3_ := aK (Kd.R_below (rX HO_8.out) hb)
           have n4_ := aK (Kd.R_below (rX HO_10.out) hb)
           have n5_ := aK (Kd.R_below (rX HO_12.out) hb)
           have n6_ := aK (IsS75.below (iF Hi.out NB.out) hb)
           have n7_ := aK (blk_below (bX BK.out) hb)
           have n8_ := aK (below_step (bT (IsS75.ge Hi.out) GE.out) hb)
           clear HO_4
           clear HO_5
           clear HO_6
           clear HO_8
           clear HO_10
           clear HO_12
           clear Hi
           clear BK
           clear HB
           have HO_4 := n0_
           have HO_5 := n1_
           have HO_6 := n2_
           have HO_8 := n3_
           have HO_10 := n4_
           have HO_12 := n5_
           have Hi := n6_
           have BK := n7_
           have HB := n8_
           clear n0_ n1_ n2_ n3_ n4_ n5_ n6_ n7_ n8_
           (try clear hb)
           (try clear hb2)
           (try clear hk)
           (try clear hi)
           refine hK.out _ _ ⟨(blk_cell BK.out 0).trans rfl, (blk_cell BK.out 1).trans rfl, (blk_cell BK.out 2).trans rfl⟩ (fun hHeld => ?_)
           clear hK K
           refine norm_ (a' := ?_) ?_ ?_
           rotate_left
           ·show Act.put _ (some 84) _ = _
            simp only [Act.put, List.setIfInBounds_toArray, List.set_cons_zero, List.set_cons_succ, i64_w, i32_w]
            rfl
           refine pY (i := 6) (N := some 18) (tf 7 1) rfl rfl HT_.out ?_
           refine pY (i := 7) (N := some 19) (tf 8 0) rfl rfl HT_.out ?_
           refine done_ (done_of HT_.out (by kernel_rfl)) ?_
           obtain ⟨hcz69_0, hcz69_1, hcz69_2⟩ := z3 BK.out (.int .i64 t655) (.int .i64 t656) (.string t657)
           obtain ⟨hfz69_0, hfz69_1, hfz69_2⟩ := f3 BK.out
           obtain ⟨Ao70, co70, eo70⟩ := Kd.R_slice HO_6.out
           subst eo70
           try go_wp2_with (first | ((with_reducible refine gate_callee (f := 35) rfl ?_); refine gL (some 87) rfl Try.func35 #[.slice Ao70 t637.length co70, .agg #[.int .i64 t655, .int .i64 t656, .string t657]] rfl ?_; (with_reducible refine (i_Has.calls k2 _ _ t637 t655 t656 t657 t662 _ ?side1 ?side2 A30.out).mono ?_); (case side1 => exact cX (Kd.R_reads' HO_6.out).2.2); (case side2 => exact (Kd.R_reads' HO_6.out).2.1); rintro e w71 ⟨rfl, hb⟩; refine ⟨_, rfl, ?_⟩; have n0_ := aK (Kd.R_below (rX HO_4.out) hb); have n1_ := aK (Kd.R_below (rX HO_5.out) hb); have n2_ := aK (Kd.R_below (rX HO_6.out) hb); have n3_ := aK (Kd.R_below (rX HO_8.out) hb); have n4_ := aK (Kd.R_below (rX HO_10.out) hb); have n5_ := aK (Kd.R_below (rX HO_12.out) hb); have n6_ := aK (IsS75.below (iF Hi.out NB.out) hb); have n7_ := aK (blk_below (bX BK.out) hb); have n8_ := aK (below_step (bT (IsS75.ge Hi.out) GE.out) hb); clear HO_4 HO_5 HO_6 HO_8 HO_10 HO_12 Hi BK HB; have HO_4 := n0_; have HO_5 := n1_; have HO_6 := n2_; have HO_8 := n3_; have HO_10 := n4_; have HO_12 := n5_; have Hi := n6_; have BK := n7_; have HB := n8_; clear n0_ n1_ n2_ n3_ n4_ n5_ n6_ n7_ n8_; (try clear hb); obtain ⟨hcz72_0, hcz72_1, hcz72_2⟩ := z3 BK.out (.int .i64 t655) (.int .i64 t656) (.string t657); obtain ⟨hfz72_0, hfz72_1, hfz72_2⟩ := f3 BK.out; obtain ⟨Ao73, co73, eo73⟩ := Kd.R_slice HO_8.out; subst eo73) | (go_at_call 35; (with_reducible refine (i_Has.calls k2 _ _ t641 t655 t656 t657 t663 _ ?side1 ?side2 A33.out).mono ?_); (case side1 => exact cX (Kd.R_reads' HO_8.out).2.2); (case side2 => exact (Kd.R_reads' HO_8.out).2.1); rintro e w74 ⟨rfl, hb⟩; have n0_ := aK (Kd.R_below (rX HO_4.out) hb); have n1_ := aK (Kd.R_below (rX HO_5.out) hb); have n2_ := aK (Kd.R_below (rX HO_6.out) hb); have n3_ := aK (Kd.R_below (rX HO_8.out) hb); have n4_ := aK (Kd.R_below (rX HO_10.out) hb); have n5_ := aK (Kd.R_below (rX HO_12.out) hb); have n6_ := aK (IsS75.below (iF Hi.out NB.out) hb); have n7_ := aK (blk_below (bX BK.out) hb); have n8_ := aK (below_step (bT (IsS75.ge Hi.out) GE.out) hb); clear HO_4 HO_5 HO_6 HO_8 HO_10 HO_12 Hi BK HB; have HO_4 := n0_; have HO_5 := n1_; have HO_6 := n2_; have HO_8 := n3_; have HO_10 := n4_; have HO_12 := n5_; have Hi := n6_; have BK := n7_; have HB := n8_; clear n0_ n1_ n2_ n3_ n4_ n5_ n6_ n7_ n8_; (try clear hb); obtain ⟨hcz75_0, hcz75_1, hcz75_2⟩ := z3 BK.out (.int .i64 t655) (.int .i64 t656) (.string t657); obtain ⟨hfz75_0, hfz75_1, hfz75_2⟩ := f3 BK.out; obtain ⟨Ao76, co76, eo76⟩ := Kd.R_slice HO_10.out; subst eo76) | (go_at_call 35; (with_reducible refine (i_Has.calls k2 _ _ t645 t655 t656 t657 t664 _ ?side1 ?side2 A35.out).mono ?_); (case side1 => exact cX (Kd.R_reads' HO_10.out).2.2); (case side2 => exact (Kd.R_reads' HO_10.out).2.1); rintro e w77 ⟨rfl, hb⟩; have n0_ := aK (Kd.R_below (rX HO_4.out) hb); have n1_ := aK (Kd.R_below (rX HO_5.out) hb); have n2_ := aK (Kd.R_below (rX HO_6.out) hb); have n3_ := aK (Kd.R_below (rX HO_8.out) hb); have n4_ := aK (Kd.R_below (rX HO_10.out) hb); have n5_ := aK (Kd.R_below (rX HO_12.out) hb); have n6_ := aK (IsS75.below (iF Hi.out NB.out) hb); have n7_ := aK (blk_below (bX BK.out) hb); have n8_ := aK (below_step (bT (IsS75.ge Hi.out) GE.out) hb); clear HO_4 HO_5 HO_6 HO_8 HO_10 HO_12 Hi BK HB; have HO_4 := n0_; have HO_5 := n1_; have HO_6 := n2_; have HO_8 := n3_; have HO_10 := n4_; have HO_12 := n5_; have Hi := n6_; have BK := n7_; have HB := n8_; clear n0_ n1_ n2_ n3_ n4_ n5_ n6_ n7_ n8_; (try clear hb); obtain ⟨hcz78_0, hcz78_1, hcz78_2⟩ := z3 BK.out (.int .i64 t655) (.int .i64 t656) (.string t657); obtain ⟨hfz78_0, hfz78_1, hfz78_2⟩ := f3 BK.out; obtain ⟨Ao79, co79, eo79⟩ := Kd.R_slice HO_12.out; subst eo79) | (go_at_call 35; (with_reducible refine (i_Has.calls k2 _ _ t649 t655 t656 t657 t665 _ ?side1 ?side2 A37.out).mono ?_); (case side1 => exact cX (Kd.R_reads' HO_12.out).2.2); (case side2 => exact (Kd.R_reads' HO_12.out).2.1); rintro e w80 ⟨rfl, hb⟩; have n0_ := aK (Kd.R_below (rX HO_4.out) hb); have n1_ := aK (Kd.R_below (rX HO_5.out) hb); have n2_ := aK (Kd.R_below (rX HO_6.out) hb); have n3_ := aK (Kd.R_below (rX HO_8.out) hb); have n4_ := aK (Kd.R_below (rX HO_10.out) hb); have n5_ := aK (Kd.R_below (rX HO_12.out) hb); have n6_ := aK (IsS75.below (iF Hi.out NB.out) hb); have n7_ := aK (blk_below (bX BK.out) hb); have n8_ := aK (below_step (bT (IsS75.ge Hi.out) GE.out) hb); clear HO_4 HO_5 HO_6 HO_8 HO_10 HO_12 Hi BK HB; have HO_4 := n0_; have HO_5 := n1_; have HO_6 := n2_; have HO_8 := n3_; have HO_10 := n4_; have HO_12 := n5_; have Hi := n6_; have BK := n7_; have HB := n8_; clear n0_ n1_ n2_ n3_ n4_ n5_ n6_ n7_ n8_; (try clear hb)))
           go_roundg k2
           case measure => have := HJ10.out; have := HK2.out; omega
           case rel => exact ⟨(wrap64 (x16_2 + 1)), (t658), (by first | rfl | (simp; done) | (simp [*]; done)), H', ⟨by have := HJ10.out; have := HK2.out; omega⟩, ⟨rX HO_4.out⟩, ⟨rX HO_5.out⟩, ⟨rX HO_6.out⟩, ⟨rX HO_8.out⟩, ⟨rX HO_10.out⟩, ⟨rX HO_12.out⟩, ⟨iF Hi.out NB.out⟩, ⟨bT (IsS75.ge Hi.out) GE.out⟩⟩
          subst c40
          rw [if_pos rfl] at H
          have H' := Aside0.mk H
          clear H
          try go_wp2_with (first | ((with_reducible refine gate_callee (f := 19) rfl ?_); refine gL (some 78) rfl Try.func19 #[.pointer (some ⟨g628, 0, none⟩)] rfl ?_; (with_reducible refine (cc_Any.calls k2 g628 t626 xq t655 t656 t657 t658 w _ ?side1 ?side2 A27.out).mono ?_); (case side1 => exact iX Hi.out); (case side2 => exact bS (IsS75.ge Hi.out)); rintro e w41 ⟨rfl, hi, hb, hk⟩; refine ⟨_, rfl, ?_⟩; have n0_ := aK (Kd.R_mono (Kd.R_keep (IsS75.apart (show IsS75 w _ g628 t626 xq from iX Hi.out) (rX HO_4.out) (by decide)) hk (fun _ h => h.2)) (fun _ h => h.1)); have n1_ := aK (Kd.R_mono (Kd.R_keep (IsS75.apart (show IsS75 w _ g628 t626 xq from iX Hi.out) (rX HO_5.out) (by decide)) hk (fun _ h => h.2)) (fun _ h => h.1)); have n2_ := aK (Kd.R_mono (Kd.R_keep (IsS75.apart (show IsS75 w _ g628 t626 xq from iX Hi.out) (rX HO_6.out) (by decide)) hk (fun _ h => h.2)) (fun _ h => h.1)); have n3_ := aK (Kd.R_mono (Kd.R_keep (IsS75.apart (show IsS75 w _ g628 t626 xq from iX Hi.out) (rX HO_8.out) (by decide)) hk (fun _ h => h.2)) (fun _ h => h.1)); have n4_ := aK (Kd.R_mono (Kd.R_keep (IsS75.apart (show IsS75 w _ g628 t626 xq from iX Hi.out) (rX HO_10.out) (by decide)) hk (fun _ h => h.2)) (fun _ h => h.1)); have n5_ := aK (Kd.R_mono (Kd.R_keep (IsS75.apart (show IsS75 w _ g628 t626 xq from iX Hi.out) (rX HO_12.out) (by decide)) hk (fun _ h => h.2)) (fun _ h => h.1)); have n6_ := aK (hb); have n7_ := aK (hi); clear HO_4 HO_5 HO_6 HO_8 HO_10 HO_12 HB Hi; have HO_4 := n0_; have HO_5 := n1_; have HO_6 := n2_; have HO_8 := n3_; have HO_10 := n4_; have HO_12 := n5_; have HB := n6_; have Hi := n7_; clear n0_ n1_ n2_ n3_ n4_ n5_ n6_ n7_; (try clear hb hk hi)) | ((with_reducible refine gate_dst (N := 17) rfl ?_); refine box_event ?hg (N := 17) ?hd (cs := #[.int .i64 0, .int .i64 0, .string (⟨#[]⟩ : ByteArray)]) (t := 24) ?hr ?_; (case hd => rfl); (case hg => rfl); (case hr => exact hR); intro gb hg w42 hbox hb; have n0_ := aK (Kd.R_below (rX HO_4.out) hb); have n1_ := aK (Kd.R_below (rX HO_5.out) hb); have n2_ := aK (Kd.R_below (rX HO_6.out) hb); have n3_ := aK (Kd.R_below (rX HO_8.out) hb); have n4_ := aK (Kd.R_below (rX HO_10.out) hb); have n5_ := aK (Kd.R_below (rX HO_12.out) hb); have n6_ := aK (IsS75.below (iX Hi.out) hb); have n7_ := aK (below_step (bS (IsS75.ge Hi.out)) hb); have n8_ := aK (hbox); have n9_ := aK ((by rw [hg]; exact (below_size (bS (IsS75.ge Hi.out))) : w.heap.size ≤ gb)); have n10_ := aK ((by rw [hg]; exact (below_size (bS (IsS75.ge Hi.out))) : w.heap.size ≤ gb)); have n11_ := aK ((by rw [hg]; exact Nat.ne_of_lt (IsS75.lt (show IsS75 w _ g628 t626 t658 from iX Hi.out)) : g628 ≠ gb)); have n12_ := aK ((by rw [hg]; exact Nat.ne_of_gt (IsS75.lt (show IsS75 w _ g628 t626 t658 from iX Hi.out)) : gb ≠ g628)); clear HO_4 HO_5 HO_6 HO_8 HO_10 HO_12 Hi HB; have HO_4 := n0_; have HO_5 := n1_; have HO_6 := n2_; have HO_8 := n3_; have HO_10 := n4_; have HO_12 := n5_; have Hi := n6_; have HB := n7_; have BK := n8_; have GW := n9_; have GE := n10_; have NB := n11_; have NB659_628 := n12_; clear n0_ n1_ n2_ n3_ n4_ n5_ n6_ n7_ n8_ n9_ n10_ n11_ n12_ hb hbox hg; have hnb43 := NB659_628.out; have hnc43 := NB.out; obtain ⟨hcz44_0, hcz44_1, hcz44_2⟩ := z3 BK.out (.int .i64 0) (.int .i64 0) (.string (⟨#[]⟩ : ByteArray)); obtain ⟨hfz44_0, hfz44_1, hfz44_2⟩ := f3 BK.out))
          have n0_ : Aside0 (Kd.R k65 65 (((w42.setCell ⟨gb, 0, none⟩ (.int .i64 t655)).setCell ⟨gb, 1, none⟩ (.int .i64 t656)).setCell ⟨gb, 2, none⟩ (.string t657)) w.heap.size (fun k_ => some k_ ≠ (.slice Ao15 t633.length co15 : Value).ownBlock ∧ some k_ ≠ (v639 : Value).ownBlock ∧ some k_ ≠ (v643 : Value).ownBlock ∧ some k_ ≠ (v647 : Value).ownBlock ∧ some k_ ≠ (v651 : Value).ownBlock) (.slice Ao14 t629.length co14) t629) := ⟨by (with_reducible repeat (first | apply Kd.R_alloc | apply Kd.R_drewN | apply Kd.R_drew)); exact Kd.R_mono (Kd.R_far (p := ⟨gb, 2, none⟩) (Kd.R_far (p := ⟨gb, 1, none⟩) (Kd.R_far (p := ⟨gb, 0, none⟩) (Kd.R_types HO_4.out BK.out (by decide)) (fun _ hk => hk.2) (.int .i64 t655)) (fun _ hk => hk.2) (.int .i64 t656)) (fun _ hk => hk.2) (.string t657)) (fun _ hk => ⟨hk.1.1, ⟨hk.1.2.1, ⟨hk.1.2.2.1, ⟨hk.1.2.2.2.1, hk.1.2.2.2.2⟩⟩⟩⟩)⟩
          have n1_ : Aside0 (Kd.R k65 65 (((w42.setCell ⟨gb, 0, none⟩ (.int .i64 t655)).setCell ⟨gb, 1, none⟩ (.int .i64 t656)).setCell ⟨gb, 2, none⟩ (.string t657)) w.heap.size (fun k_ => some k_ ≠ (.slice Ao14 t629.length co14 : Value).ownBlock ∧ some k_ ≠ (v639 : Value).ownBlock ∧ some k_ ≠ (v643 : Value).ownBlock ∧ some k_ ≠ (v647 : Value).ownBlock ∧ some k_ ≠ (v651 : Value).ownBlock) (.slice Ao15 t633.length co15) t633) := ⟨by (with_reducible repeat (first | apply Kd.R_alloc | apply Kd.R_drewN | apply Kd.R_drew)); exact Kd.R_mono (Kd.R_far (p := ⟨gb, 2, none⟩) (Kd.R_far (p := ⟨gb, 1, none⟩) (Kd.R_far (p := ⟨gb, 0, none⟩) (Kd.R_types HO_5.out BK.out (by decide)) (fun _ hk => hk.2) (.int .i64 t655)) (fun _ hk => hk.2) (.int .i64 t656)) (fun _ hk => hk.2) (.string t657)) (fun _ hk => ⟨hk.1.1, ⟨hk.1.2.1, ⟨hk.1.2.2.1, ⟨hk.1.2.2.2.1, hk.1.2.2.2.2⟩⟩⟩⟩)⟩
          have n2_ : Aside0 (Kd.R k65 65 (((w42.setCell ⟨gb, 0, none⟩ (.int .i64 t655)).setCell ⟨gb, 1, none⟩ (.int .i64 t656)).setCell ⟨gb, 2, none⟩ (.string t657)) w.heap.size (fun k_ => some k_ ≠ (.slice Ao14 t629.length co14 : Value).ownBlock ∧ some k_ ≠ (.slice Ao15 t633.length co15 : Value).ownBlock ∧ some k_ ≠ (v643 : Value).ownBlock ∧ some k_ ≠ (v647 : Value).ownBlock ∧ some k_ ≠ (v651 : Value).ownBlock) v639 t637) := ⟨by (with_reducible repeat (first | apply Kd.R_alloc | apply Kd.R_drewN | apply Kd.R_drew)); exact Kd.R_mono (Kd.R_far (p := ⟨gb, 2, none⟩) (Kd.R_far (p := ⟨gb, 1, none⟩) (Kd.R_far (p := ⟨gb, 0, none⟩) (Kd.R_types HO_6.out BK.out (by decide)) (fun _ hk => hk.2) (.int .i64 t655)) (fun _ hk => hk.2) (.int .i64 t656)) (fun _ hk => hk.2) (.string t657)) (fun _ hk => ⟨hk.1.1, ⟨hk.1.2.1, ⟨hk.1.2.2.1, ⟨hk.1.2.2.2.1, hk.1.2.2.2.2⟩⟩⟩⟩)⟩
          have n3_ : Aside0 (Kd.R k65 65 (((w42.setCell ⟨gb, 0, none⟩ (.int .i64 t655)).setCell ⟨gb, 1, none⟩ (.int .i64 t656)).setCell ⟨gb, 2, none⟩ (.string t657)) w.heap.size (fun k_ => some k_ ≠ (.slice Ao14 t629.length co14 : Value).ownBlock ∧ some k_ ≠ (.slice Ao15 t633.length co15 : Value).ownBlock ∧ some k_ ≠ (v639 : Value).ownBlock ∧ some k_ ≠ (v647 : Value).ownBlock ∧ some k_ ≠ (v651 : Value).ownBlock) v643 t641) := ⟨by (with_reducible repeat (first | apply Kd.R_alloc | apply Kd.R_drewN | apply Kd.R_drew)); exact Kd.R_mono (Kd.R_far (p := ⟨gb, 2, none⟩) (Kd.R_far (p := ⟨gb, 1, none⟩) (Kd.R_far (p := ⟨gb, 0, none⟩) (Kd.R_types HO_8.out BK.out (by decide)) (fun _ hk => hk.2) (.int .i64 t655)) (fun _ hk => hk.2) (.int .i64 t656)) (fun _ hk => hk.2) (.string t657)) (fun _ hk => ⟨hk.1.1, ⟨hk.1.2.1, ⟨hk.1.2.2.1, ⟨hk.1.2.2.2.1, hk.1.2.2.2.2⟩⟩⟩⟩)⟩
          have n4_ : Aside0 (Kd.R k65 65 (((w42.setCell ⟨gb, 0, none⟩ (.int .i64 t655)).setCell ⟨gb, 1, none⟩ (.int .i64 t656)).setCell ⟨gb, 2, none⟩ (.string t657)) w.heap.size (fun k_ => some k_ ≠ (.slice Ao14 t629.length co14 : Value).ownBlock ∧ some k_ ≠ (.slice Ao15 t633.length co15 : Value).ownBlock ∧ some k_ ≠ (v639 : Value).ownBlock ∧ some k_ ≠ (v643 : Value).ownBlock ∧ some k_ ≠ (v651 : Value).ownBlock) v647 t645) := ⟨by (with_reducible repeat (first | apply Kd.R_alloc | apply Kd.R_drewN | apply Kd.R_drew)); exact Kd.R_mono (Kd.R_far (p := ⟨gb, 2, none⟩) (Kd.R_far (p := ⟨gb, 1, none⟩) (Kd.R_far (p := ⟨gb, 0, none⟩) (Kd.R_types HO_10.out BK.out (by decide)) (fun _ hk => hk.2) (.int .i64 t655)) (fun _ hk => hk.2) (.int .i64 t656)) (fun _ hk => hk.2) (.string t657)) (fun _ hk => ⟨hk.1.1, ⟨hk.1.2.1, ⟨hk.1.2.2.1, ⟨hk.1.2.2.2.1, hk.1.2.2.2.2⟩⟩⟩⟩)⟩
          have n5_ : Aside0 (Kd.R k65 65 (((w42.setCell ⟨gb, 0, none⟩ (.int .i64 t655)).setCell ⟨gb, 1, none⟩ (.int .i64 t656)).setCell ⟨gb, 2, none⟩ (.string t657)) w.heap.size (fun k_ => some k_ ≠ (.slice Ao14 t629.length co14 : Value).ownBlock ∧ some k_ ≠ (.slice Ao15 t633.length co15 : Value).ownBlock ∧ some k_ ≠ (v639 : Value).ownBlock ∧ some k_ ≠ (v643 : Value).ownBlock ∧ some k_ ≠ (v647 : Value).ownBlock) v651 t649) := ⟨by (with_reducible repeat (first | apply Kd.R_alloc | apply Kd.R_drewN | apply Kd.R_drew)); exact Kd.R_mono (Kd.R_far (p := ⟨gb, 2, none⟩) (Kd.R_far (p := ⟨gb, 1, none⟩) (Kd.R_far (p := ⟨gb, 0, none⟩) (Kd.R_types HO_12.out BK.out (by decide)) (fun _ hk => hk.2) (.int .i64 t655)) (fun _ hk => hk.2) (.int .i64 t656)) (fun _ hk => hk.2) (.string t657)) (fun _ hk => ⟨hk.1.1, ⟨hk.1.2.1, ⟨hk.1.2.2.1, ⟨hk.1.2.2.2.1, hk.1.2.2.2.2⟩⟩⟩⟩)⟩
          have n6_ : Aside0 ((((w42.setCell ⟨gb, 0, none⟩ (.int .i64 t655)).setCell ⟨gb, 1, none⟩ (.int .i64 t656)).setCell ⟨gb, 2, none⟩ (.string t657)).heap[gb]? = some (.cells #[.int .i64 t655, .int .i64 t656, .string t657] 24 (0, 0))) := ⟨by (with_reducible repeat (first | refine blk_drewN ?_ _ | refine blk_drew ?_ | refine blk_alloc ?_ _)); refine blk_put (cs := #[.int .i64 t655, .int .i64 t656, .string (⟨#[]⟩ : ByteArray)]) ?_ 2 _ rfl; (with_reducible repeat (first | refine blk_drewN ?_ _ | refine blk_drew ?_ | refine blk_alloc ?_ _)); refine blk_put (cs := #[.int .i64 t655, .int .i64 0, .string (⟨#[]⟩ : ByteArray)]) ?_ 1 _ rfl; (with_reducible repeat (first | refine blk_drewN ?_ _ | refine blk_drew ?_ | refine blk_alloc ?_ _)); refine blk_put (cs := #[.int .i64 0, .int .i64 0, .string (⟨#[]⟩ : ByteArray)]) ?_ 0 _ rfl; (with_reducible repeat (first | refine blk_drewN ?_ _ | refine blk_drew ?_ | refine blk_alloc ?_ _)); exact BK.out⟩
          have n7_ : Aside0 (IsS75 w (((w42.setCell ⟨gb, 0, none⟩ (.int .i64 t655)).setCell ⟨gb, 1, none⟩ (.int .i64 t656)).setCell ⟨gb, 2, none⟩ (.string t657)) g628 t626 t658) := ⟨iF Hi.out NB.out⟩
          have n8_ : Aside0 (Below w.heap.size w (((w42.setCell ⟨gb, 0, none⟩ (.int .i64 t655)).setCell ⟨gb, 1, none⟩ (.int .i64 t656)).setCell ⟨gb, 2, none⟩ (.string t657))) := ⟨bT (IsS75.ge Hi.out) GE.out⟩
          (try clear HO_4)
          (try clear HO_5)
          (try clear HO_6)
          (try clear HO_8)
          (try clear HO_10)
          (try clear HO_12)
          (try clear BK)
          (try clear Hi)
          (try clear HB)
          generalize (((w42.setCell ⟨gb, 0, none⟩ (.int .i64 t655)).setCell ⟨gb, 1, none⟩ (.int .i64 t656)).setCell ⟨gb, 2, none⟩ (.string t657)) = w45 at n0_ n1_ n2_ n3_ n4_ n5_ n6_ n7_ n8_ ⊢
          have HO_4 := n0_
          have HO_5 := n1_
          have HO_6 := n2_
          have HO_8 := n3_
          have HO_10 := n4_
          have HO_12 := n5_
          have BK := n6_
          have Hi := n7_
          have HB := n8_
          clear n0_ n1_ n2_ n3_ n4_ n5_ n6_ n7_ n8_
          have n0_ := aK (Kd.R_drew HO_4.out)
          have n1_ := aK (Kd.R_drew HO_5.out)
          have n2_ := aK (Kd.R_drew HO_6.out)
          have n3_ := aK (Kd.R_drew HO_8.out)
          have n4_ := aK (Kd.R_drew HO_10.out)
          have n5_ := aK (Kd.R_drew HO_12.out)
          have n6_ := aK (blk_drew BK.out)
          have n7_ := aK (IsS75.drew Hi.out)
          have n8_ := aK (below_drew1 HB.out)
          clear HO_4
          clear HO_5
          clear HO_6
          clear HO_8
          clear HO_10
          clear HO_12
          clear BK
          clear Hi
          clear HB
          have HO_4 := n0_
          have HO_5 := n1_
          have HO_6 := n2_
          have HO_8 := n3_
          have HO_10 := n4_
          have HO_12 := n5_
          have BK := n6_
          have Hi := n7_
          have HB := n8_
          clear n0_ n1_ n2_ n3_ n4_ n5_ n6_ n7_ n8_
          refine start_ (n := 8) (S := fun w' => w'.cell? ⟨gb, 0, none⟩ = some (.int .i64 t655) ∧ w'.cell? ⟨gb, 1, none⟩ = some (.int .i64 t656) ∧ w'.cell? ⟨gb, 2, none⟩ = some (.string t657)) (ds := []) #[false, false, false, false, false, false, false, false] (by kernel_rfl) rfl rfl ⟨(blk_cell BK.out 0).trans rfl, (blk_cell BK.out 1).trans rfl, (blk_cell BK.out 2).trans rfl⟩ (fun hHeld => ?_); refine with_tabW l3_IntervalPoints.tab14 l3_IntervalPoints.bits14 (fun HT_ HW_ => ?_)
          generalize w45.drew = w46 at HO_4 HO_5 HO_6 HO_8 HO_10 HO_12 BK Hi HB hHeld ⊢
          refine pY (i := 0) (N := some 79) (tf 1 7) rfl rfl HT_.out ?_
          refine pY (i := 3) (N := some 82) #[true, false, false, true, false, false, false, false] rfl rfl HT_.out ?_
          refine take_ (i := 1) (N := some 80) (v := ?_) (a' := ?_) #[true, true, false, true, false, false, false, false] rfl rfl (take_ofW HT_.out HW_.out (by kernel_rfl)) (fun _ _ _ h => h) (Or.inl ⟨by rfl, ?_⟩) hHeld ?_ ?_
          rotate_left
          ·rintro w' ⟨s0, s1, s2⟩
           go_simp
           with_reducible rfl
          rotate_left
          ·exact aP
          refine take_ (i := 4) (N := some 83) (v := ?_) (a' := ?_) #[true, true, false, true, true, false, false, false] rfl rfl (take_ofW HT_.out HW_.out (by kernel_rfl)) (fun _ _ _ h => h) (Or.inl ⟨by rfl, ?_⟩) hHeld ?_ ?_
          rotate_left
          ·rintro w' ⟨s0, s1, s2⟩
           go_simp
           with_reducible rfl
          rotate_left
          ·exact aP
          refine one_ (i := 2) (N := some 81) #[true, true, true, true, true, false, false, false] rfl rfl (one_of HT_.out (by kernel_rfl)) (by decide) (fun K hK => ?_)
          refine goes_ Try.func35 (by kernel_rfl) rfl #[.slice Ao14 t629.length co14, .agg #[.int .i64 t655, .int .i64 t656, .string t657]] (by rfl) rfl rfl (by (try simp only [List.map_toArray, List.map_cons, List.map_nil]); first | done | rfl | (simp only [List.length_drop, List.length_take]; rfl)) ?_
          with_reducible refine (i_Has.calls k2 _ _ t629 t655 t656 t657 true _ ?side1 ?side2 A28.out).mono ?_
          (case side1 => exact cX (Kd.R_reads' HO_4.out).2.2)
          (case side2 => exact (Kd.R_reads' HO_4.out).2.1)
          rintro e w47 ⟨rfl, hb⟩
          refine ⟨_, rfl, ?_⟩
          have n0_ := aK (Kd.R_below (rX HO_4.out) hb)
          have n1_ := aK (Kd.R_below (rX HO_5.out) hb)
          have n2_ := aK (Kd.R_below (rX HO_6.out) hb)
          have n3_ := aK (Kd.R_below (rX HO_8.out) hb)
          have n4_ := aK (Kd.R_below (rX HO_10.out) hb)
          have n5_ := aK (Kd.R_below (rX HO_12.out) hb)
          have n6_ := aK (IsS75.below (iF Hi.out NB.out) hb)
          have n7_ := aK (blk_below (bX BK.out) hb)
          have n8_ := aK (below_step (bT (IsS75.ge Hi.out) GE.out) hb)
          clear HO_4
          clear HO_5
          clear HO_6
          clear HO_8
          clear HO_10
          clear HO_12
          clear Hi
          clear BK
          clear HB
          have HO_4 := n0_
          have HO_5 := n1_
          have HO_6 := n2_
          have HO_8 := n3_
          have HO_10 := n4_
          have HO_12 := n5_
          have Hi := n6_
          have BK := n7_
          have HB := n8_
          clear n0_ n1_ n2_ n3_ n4_ n5_ n6_ n7_ n8_
          (try clear hb)
          (try clear hb2)
          (try clear hk)
          (try clear hi)
          refine hK.out _ _ ⟨(blk_cell BK.out 0).trans rfl, (blk_cell BK.out 1).trans rfl, (blk_cell BK.out 2).trans rfl⟩ (fun hHeld => ?_)
          clear hK K
          refine norm_ (a' := ?_) ?_ ?_
          rotate_left
          ·show Act.put _ (some 81) _ = _
           simp only [Act.put, List.setIfInBounds_toArray, List.set_cons_zero, List.set_cons_succ, i64_w, i32_w]
           rfl
          refine one_ (i := 5) (N := some 84) #[true, true, true, true, true, true, false, false] rfl rfl (one_of HT_.out (by kernel_rfl)) (by decide) (fun K hK => ?_)
          refine goes_ Try.func35 (by kernel_rfl) rfl #[.slice Ao15 t633.length co15, .agg #[.int .i64 t655, .int .i64 t656, .string t657]] (by rfl) rfl rfl (by (try simp only [List.map_toArray, List.map_cons, List.map_nil]); first | done | rfl | (simp only [List.length_drop, List.length_take]; rfl)) ?_
          with_reducible refine (i_Has.calls k2 _ _ t633 t655 t656 t657 true _ ?side1 ?side2 A29.out).mono ?_
          (case side1 => exact cX (Kd.R_reads' HO_5.out).2.2)
          (case side2 => exact (Kd.R_reads' HO_5.out).2.1)
          rintro e w48 ⟨rfl, hb⟩
          refine ⟨_, rfl, ?_⟩
          have n0_ := aK (Kd.R_below (rX HO_4.out) hb)
          have n1_ := aK (Kd.R_below (rX HO_5.out) hb)
          have n2_ := aK (Kd.R_below (rX HO_6.out) hb)
          have n3_ := aK (Kd.R_below (rX HO_8.out) hb)
          have n4_ := aK (Kd.R_below (rX HO_10.out) hb)
          have n5_ := aK (Kd.R_below (rX HO_12.out) hb)
          have n6_ := aK (IsS75.below (iF Hi.out NB.out) hb)
          have n7_ := aK (blk_below (bX BK.out) hb)
          have n8_ := aK (below_step (bT (IsS75.ge Hi.out) GE.out) hb)
          clear HO_4
          clear HO_5
          clear HO_6
          clear HO_8
          clear HO_10
          clear HO_12
          clear Hi
          clear BK
          clear HB
          have HO_4 := n0_
          have HO_5 := n1_
          have HO_6 := n2_
          have HO_8 := n3_
          have HO_10 := n4_
          have HO_12 := n5_
          have Hi := n6_
          have BK := n7_
          have HB := n8_
          clear n0_ n1_ n2_ n3_ n4_ n5_ n6_ n7_ n8_
          (try clear hb)
          (try clear hb2)
          (try clear hk)
          (try clear hi)
          refine hK.out _ _ ⟨(blk_cell BK.out 0).trans rfl, (blk_cell BK.out 1).trans rfl, (blk_cell BK.out 2).trans rfl⟩ (fun hHeld => ?_)
          clear hK K
          refine norm_ (a' := ?_) ?_ ?_
          rotate_left
          ·show Act.put _ (some 84) _ = _
           simp only [Act.put, List.setIfInBounds_toArray, List.set_cons_zero, List.set_cons_succ, i64_w, i32_w]
           rfl
          refine pY (i := 6) (N := some 18) (tf 7 1) rfl rfl HT_.out ?_
          refine pY (i := 7) (N := some 19) (tf 8 0) rfl rfl HT_.out ?_
          refine done_ (done_of HT_.out (by kernel_rfl)) ?_
          obtain ⟨hcz49_0, hcz49_1, hcz49_2⟩ := z3 BK.out (.int .i64 t655) (.int .i64 t656) (.string t657)
          obtain ⟨hfz49_0, hfz49_1, hfz49_2⟩ := f3 BK.out
          obtain ⟨Ao50, co50, eo50⟩ := Kd.R_slice HO_6.out
          subst eo50
          try go_wp2_with (first | ((with_reducible refine gate_callee (f := 35) rfl ?_); refine gL (some 87) rfl Try.func35 #[.slice Ao50 t637.length co50, .agg #[.int .i64 t655, .int .i64 t656, .string t657]] rfl ?_; (with_reducible refine (i_Has.calls k2 _ _ t637 t655 t656 t657 t662 _ ?side1 ?side2 A30.out).mono ?_); (case side1 => exact cX (Kd.R_reads' HO_6.out).2.2); (case side2 => exact (Kd.R_reads' HO_6.out).2.1); rintro e w51 ⟨rfl, hb⟩; refine ⟨_, rfl, ?_⟩; have n0_ := aK (Kd.R_below (rX HO_4.out) hb); have n1_ := aK (Kd.R_below (rX HO_5.out) hb); have n2_ := aK (Kd.R_below (rX HO_6.out) hb); have n3_ := aK (Kd.R_below (rX HO_8.out) hb); have n4_ := aK (Kd.R_below (rX HO_10.out) hb); have n5_ := aK (Kd.R_below (rX HO_12.out) hb); have n6_ := aK (IsS75.below (iF Hi.out NB.out) hb); have n7_ := aK (blk_below (bX BK.out) hb); have n8_ := aK (below_step (bT (IsS75.ge Hi.out) GE.out) hb); clear HO_4 HO_5 HO_6 HO_8 HO_10 HO_12 Hi BK HB; have HO_4 := n0_; have HO_5 := n1_; have HO_6 := n2_; have HO_8 := n3_; have HO_10 := n4_; have HO_12 := n5_; have Hi := n6_; have BK := n7_; have HB := n8_; clear n0_ n1_ n2_ n3_ n4_ n5_ n6_ n7_ n8_; (try clear hb); obtain ⟨hcz52_0, hcz52_1, hcz52_2⟩ := z3 BK.out (.int .i64 t655) (.int .i64 t656) (.string t657); obtain ⟨hfz52_0, hfz52_1, hfz52_2⟩ := f3 BK.out; obtain ⟨Ao53, co53, eo53⟩ := Kd.R_slice HO_8.out; subst eo53) | (go_at_call 35; (with_reducible refine (i_Has.calls k2 _ _ t641 t655 t656 t657 t663 _ ?side1 ?side2 A33.out).mono ?_); (case side1 => exact cX (Kd.R_reads' HO_8.out).2.2); (case side2 => exact (Kd.R_reads' HO_8.out).2.1); rintro e w54 ⟨rfl, hb⟩; have n0_ := aK (Kd.R_below (rX HO_4.out) hb); have n1_ := aK (Kd.R_below (rX HO_5.out) hb); have n2_ := aK (Kd.R_below (rX HO_6.out) hb); have n3_ := aK (Kd.R_below (rX HO_8.out) hb); have n4_ := aK (Kd.R_below (rX HO_10.out) hb); have n5_ := aK (Kd.R_below (rX HO_12.out) hb); have n6_ := aK (IsS75.below (iF Hi.out NB.out) hb); have n7_ := aK (blk_below (bX BK.out) hb); have n8_ := aK (below_step (bT (IsS75.ge Hi.out) GE.out) hb); clear HO_4 HO_5 HO_6 HO_8 HO_10 HO_12 Hi BK HB; have HO_4 := n0_; have HO_5 := n1_; have HO_6 := n2_; have HO_8 := n3_; have HO_10 := n4_; have HO_12 := n5_; have Hi := n6_; have BK := n7_; have HB := n8_; clear n0_ n1_ n2_ n3_ n4_ n5_ n6_ n7_ n8_; (try clear hb); obtain ⟨hcz55_0, hcz55_1, hcz55_2⟩ := z3 BK.out (.int .i64 t655) (.int .i64 t656) (.string t657); obtain ⟨hfz55_0, hfz55_1, hfz55_2⟩ := f3 BK.out; obtain ⟨Ao56, co56, eo56⟩ := Kd.R_slice HO_10.out; subst eo56) | (go_at_call 35; (with_reducible refine (i_Has.calls k2 _ _ t645 t655 t656 t657 t664 _ ?side1 ?side2 A35.out).mono ?_); (case side1 => exact cX (Kd.R_reads' HO_10.out).2.2); (case side2 => exact (Kd.R_reads' HO_10.out).2.1); rintro e w57 ⟨rfl, hb⟩; have n0_ := aK (Kd.R_below (rX HO_4.out) hb); have n1_ := aK (Kd.R_below (rX HO_5.out) hb); have n2_ := aK (Kd.R_below (rX HO_6.out) hb); have n3_ := aK (Kd.R_below (rX HO_8.out) hb); have n4_ := aK (Kd.R_below (rX HO_10.out) hb); have n5_ := aK (Kd.R_below (rX HO_12.out) hb); have n6_ := aK (IsS75.below (iF Hi.out NB.out) hb); have n7_ := aK (blk_below (bX BK.out) hb); have n8_ := aK (below_step (bT (IsS75.ge Hi.out) GE.out) hb); clear HO_4 HO_5 HO_6 HO_8 HO_10 HO_12 Hi BK HB; have HO_4 := n0_; have HO_5 := n1_; have HO_6 := n2_; have HO_8 := n3_; have HO_10 := n4_; have HO_12 := n5_; have Hi := n6_; have BK := n7_; have HB := n8_; clear n0_ n1_ n2_ n3_ n4_ n5_ n6_ n7_ n8_; (try clear hb); obtain ⟨hcz58_0, hcz58_1, hcz58_2⟩ := z3 BK.out (.int .i64 t655) (.int .i64 t656) (.string t657); obtain ⟨hfz58_0, hfz58_1, hfz58_2⟩ := f3 BK.out; obtain ⟨Ao59, co59, eo59⟩ := Kd.R_slice HO_12.out; subst eo59) | (go_at_call 35; (with_reducible refine (i_Has.calls k2 _ _ t649 t655 t656 t657 t665 _ ?side1 ?side2 A37.out).mono ?_); (case side1 => exact cX (Kd.R_reads' HO_12.out).2.2); (case side2 => exact (Kd.R_reads' HO_12.out).2.1); rintro e w60 ⟨rfl, hb⟩; have n0_ := aK (Kd.R_below (rX HO_4.out) hb); have n1_ := aK (Kd.R_below (rX HO_5.out) hb); have n2_ := aK (Kd.R_below (rX HO_6.out) hb); have n3_ := aK (Kd.R_below (rX HO_8.out) hb); have n4_ := aK (Kd.R_below (rX HO_10.out) hb); have n5_ := aK (Kd.R_below (rX HO_12.out) hb); have n6_ := aK (IsS75.below (iF Hi.out NB.out) hb); have n7_ := aK (blk_below (bX BK.out) hb); have n8_ := aK (below_step (bT (IsS75.ge Hi.out) GE.out) hb); clear HO_4 HO_5 HO_6 HO_8 HO_10 HO_12 Hi BK HB; have HO_4 := n0_; have HO_5 := n1_; have HO_6 := n2_; have HO_8 := n3_; have HO_10 := n4_; have HO_12 := n5_; have Hi := n6_; have BK := n7_; have HB := n8_; clear n0_ n1_ n2_ n3_ n4_ n5_ n6_ n7_ n8_; (try clear hb)))
          go_roundg k2
          case measure => have := HJ10.out; have := HK2.out; omega
          case rel => exact ⟨(wrap64 (x16_2 + 1)), (t658), (by first | rfl | (simp; done) | (simp [*]; done)), H', ⟨by have := HJ10.out; have := HK2.out; omega⟩, ⟨rX HO_4.out⟩, ⟨rX HO_5.out⟩, ⟨rX HO_6.out⟩, ⟨rX HO_8.out⟩, ⟨rX HO_10.out⟩, ⟨rX HO_12.out⟩, ⟨iF Hi.out NB.out⟩, ⟨bT (IsS75.ge Hi.out) GE.out⟩⟩
         rw [if_pos c38] at H
         have c38b0 : (t665 == true) = true := c38
         (try (have c38b1 : decide (t665 = true) = true := by simpa using c38))
         (try (have c38b2 : (t665 == true) = true := by simpa using c38))
         clear c38
         exact absurd (H.trans (congrArg some HRT.out)) (by simp)
        rw [if_pos c36] at H
        have c36b0 : (t664 != (!t661)) = true := c36
        (try (have c36b1 : decide (t664 = (!t661)) = false := by simpa using c36))
        (try (have c36b2 : (t664 == (!t661)) = false := by simpa using c36))
        (try (have c36b3 : ¬ (t664 = (!t661)) := by simpa using c36))
        clear c36
        exact absurd (H.trans (congrArg some HRT.out)) (by simp)
       rw [if_pos c34] at H
       have c34b0 : (t663 != t661) = true := c34
       (try (have c34b1 : decide (t663 = t661) = false := by simpa using c34))
       (try (have c34b2 : (t663 == t661) = false := by simpa using c34))
       (try (have c34b3 : ¬ (t663 = t661) := by simpa using c34))
       clear c34
       exact absurd (H.trans (congrArg some HRT.out)) (by simp)
      rw [if_pos c32] at H
      have c32b0 : (t662 != true) = true := c32
      (try (have c32b1 : decide (t662 = true) = false := by simpa using c32))
      (try (have c32b2 : (t662 == true) = false := by simpa using c32))
      (try (have c32b3 : ¬ (t662 = true) := by simpa using c32))
      clear c32
      exact absurd (H.trans (congrArg some HRT.out)) (by simp)
   subst c25
   rw [if_pos rfl] at H
   exact absurd (H.trans (congrArg some HRT.out)) (by simp)
theorem l3_IntervalPoints.calls (k : Nat) (A0 : Option Addr) (c0 : Nat) (l0 : List Int) (r : Bool) (w : World) (hr0 : Kd.C (Kd.int .u8) w A0 l0.length l0) (hc0 : l0.length ≤ c0) (h : l3_IntervalPoints.f k l0 = some r) (HRT : Aside0 (r = true)) :
  Calls Try.prog 6 #[.slice A0 l0.length c0] w fun e w' => e = .returned (.bool r) ∧ Below w.heap.size w w' :=
 (l3_IntervalPoints.callsN k A0 c0 l0 r w hr0 hc0 h HRT).mono fun _ _ ⟨he, _, h1, h2⟩ => ⟨he, h1.trans (h2.mono h1.size)⟩
end Go.Proofs.Ytpjcdacnhalclaa.Q
