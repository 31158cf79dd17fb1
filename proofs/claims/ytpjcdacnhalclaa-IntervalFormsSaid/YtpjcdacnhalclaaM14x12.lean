/- A part of a proof: facts of functions that the law calls; conditions stand in each. -/
import Derived.Test.YtpjcdacnhalclaaM14x3
import Derived.Test.YtpjcdacnhalclaaM14x11
import Derived.Test.YtpjcdacnhalclaaM14x5
import Derived.WalkLawsBesides
set_option linter.unusedVariables false
set_option linter.unusedSimpArgs false
namespace Go.Proofs.Ytpjcdacnhalclaa.Q
open Go.RowKit Go.Proofs.YtpjcdacnhalclaaW.PrintWords Go.Proofs.YtpjcdacnhalclaaW.PrintLast Go.Proofs.YtpjcdacnhalclaaW.PrintMore
attribute [local go_sem] max2_int min2_int max_two min_two max_three min_three max_four min_four
def cc_Number.f (s0_0 : List Int) (s0_1 : Int) : Option (Int × Int) := (cc_Int.f s0_0 s0_1 12).bind fun bt104 => (if bt104.1 = 9 then (some ((-1), bt104.2)) else (if bt104.1 = 10 then (some (9223372036854775807, bt104.2)) else (if bt104.1 = 11 then (some ((-9223372036854775808), bt104.2)) else (some (Int.tmod bt104.1 4, bt104.2)))))
set_option maxHeartbeats 8000000 in
set_option maxRecDepth 100000 in
theorem cc_Number.calls (g : Nat) (s0_0 : List Int) (s0_1 : Int) (r1 : Int) (r2 : Int) (w0 w : World) (hI : IsS75 w0 w g s0_0 s0_1) (hB : Below w0.heap.size w0 w) (h : cc_Number.f s0_0 s0_1 = some (r1, r2)) :
  Calls Try.prog 94 #[.pointer (some ⟨g, 0, none⟩)] w fun e w' => e = .returned (.int .i64 r1) ∧ IsS75 w0 w' g s0_0 r2 ∧ Below w0.heap.size w0 w' ∧ KeepBut w w' g none := by
 have HI0 := Aside0.mk hI
 have HK := aK (KeepBut.refl w g none)
 have HL := Aside0.mk hB.size
 clear hI
 have HW0 := Aside0.mk hB.size
 have HB := Aside0.mk hB
 clear hB
 have H : ((cc_Int.f s0_0 s0_1 12).bind fun bt104 => (if bt104.1 = 9 then (some ((-1), bt104.2)) else (if bt104.1 = 10 then (some (9223372036854775807, bt104.2)) else (if bt104.1 = 11 then (some ((-9223372036854775808), bt104.2)) else (some (Int.tmod bt104.1 4, bt104.2)))))) = some (r1, r2) := h
 clear h
 obtain ⟨⟨t104, t105⟩, A2, H⟩ := oB H
 try dsimp only at H
 by_cases c3 : t104 = 9
 rotate_left
 ·rw [if_neg c3] at H
  have c3b0 : (t104 == 9) = false := beq_eq_false_iff_ne.mpr c3
  have c3b1 : (t104 != 9) = true := bne_iff_ne.mpr c3
  by_cases c5 : t104 = 10
  rotate_left
  ·rw [if_neg c5] at H
   have c5b0 : (t104 == 10) = false := beq_eq_false_iff_ne.mpr c5
   have c5b1 : (t104 != 10) = true := bne_iff_ne.mpr c5
   by_cases c7 : t104 = 11
   rotate_left
   ·rw [if_neg c7] at H
    have c7b0 : (t104 == 11) = false := beq_eq_false_iff_ne.mpr c7
    have c7b1 : (t104 != 11) = true := bne_iff_ne.mpr c7
    simp only [Option.some.injEq, Prod.mk.injEq] at H
    obtain ⟨rfl, rfl⟩ := H
    go_enter Try.func94, Try.ntmps94
    go_wp2_with (first | ((with_reducible refine gate_callee (f := 73) rfl ?_); refine gL (some 5) rfl Try.func73 #[.pointer (some ⟨g, 0, none⟩), .int .i64 12] rfl ?_; (with_reducible refine (cc_Int.calls g s0_0 s0_1 12 t104 t105 w0 _ ?side1 ?side2 A2.out).mono ?_); (case side1 => exact iX HI0.out); (case side2 => exact bS (IsS75.ge HI0.out)); rintro e w9 ⟨rfl, hi, hb, hk⟩; refine ⟨_, rfl, ?_⟩; have n0_ := aK (KeepBut.trans kX hk (.inl rfl)); have n1_ := aK (hb); have n2_ := aK (hi); clear HK HB HI0; have HK := n0_; have HB := n1_; have HI0 := n2_; clear n0_ n1_ n2_; (try clear hb hk hi)))
    go_ret
    exact ⟨eW, iX HI0.out, bS (IsS75.ge HI0.out), kX⟩
   rw [if_pos c7] at H
   have c7b0 : (t104 == 11) = true := beq_iff_eq.mpr c7
   have c7b1 : (t104 != 11) = false := bne_eq_false_iff_eq.mpr c7
   clear c7
   simp only [Option.some.injEq, Prod.mk.injEq] at H
   obtain ⟨rfl, rfl⟩ := H
   go_enter Try.func94, Try.ntmps94
   go_wp2_with (first | ((with_reducible refine gate_callee (f := 73) rfl ?_); refine gL (some 5) rfl Try.func73 #[.pointer (some ⟨g, 0, none⟩), .int .i64 12] rfl ?_; (with_reducible refine (cc_Int.calls g s0_0 s0_1 12 t104 t105 w0 _ ?side1 ?side2 A2.out).mono ?_); (case side1 => exact iX HI0.out); (case side2 => exact bS (IsS75.ge HI0.out)); rintro e w8 ⟨rfl, hi, hb, hk⟩; refine ⟨_, rfl, ?_⟩; have n0_ := aK (KeepBut.trans kX hk (.inl rfl)); have n1_ := aK (hb); have n2_ := aK (hi); clear HK HB HI0; have HK := n0_; have HB := n1_; have HI0 := n2_; clear n0_ n1_ n2_; (try clear hb hk hi)))
   go_ret
   exact ⟨eW, iX HI0.out, bS (IsS75.ge HI0.out), kX⟩
  rw [if_pos c5] at H
  have c5b0 : (t104 == 10) = true := beq_iff_eq.mpr c5
  have c5b1 : (t104 != 10) = false := bne_eq_false_iff_eq.mpr c5
  clear c5
  simp only [Option.some.injEq, Prod.mk.injEq] at H
  obtain ⟨rfl, rfl⟩ := H
  go_enter Try.func94, Try.ntmps94
  go_wp2_with (first | ((with_reducible refine gate_callee (f := 73) rfl ?_); refine gL (some 5) rfl Try.func73 #[.pointer (some ⟨g, 0, none⟩), .int .i64 12] rfl ?_; (with_reducible refine (cc_Int.calls g s0_0 s0_1 12 t104 t105 w0 _ ?side1 ?side2 A2.out).mono ?_); (case side1 => exact iX HI0.out); (case side2 => exact bS (IsS75.ge HI0.out)); rintro e w6 ⟨rfl, hi, hb, hk⟩; refine ⟨_, rfl, ?_⟩; have n0_ := aK (KeepBut.trans kX hk (.inl rfl)); have n1_ := aK (hb); have n2_ := aK (hi); clear HK HB HI0; have HK := n0_; have HB := n1_; have HI0 := n2_; clear n0_ n1_ n2_; (try clear hb hk hi)))
  go_ret
  exact ⟨eW, iX HI0.out, bS (IsS75.ge HI0.out), kX⟩
 rw [if_pos c3] at H
 have c3b0 : (t104 == 9) = true := beq_iff_eq.mpr c3
 have c3b1 : (t104 != 9) = false := bne_eq_false_iff_eq.mpr c3
 clear c3
 simp only [Option.some.injEq, Prod.mk.injEq] at H
 obtain ⟨rfl, rfl⟩ := H
 go_enter Try.func94, Try.ntmps94
 go_wp2_with (first | ((with_reducible refine gate_callee (f := 73) rfl ?_); refine gL (some 5) rfl Try.func73 #[.pointer (some ⟨g, 0, none⟩), .int .i64 12] rfl ?_; (with_reducible refine (cc_Int.calls g s0_0 s0_1 12 t104 t105 w0 _ ?side1 ?side2 A2.out).mono ?_); (case side1 => exact iX HI0.out); (case side2 => exact bS (IsS75.ge HI0.out)); rintro e w4 ⟨rfl, hi, hb, hk⟩; refine ⟨_, rfl, ?_⟩; have n0_ := aK (KeepBut.trans kX hk (.inl rfl)); have n1_ := aK (hb); have n2_ := aK (hi); clear HK HB HI0; have HK := n0_; have HB := n1_; have HI0 := n2_; clear n0_ n1_ n2_; (try clear hb hk hi)))
 go_ret
 exact ⟨eW, iX HI0.out, bS (IsS75.ge HI0.out), kX⟩
mutual
def cc_Text.j0 : Nat → ByteArray → Int → Bool → List Int → Int → Option (ByteArray × Int)
 | 0, _, _, _, _, _ => none
 | k + 1, x3, x7, x8, x1000, x1001 => if x8 = true then (some ((⟨#[97]⟩ : ByteArray), x1001)) else (if x7 = 3 then (cc_Text.j1 k x3 x7 (x7 == 3) x1000 x1001) else (cc_Text.j1 k x3 x7 (x7 == 4) x1000 x1001))
def cc_Text.j1 : Nat → ByteArray → Int → Bool → List Int → Int → Option (ByteArray × Int)
 | 0, _, _, _, _, _ => none
 | k + 1, x3, x7, x12, x1000, x1001 => if x12 = true then (some ((⟨#[98]⟩ : ByteArray), x1001)) else (if x7 = 5 then (some ((⟨#[]⟩ : ByteArray), x1001)) else (if x7 = 6 then (some ((⟨#[97, 0]⟩ : ByteArray), x1001)) else (if x7 = 7 then (some ((⟨#[255]⟩ : ByteArray), x1001)) else (if x7 = 8 then (cc_Text.l0 k x3 0 x1000 x1001) else (cc_Text.l1 k x3 0 x1000 x1001)))))
def cc_Text.l0 : Nat → ByteArray → Int → List Int → Int → Option (ByteArray × Int)
 | 0, _, _, _, _ => none
 | k + 1, x3, x4, x1000, x1001 => if x4 < 64 then (if x3.size + 1 ≤ 9223372036854775807 then (cc_Text.l0 k (x3 ++ (⟨#[255]⟩ : ByteArray)) (wrap64 (x4 + 1)) x1000 x1001) else (none)) else (some (x3, x1001))
def cc_Text.l1 : Nat → ByteArray → Int → List Int → Int → Option (ByteArray × Int)
 | 0, _, _, _, _ => none
 | k + 1, x3, x5, x1000, x1001 => if x5 < 64 then (if x3.size + 1 ≤ 9223372036854775807 then (cc_Text.l1 k (x3 ++ (⟨#[98]⟩ : ByteArray)) (wrap64 (x5 + 1)) x1000 x1001) else (none)) else (some (x3, x1001))
end
def cc_Text.f (k : Nat) (s0_0 : List Int) (s0_1 : Int) : Option (ByteArray × Int) := (cc_Int.f s0_0 s0_1 10).bind fun bt106 => (if bt106.1 = 0 then (cc_Text.j0 k (⟨#[]⟩ : ByteArray) bt106.1 (bt106.1 == 0) s0_0 bt106.2) else (if bt106.1 = 1 then (cc_Text.j0 k (⟨#[]⟩ : ByteArray) bt106.1 (bt106.1 == 1) s0_0 bt106.2) else (cc_Text.j0 k (⟨#[]⟩ : ByteArray) bt106.1 (bt106.1 == 2) s0_0 bt106.2)))
theorem cc_Text.mono_l : ∀ k, (∀ y0 y1 y2 y3 y4, LeO (cc_Text.j0 k y0 y1 y2 y3 y4) (cc_Text.j0 (k + 1) y0 y1 y2 y3 y4)) ∧ (∀ y0 y1 y2 y3 y4, LeO (cc_Text.j1 k y0 y1 y2 y3 y4) (cc_Text.j1 (k + 1) y0 y1 y2 y3 y4)) ∧ (∀ y0 y1 y2 y3, LeO (cc_Text.l0 k y0 y1 y2 y3) (cc_Text.l0 (k + 1) y0 y1 y2 y3)) ∧ (∀ y0 y1 y2 y3, LeO (cc_Text.l1 k y0 y1 y2 y3) (cc_Text.l1 (k + 1) y0 y1 y2 y3))
 | 0 => ⟨fun _ _ _ _ _ r h => by simp [cc_Text.j0] at h, fun _ _ _ _ _ r h => by simp [cc_Text.j1] at h, fun _ _ _ _ r h => by simp [cc_Text.l0] at h, fun _ _ _ _ r h => by simp [cc_Text.l1] at h⟩
 | k + 1 => by
  obtain ⟨ih0, ih1, ih2, ih3⟩ := cc_Text.mono_l k
  refine ⟨?_, ?_, ?_, ?_⟩
  ·intro y0 y1 y2 y3 y4
   unfold cc_Text.j0
   repeat' first
   | (with_reducible exact ih0 _ _ _ _ _)
   | (with_reducible exact ih1 _ _ _ _ _)
   | (with_reducible exact ih2 _ _ _ _)
   | (with_reducible exact ih3 _ _ _ _)
   | (with_reducible exact LeO.refl _)
   | (with_reducible exact LeO.none _)
   | (with_reducible refine LeO.ite ?_ ?_)
   | (with_reducible refine LeO.bind ?_ (fun _ => ?_))
   | exact ih0 _ _ _ _ _
   | exact ih1 _ _ _ _ _
   | exact ih2 _ _ _ _
   | exact ih3 _ _ _ _
   | exact LeO.none _
   | refine LeO.ite ?_ ?_
   | refine LeO.bind ?_ (fun _ => ?_)
  ·intro y0 y1 y2 y3 y4
   unfold cc_Text.j1
   repeat' first
   | (with_reducible exact ih0 _ _ _ _ _)
   | (with_reducible exact ih1 _ _ _ _ _)
   | (with_reducible exact ih2 _ _ _ _)
   | (with_reducible exact ih3 _ _ _ _)
   | (with_reducible exact LeO.refl _)
   | (with_reducible exact LeO.none _)
   | (with_reducible refine LeO.ite ?_ ?_)
   | (with_reducible refine LeO.bind ?_ (fun _ => ?_))
   | exact ih0 _ _ _ _ _
   | exact ih1 _ _ _ _ _
   | exact ih2 _ _ _ _
   | exact ih3 _ _ _ _
   | exact LeO.none _
   | refine LeO.ite ?_ ?_
   | refine LeO.bind ?_ (fun _ => ?_)
  ·intro y0 y1 y2 y3
   unfold cc_Text.l0
   repeat' first
   | (with_reducible exact ih0 _ _ _ _ _)
   | (with_reducible exact ih1 _ _ _ _ _)
   | (with_reducible exact ih2 _ _ _ _)
   | (with_reducible exact ih3 _ _ _ _)
   | (with_reducible exact LeO.refl _)
   | (with_reducible exact LeO.none _)
   | (with_reducible refine LeO.ite ?_ ?_)
   | (with_reducible refine LeO.bind ?_ (fun _ => ?_))
   | exact ih0 _ _ _ _ _
   | exact ih1 _ _ _ _ _
   | exact ih2 _ _ _ _
   | exact ih3 _ _ _ _
   | exact LeO.none _
   | refine LeO.ite ?_ ?_
   | refine LeO.bind ?_ (fun _ => ?_)
  ·intro y0 y1 y2 y3
   unfold cc_Text.l1
   repeat' first
   | (with_reducible exact ih0 _ _ _ _ _)
   | (with_reducible exact ih1 _ _ _ _ _)
   | (with_reducible exact ih2 _ _ _ _)
   | (with_reducible exact ih3 _ _ _ _)
   | (with_reducible exact LeO.refl _)
   | (with_reducible exact LeO.none _)
   | (with_reducible refine LeO.ite ?_ ?_)
   | (with_reducible refine LeO.bind ?_ (fun _ => ?_))
   | exact ih0 _ _ _ _ _
   | exact ih1 _ _ _ _ _
   | exact ih2 _ _ _ _
   | exact ih3 _ _ _ _
   | exact LeO.none _
   | refine LeO.ite ?_ ?_
   | refine LeO.bind ?_ (fun _ => ?_)
theorem cc_Text.mono : ∀ a0 a1 k, LeO (cc_Text.f k a0 a1) (cc_Text.f (k + 1) a0 a1) := by
 intro a0 a1 k
 obtain ⟨ih0, ih1, ih2, ih3⟩ := cc_Text.mono_l k
 unfold cc_Text.f
 repeat' first
   | (with_reducible exact ih0 _ _ _ _ _)
   | (with_reducible exact ih1 _ _ _ _ _)
   | (with_reducible exact ih2 _ _ _ _)
   | (with_reducible exact ih3 _ _ _ _)
   | (with_reducible exact LeO.refl _)
   | (with_reducible exact LeO.none _)
   | (with_reducible refine LeO.ite ?_ ?_)
   | (with_reducible refine LeO.bind ?_ (fun _ => ?_))
   | exact ih0 _ _ _ _ _
   | exact ih1 _ _ _ _ _
   | exact ih2 _ _ _ _
   | exact ih3 _ _ _ _
   | exact LeO.none _
   | refine LeO.ite ?_ ?_
   | refine LeO.bind ?_ (fun _ => ?_)
set_option maxHeartbeats 8000000 in
set_option maxRecDepth 100000 in
theorem cc_Text.calls (k : Nat) (g : Nat) (s0_0 : List Int) (s0_1 : Int) (r1 : ByteArray) (r2 : Int) (w0 w : World) (hI : IsS75 w0 w g s0_0 s0_1) (hB : Below w0.heap.size w0 w) (h : cc_Text.f k s0_0 s0_1 = some (r1, r2)) :
  Calls Try.prog 95 #[.pointer (some ⟨g, 0, none⟩)] w fun e w' => e = .returned (.string r1) ∧ IsS75 w0 w' g s0_0 r2 ∧ Below w0.heap.size w0 w' ∧ KeepBut w w' g none := by
 have HI0 := Aside0.mk hI
 have HK := aK (KeepBut.refl w g none)
 have HL := Aside0.mk hB.size
 clear hI
 have HW0 := Aside0.mk hB.size
 have HB := Aside0.mk hB
 clear hB
 have H : ((cc_Int.f s0_0 s0_1 10).bind fun bt106 => (if bt106.1 = 0 then (cc_Text.j0 k (⟨#[]⟩ : ByteArray) bt106.1 (bt106.1 == 0) s0_0 bt106.2) else (if bt106.1 = 1 then (cc_Text.j0 k (⟨#[]⟩ : ByteArray) bt106.1 (bt106.1 == 1) s0_0 bt106.2) else (cc_Text.j0 k (⟨#[]⟩ : ByteArray) bt106.1 (bt106.1 == 2) s0_0 bt106.2)))) = some (r1, r2) := h
 clear h
 obtain ⟨⟨t106, t107⟩, A2, H⟩ := oB H
 try dsimp only at H
 have HC3 := Aside0.mk H
 clear H
 go_enter Try.func95, Try.ntmps95
 go_upto_if 8 with (first | ((with_reducible refine gate_callee (f := 73) rfl ?_); refine gL (some 7) rfl Try.func73 #[.pointer (some ⟨g, 0, none⟩), .int .i64 10] rfl ?_; (with_reducible refine (cc_Int.calls g s0_0 s0_1 10 t106 t107 w0 _ ?side1 ?side2 A2.out).mono ?_); (case side1 => exact iX HI0.out); (case side2 => exact bS (IsS75.ge HI0.out)); rintro e w4 ⟨rfl, hi, hb, hk⟩; refine ⟨_, rfl, ?_⟩; have n0_ := aK (KeepBut.trans kX hk (.inl rfl)); have n1_ := aK (hb); have n2_ := aK (hi); clear HK HB HI0; have HK := n0_; have HB := n1_; have HI0 := n2_; clear n0_ n1_ n2_; (try clear hb hk hi)))
 (try simp only [Act.put, List.setIfInBounds_toArray, List.set_cons_zero, List.set_cons_succ])
 go_cut [8] (fun v8 wc => ∃ (kq : Nat) (x8_2 : Bool), v8 = .bool x8_2 ∧ Aside0 (cc_Text.j0 kq (⟨#[]⟩ : ByteArray) t106 x8_2 s0_0 t107 = some (r1, r2)) ∧ Aside0 (kq ≤ k) ∧ Aside0 (IsS75 w0 wc g s0_0 t107) ∧ Aside0 (KeepBut w wc g none) ∧ Aside0 (Below w0.heap.size w0 wc))
 case first =>
  have H := HC3.out
  clear HC3
  by_cases c5 : t106 = 0
  rotate_left
  ·rw [if_neg c5] at H
   have c5b0 : (t106 == 0) = false := beq_eq_false_iff_ne.mpr c5
   have c5b1 : (t106 != 0) = true := bne_iff_ne.mpr c5
   (first | rw [c5b0] | (simp only [i64_w, i32_w]; rw [c5b0]) | skip)
   by_cases c6 : t106 = 1
   rotate_left
   ·rw [if_neg c6] at H
    have c6b0 : (t106 == 1) = false := beq_eq_false_iff_ne.mpr c6
    have c6b1 : (t106 != 1) = true := bne_iff_ne.mpr c6
    have H' := Aside0.mk H
    clear H
    go_wp2
    go_meet
    case rel => exact ⟨_, ((t106 == 2)), (by first | rfl | (simp; done) | (simp [*]; done)), H', ⟨by first | omega | exact Nat.le_refl _⟩, ⟨iX HI0.out⟩, ⟨kX⟩, ⟨bS (IsS75.ge HI0.out)⟩⟩
   rw [if_pos c6] at H
   have c6b0 : (t106 == 1) = true := beq_iff_eq.mpr c6
   have c6b1 : (t106 != 1) = false := bne_eq_false_iff_eq.mpr c6
   clear c6
   have H' := Aside0.mk H
   clear H
   go_wp2
   go_meet
   case rel => exact ⟨_, ((t106 == 1)), (by first | rfl | (simp; done) | (simp [*]; done)), H', ⟨by first | omega | exact Nat.le_refl _⟩, ⟨iX HI0.out⟩, ⟨kX⟩, ⟨bS (IsS75.ge HI0.out)⟩⟩
  rw [if_pos c5] at H
  have c5b0 : (t106 == 0) = true := beq_iff_eq.mpr c5
  have c5b1 : (t106 != 0) = false := bne_eq_false_iff_eq.mpr c5
  clear c5
  (first | rw [c5b0] | (simp only [i64_w, i32_w]; rw [c5b0]) | skip)
  have H' := Aside0.mk H
  clear H
  go_wp2
  go_meet
  case rel => exact ⟨_, ((t106 == 0)), (by first | rfl | (simp; done) | (simp [*]; done)), H', ⟨by first | omega | exact Nat.le_refl _⟩, ⟨iX HI0.out⟩, ⟨kX⟩, ⟨bS (IsS75.ge HI0.out)⟩⟩
 case rest =>
  clear HC3
  try clear p2
  try clear c5
  try clear c5b0
  try clear c5b1
  try clear c6
  try clear c6b0
  try clear c6b1
  obtain ⟨kq, x8_2, rfl, HA, HJ2, HI0, HK, HB⟩ := hcut
  cases kq with
  | zero => exact absurd HA.out (by simp [cc_Text.j0])
  | succ kj2 =>
   have H := HA.out
   clear HA
   simp only [cc_Text.j0] at H
   by_cases c7 : x8_2 = true
   rotate_left
   ·replace c7 := Bool.eq_false_iff.mpr c7
    subst c7
    rw [if_neg (show ¬ (false = true) by decide)] at H
    have HC8 := Aside0.mk H
    clear H
    go_upto_if 12 with (fail)
    go_cut [12] (fun v12 wc => ∃ (kq : Nat) (x12_7 : Bool), v12 = .bool x12_7 ∧ Aside0 (cc_Text.j1 kq (⟨#[]⟩ : ByteArray) t106 x12_7 s0_0 t107 = some (r1, r2)) ∧ Aside0 (kq ≤ kj2) ∧ Aside0 (IsS75 w0 wc g s0_0 t107) ∧ Aside0 (KeepBut w wc g none) ∧ Aside0 (Below w0.heap.size w0 wc))
    case first =>
     have H := HC8.out
     clear HC8
     by_cases c9 : t106 = 3
     rotate_left
     ·rw [if_neg c9] at H
      have c9b0 : (t106 == 3) = false := beq_eq_false_iff_ne.mpr c9
      have c9b1 : (t106 != 3) = true := bne_iff_ne.mpr c9
      (first | rw [c9b0] | (simp only [i64_w, i32_w]; rw [c9b0]) | skip)
      have H' := Aside0.mk H
      clear H
      go_wp2
      go_meet
      case rel => exact ⟨_, ((t106 == 4)), (by first | rfl | (simp; done) | (simp [*]; done)), H', ⟨by have := HJ2.out; first | omega | exact Nat.le_refl _⟩, ⟨iX HI0.out⟩, ⟨kX⟩, ⟨bS (IsS75.ge HI0.out)⟩⟩
     rw [if_pos c9] at H
     have c9b0 : (t106 == 3) = true := beq_iff_eq.mpr c9
     have c9b1 : (t106 != 3) = false := bne_eq_false_iff_eq.mpr c9
     clear c9
     (first | rw [c9b0] | (simp only [i64_w, i32_w]; rw [c9b0]) | skip)
     have H' := Aside0.mk H
     clear H
     go_wp2
     go_meet
     case rel => exact ⟨_, ((t106 == 3)), (by first | rfl | (simp; done) | (simp [*]; done)), H', ⟨by have := HJ2.out; first | omega | exact Nat.le_refl _⟩, ⟨iX HI0.out⟩, ⟨kX⟩, ⟨bS (IsS75.ge HI0.out)⟩⟩
    case rest =>
     clear HC8
     try clear p2
     try clear c5
     try clear c5b0
     try clear c5b1
     try clear c6
     try clear c6b0
     try clear c6b1
     try clear c7
     try clear c9
     try clear c9b0
     try clear c9b1
     try clear p2
     obtain ⟨kq, x12_7, rfl, HA, HJ7, HI0, HK, HB⟩ := hcut
     cases kq with
     | zero => exact absurd HA.out (by simp [cc_Text.j1])
     | succ kj7 =>
      have H := HA.out
      clear HA
      simp only [cc_Text.j1] at H
      by_cases c10 : x12_7 = true
      rotate_left
      ·replace c10 := Bool.eq_false_iff.mpr c10
       subst c10
       rw [if_neg (show ¬ (false = true) by decide)] at H
       by_cases c11 : t106 = 5
       rotate_left
       ·rw [if_neg c11] at H
        have c11b0 : (t106 == 5) = false := beq_eq_false_iff_ne.mpr c11
        have c11b1 : (t106 != 5) = true := bne_iff_ne.mpr c11
        by_cases c12 : t106 = 6
        rotate_left
        ·rw [if_neg c12] at H
         have c12b0 : (t106 == 6) = false := beq_eq_false_iff_ne.mpr c12
         have c12b1 : (t106 != 6) = true := bne_iff_ne.mpr c12
         by_cases c13 : t106 = 7
         rotate_left
         ·rw [if_neg c13] at H
          have c13b0 : (t106 == 7) = false := beq_eq_false_iff_ne.mpr c13
          have c13b1 : (t106 != 7) = true := bne_iff_ne.mpr c13
          by_cases c14 : t106 = 8
          rotate_left
          ·rw [if_neg c14] at H
           have c14b0 : (t106 == 8) = false := beq_eq_false_iff_ne.mpr c14
           have c14b1 : (t106 != 8) = true := bne_iff_ne.mpr c14
           have H' := Aside0.mk H
           clear H
           go_wp2
           go_loopg [3, 5] kj7 (fun kq v3 v5 w' => ∃ (x3_3 : ByteArray) (x5_3 : Int), v3 = .string x3_3 ∧ v5 = .int .i64 x5_3 ∧ Aside0 (cc_Text.l1 kq x3_3 x5_3 s0_0 t107 = some (r1, r2)) ∧ Aside0 (kq ≤ kj7) ∧ Aside0 (IsS75 w0 w' g s0_0 t107) ∧ Aside0 (KeepBut w w' g none) ∧ Aside0 (Below w0.heap.size w0 w'))
           case atStart => exact ⟨((⟨#[]⟩ : ByteArray)), (0), (by first | rfl | (simp; done) | (simp [*]; done)), (by first | rfl | (simp; done) | (simp [*]; done)), H', ⟨Nat.le_refl _⟩, ⟨iX HI0.out⟩, ⟨kX⟩, ⟨bS (IsS75.ge HI0.out)⟩⟩
           case round =>
            clear H'
            try clear c1
            try clear p2
            try clear c5
            try clear c5b0
            try clear c5b1
            try clear c6
            try clear c6b0
            try clear c6b1
            try clear p6
            try clear c7
            try clear c9
            try clear c9b0
            try clear c9b1
            try clear c10
            try clear c11
            try clear c11b0
            try clear c11b1
            try clear c12
            try clear c12b0
            try clear c12b1
            try clear c13
            try clear c13b0
            try clear c13b1
            try clear c14
            try clear c14b0
            try clear c14b1
            try clear c15
            try clear c15b0
            try clear c16
            try clear c16b0
            try clear c16b1
            try clear c16b2
            try clear p2
            obtain ⟨x3_3, x5_3, rfl, rfl, HA, HK3, HI0, HK, HB⟩ := hrel
            cases gk with
            | zero => exact absurd HA.out (by simp [cc_Text.l1])
            | succ k3 =>
             have H := HA.out
             clear HA
             simp only [cc_Text.l1] at H
             by_cases c17 : x5_3 < 64
             rotate_left
             ·rw [if_neg c17] at H
              have c17b0 : decide (x5_3 < 64) = false := decide_eq_false c17
              clear c17
              simp only [Option.some.injEq, Prod.mk.injEq] at H
              obtain ⟨rfl, rfl⟩ := H
              go_wp2
              go_ret
              exact ⟨eW, iX HI0.out, bS (IsS75.ge HI0.out), kX⟩
             rw [if_pos c17] at H
             have c17b0 : decide (x5_3 < 64) = true := decide_eq_true c17
             clear c17
             by_cases c18 : x3_3.size + 1 ≤ 9223372036854775807
             rotate_left
             ·rw [if_neg c18] at H
              exact absurd H (by simp)
             rw [if_pos c18] at H
             have c18b0 := eq_true c18
             have c18b1 : decide (x3_3.size + 1 ≤ 9223372036854775807) = true := decide_eq_true c18
             try have c18b2 : (9223372036854775807 < x3_3.size + 1) = False := eq_false (Nat.not_lt.2 c18)
             have H' := Aside0.mk H
             clear H
             go_wp2
             go_roundg k3
             case measure => have := HJ2.out; have := HJ7.out; have := HK3.out; omega
             case rel => exact ⟨(x3_3 ++ (⟨#[98]⟩ : ByteArray)), (wrap64 (x5_3 + 1)), (by first | rfl | (simp; done) | (simp [*]; done)), (by first | rfl | (simp; done) | (simp [*]; done)), H', ⟨by have := HJ2.out; have := HJ7.out; have := HK3.out; omega⟩, ⟨iX HI0.out⟩, ⟨kX⟩, ⟨bS (IsS75.ge HI0.out)⟩⟩
          rw [if_pos c14] at H
          have c14b0 : (t106 == 8) = true := beq_iff_eq.mpr c14
          have c14b1 : (t106 != 8) = false := bne_eq_false_iff_eq.mpr c14
          clear c14
          have H' := Aside0.mk H
          clear H
          go_wp2
          go_loopg [3, 4] kj7 (fun kq v3 v4 w' => ∃ (x3_3 : ByteArray) (x4_3 : Int), v3 = .string x3_3 ∧ v4 = .int .i64 x4_3 ∧ Aside0 (cc_Text.l0 kq x3_3 x4_3 s0_0 t107 = some (r1, r2)) ∧ Aside0 (kq ≤ kj7) ∧ Aside0 (IsS75 w0 w' g s0_0 t107) ∧ Aside0 (KeepBut w w' g none) ∧ Aside0 (Below w0.heap.size w0 w'))
          case atStart => exact ⟨((⟨#[]⟩ : ByteArray)), (0), (by first | rfl | (simp; done) | (simp [*]; done)), (by first | rfl | (simp; done) | (simp [*]; done)), H', ⟨Nat.le_refl _⟩, ⟨iX HI0.out⟩, ⟨kX⟩, ⟨bS (IsS75.ge HI0.out)⟩⟩
          case round =>
           clear H'
           try clear c1
           try clear p2
           try clear c5
           try clear c5b0
           try clear c5b1
           try clear c6
           try clear c6b0
           try clear c6b1
           try clear c7
           try clear c9
           try clear c9b0
           try clear c9b1
           try clear c10
           try clear c11
           try clear c11b0
           try clear c11b1
           try clear c12
           try clear c12b0
           try clear c12b1
           try clear c13
           try clear c13b0
           try clear c13b1
           try clear c14
           try clear c14b0
           try clear c14b1
           try clear p2
           obtain ⟨x3_3, x4_3, rfl, rfl, HA, HK3, HI0, HK, HB⟩ := hrel
           cases gk with
           | zero => exact absurd HA.out (by simp [cc_Text.l0])
           | succ k3 =>
            have H := HA.out
            clear HA
            simp only [cc_Text.l0] at H
            by_cases c15 : x4_3 < 64
            rotate_left
            ·rw [if_neg c15] at H
             have c15b0 : decide (x4_3 < 64) = false := decide_eq_false c15
             clear c15
             simp only [Option.some.injEq, Prod.mk.injEq] at H
             obtain ⟨rfl, rfl⟩ := H
             go_wp2
             go_ret
             exact ⟨eW, iX HI0.out, bS (IsS75.ge HI0.out), kX⟩
            rw [if_pos c15] at H
            have c15b0 : decide (x4_3 < 64) = true := decide_eq_true c15
            clear c15
            by_cases c16 : x3_3.size + 1 ≤ 9223372036854775807
            rotate_left
            ·rw [if_neg c16] at H
             exact absurd H (by simp)
            rw [if_pos c16] at H
            have c16b0 := eq_true c16
            have c16b1 : decide (x3_3.size + 1 ≤ 9223372036854775807) = true := decide_eq_true c16
            try have c16b2 : (9223372036854775807 < x3_3.size + 1) = False := eq_false (Nat.not_lt.2 c16)
            have H' := Aside0.mk H
            clear H
            go_wp2
            go_roundg k3
            case measure => have := HJ2.out; have := HJ7.out; have := HK3.out; omega
            case rel => exact ⟨(x3_3 ++ (⟨#[255]⟩ : ByteArray)), (wrap64 (x4_3 + 1)), (by first | rfl | (simp; done) | (simp [*]; done)), (by first | rfl | (simp; done) | (simp [*]; done)), H', ⟨by have := HJ2.out; have := HJ7.out; have := HK3.out; omega⟩, ⟨iX HI0.out⟩, ⟨kX⟩, ⟨bS (IsS75.ge HI0.out)⟩⟩
         rw [if_pos c13] at H
         have c13b0 : (t106 == 7) = true := beq_iff_eq.mpr c13
         have c13b1 : (t106 != 7) = false := bne_eq_false_iff_eq.mpr c13
         clear c13
         simp only [Option.some.injEq, Prod.mk.injEq] at H
         obtain ⟨rfl, rfl⟩ := H
         go_wp2
         go_ret
         exact ⟨eW, iX HI0.out, bS (IsS75.ge HI0.out), kX⟩
        rw [if_pos c12] at H
        have c12b0 : (t106 == 6) = true := beq_iff_eq.mpr c12
        have c12b1 : (t106 != 6) = false := bne_eq_false_iff_eq.mpr c12
        clear c12
        simp only [Option.some.injEq, Prod.mk.injEq] at H
        obtain ⟨rfl, rfl⟩ := H
        go_wp2
        go_ret
        exact ⟨eW, iX HI0.out, bS (IsS75.ge HI0.out), kX⟩
       rw [if_pos c11] at H
       have c11b0 : (t106 == 5) = true := beq_iff_eq.mpr c11
       have c11b1 : (t106 != 5) = false := bne_eq_false_iff_eq.mpr c11
       clear c11
       simp only [Option.some.injEq, Prod.mk.injEq] at H
       obtain ⟨rfl, rfl⟩ := H
       go_wp2
       go_ret
       exact ⟨eW, iX HI0.out, bS (IsS75.ge HI0.out), kX⟩
      subst c10
      rw [if_pos rfl] at H
      simp only [Option.some.injEq, Prod.mk.injEq] at H
      obtain ⟨rfl, rfl⟩ := H
      go_wp2
      go_ret
      exact ⟨eW, iX HI0.out, bS (IsS75.ge HI0.out), kX⟩
   subst c7
   rw [if_pos rfl] at H
   simp only [Option.some.injEq, Prod.mk.injEq] at H
   obtain ⟨rfl, rfl⟩ := H
   go_wp2
   go_ret
   exact ⟨eW, iX HI0.out, bS (IsS75.ge HI0.out), kX⟩
def cc_Value.f (k : Nat) (s0_0 : List Int) (s0_1 : Int) (a1 : Int) : Option (Int × Int × ByteArray × Int) := if a1 = 3 then ((cc_Int.f s0_0 s0_1 2).bind fun bt109 => (some (a1, bt109.1, (⟨#[]⟩ : ByteArray), bt109.2))) else (if a1 = 4 then ((cc_Number.f s0_0 s0_1).bind fun bt111 => (some (a1, bt111.1, (⟨#[]⟩ : ByteArray), bt111.2))) else ((cc_Text.f k s0_0 s0_1).bind fun bt113 => (some (5, 0, bt113.1, bt113.2))))
set_option maxHeartbeats 8000000 in
set_option maxRecDepth 100000 in
theorem cc_Value.calls (k : Nat) (g : Nat) (s0_0 : List Int) (s0_1 : Int) (a1 : Int) (r1 : Int) (r2 : Int) (r3 : ByteArray) (r4 : Int) (w0 w : World) (hI : IsS75 w0 w g s0_0 s0_1) (hB : Below w0.heap.size w0 w) (h : cc_Value.f k s0_0 s0_1 a1 = some (r1, r2, r3, r4)) :
  Calls Try.prog 74 #[.pointer (some ⟨g, 0, none⟩), .int .i64 a1] w fun e w' => e = .returned (.agg #[.int .i64 r1, .int .i64 r2, .string r3]) ∧ IsS75 w0 w' g s0_0 r4 ∧ Below w0.heap.size w0 w' ∧ KeepBut w w' g none := by
 have hu24 := Try.underlying24
 have HI0 := Aside0.mk hI
 have HK := aK (KeepBut.refl w g none)
 have HL := Aside0.mk hB.size
 clear hI
 have HW0 := Aside0.mk hB.size
 have HB := Aside0.mk hB
 clear hB
 have H : (if a1 = 3 then ((cc_Int.f s0_0 s0_1 2).bind fun bt109 => (some (a1, bt109.1, (⟨#[]⟩ : ByteArray), bt109.2))) else (if a1 = 4 then ((cc_Number.f s0_0 s0_1).bind fun bt111 => (some (a1, bt111.1, (⟨#[]⟩ : ByteArray), bt111.2))) else ((cc_Text.f k s0_0 s0_1).bind fun bt113 => (some (5, 0, bt113.1, bt113.2))))) = some (r1, r2, r3, r4) := h
 clear h
 by_cases c3 : a1 = 3
 rotate_left
 ·rw [if_neg c3] at H
  have c3b0 : (a1 == 3) = false := beq_eq_false_iff_ne.mpr c3
  have c3b1 : (a1 != 3) = true := bne_iff_ne.mpr c3
  by_cases c9 : a1 = 4
  rotate_left
  ·rw [if_neg c9] at H
   have c9b0 : (a1 == 4) = false := beq_eq_false_iff_ne.mpr c9
   have c9b1 : (a1 != 4) = true := bne_iff_ne.mpr c9
   obtain ⟨⟨t113, t114⟩, A15, H⟩ := oB H
   try dsimp only at H
   simp only [Option.some.injEq, Prod.mk.injEq] at H
   obtain ⟨rfl, rfl, rfl, rfl⟩ := H
   go_enter Try.func74, Try.ntmps74
   go_wp2_with (first | ((with_reducible refine gate_dst (N := 4) rfl ?_); refine box_event ?hg (N := 4) ?hd (cs := #[.int .i64 0, .int .i64 0, .string (⟨#[]⟩ : ByteArray)]) (t := 24) ?hr ?_; (case hd => rfl); (case hg => rfl); (case hr => exact hR); intro gb108 hg w16 hbox hb; have n0_ := aK (IsS75.below (iX HI0.out) hb); have n1_ := aK (KeepBut.trans kX (KeepBut.of_below hb g none) (.inl rfl)); have n2_ := aK (below_step (bS (IsS75.ge HI0.out)) hb); have n3_ := aK (hbox); have n4_ := aK ((by rw [hg]; exact (keep_size (w := w) (g := g) (row := none) kX) : w.heap.size ≤ gb108)); have n5_ := aK ((Nat.le_trans HW0.out (by rw [hg]; exact (keep_size (w := w) (g := g) (row := none) kX) : w.heap.size ≤ gb108) : w0.heap.size ≤ gb108)); have n6_ := aK ((by rw [hg]; exact Nat.ne_of_lt (IsS75.lt (show IsS75 w0 _ g s0_0 s0_1 from iX HI0.out)) : g ≠ gb108)); have n7_ := aK ((by rw [hg]; exact Nat.ne_of_gt (IsS75.lt (show IsS75 w0 _ g s0_0 s0_1 from iX HI0.out)) : gb108 ≠ g)); clear HI0 HK HB; have HI0 := n0_; have HK := n1_; have HB := n2_; have BK108 := n3_; have GW108 := n4_; have GE108 := n5_; have NB0_108 := n6_; have NB108_0 := n7_; clear n0_ n1_ n2_ n3_ n4_ n5_ n6_ n7_ hb hbox hg) | ((with_reducible refine gate_callee (f := 95) rfl ?_); refine gL (some 19) rfl Try.func95 #[.pointer (some ⟨g, 0, none⟩)] rfl ?_; (with_reducible refine (cc_Text.calls k g s0_0 s0_1 t113 t114 w0 _ ?side1 ?side2 A15.out).mono ?_); (case side1 => exact iF HI0.out NB0_108.out); (case side2 => exact bT (IsS75.ge HI0.out) GE108.out); rintro e w17 ⟨rfl, hi, hb, hk⟩; refine ⟨_, rfl, ?_⟩; have n0_ := aK (KeepBut.blk hk (g' := gb108) (o := .cells #[.int .i64 0, .int .i64 0, .string (⟨#[]⟩ : ByteArray)] 24 (0, 0)) (bX BK108.out) NB108_0.out (by simp)); have n1_ := aK (KeepBut.trans (by repeat (first | (with_reducible first | exact HK.out | apply KeepBut.set_ | apply keep_drewN | apply keep_drew | apply keep_alloc | refine keep_far ?_ GW108.out _) | exact HK.out)) hk (.inl rfl)); have n2_ := aK (hb); have n3_ := aK (hi); clear BK108 HK HB HI0; have BK108 := n0_; have HK := n1_; have HB := n2_; have HI0 := n3_; clear n0_ n1_ n2_ n3_; (try clear hb hk hi); have hnb18 := NB108_0.out; have hnc18 := NB0_108.out; obtain ⟨hcz19_0, hcz19_1, hcz19_2⟩ := z3 BK108.out (.int .i64 0) (.int .i64 0) (.string (⟨#[]⟩ : ByteArray)); obtain ⟨hfz19_0, hfz19_1, hfz19_2⟩ := f3 BK108.out))
   refine bodyPost_ret (results_cell_row rfl _ _ gb108 24 #[.int .i64 5, .int .i64 0, .string t113] (0, 0) _ rfl (put3 BK108.out) Try.underlying24 rfl (by kernel_rfl)) rfl ?_
   exact ⟨eW, iF HI0.out NB0_108.out, bT (IsS75.ge HI0.out) GE108.out, by repeat (first | (with_reducible first | exact HK.out | apply KeepBut.set_ | apply keep_drewN | apply keep_drew | apply keep_alloc | refine keep_far ?_ GW108.out _) | exact HK.out)⟩
  rw [if_pos c9] at H
  have c9b0 : (a1 == 4) = true := beq_iff_eq.mpr c9
  have c9b1 : (a1 != 4) = false := bne_eq_false_iff_eq.mpr c9
  clear c9
  obtain ⟨⟨t111, t112⟩, A10, H⟩ := oB H
  try dsimp only at H
  simp only [Option.some.injEq, Prod.mk.injEq] at H
  obtain ⟨rfl, rfl, rfl, rfl⟩ := H
  go_enter Try.func74, Try.ntmps74
  go_wp2_with (first | ((with_reducible refine gate_dst (N := 4) rfl ?_); refine box_event ?hg (N := 4) ?hd (cs := #[.int .i64 0, .int .i64 0, .string (⟨#[]⟩ : ByteArray)]) (t := 24) ?hr ?_; (case hd => rfl); (case hg => rfl); (case hr => exact hR); intro gb108 hg w11 hbox hb; have n0_ := aK (IsS75.below (iX HI0.out) hb); have n1_ := aK (KeepBut.trans kX (KeepBut.of_below hb g none) (.inl rfl)); have n2_ := aK (below_step (bS (IsS75.ge HI0.out)) hb); have n3_ := aK (hbox); have n4_ := aK ((by rw [hg]; exact (keep_size (w := w) (g := g) (row := none) kX) : w.heap.size ≤ gb108)); have n5_ := aK ((Nat.le_trans HW0.out (by rw [hg]; exact (keep_size (w := w) (g := g) (row := none) kX) : w.heap.size ≤ gb108) : w0.heap.size ≤ gb108)); have n6_ := aK ((by rw [hg]; exact Nat.ne_of_lt (IsS75.lt (show IsS75 w0 _ g s0_0 s0_1 from iX HI0.out)) : g ≠ gb108)); have n7_ := aK ((by rw [hg]; exact Nat.ne_of_gt (IsS75.lt (show IsS75 w0 _ g s0_0 s0_1 from iX HI0.out)) : gb108 ≠ g)); clear HI0 HK HB; have HI0 := n0_; have HK := n1_; have HB := n2_; have BK108 := n3_; have GW108 := n4_; have GE108 := n5_; have NB0_108 := n6_; have NB108_0 := n7_; clear n0_ n1_ n2_ n3_ n4_ n5_ n6_ n7_ hb hbox hg) | ((with_reducible refine gate_callee (f := 94) rfl ?_); refine gL (some 16) rfl Try.func94 #[.pointer (some ⟨g, 0, none⟩)] rfl ?_; (with_reducible refine (cc_Number.calls g s0_0 s0_1 t111 t112 w0 _ ?side1 ?side2 A10.out).mono ?_); (case side1 => exact iF HI0.out NB0_108.out); (case side2 => exact bT (IsS75.ge HI0.out) GE108.out); rintro e w12 ⟨rfl, hi, hb, hk⟩; refine ⟨_, rfl, ?_⟩; have n0_ := aK (KeepBut.blk hk (g' := gb108) (o := .cells #[.int .i64 0, .int .i64 0, .string (⟨#[]⟩ : ByteArray)] 24 (0, 0)) (bX BK108.out) NB108_0.out (by simp)); have n1_ := aK (KeepBut.trans (by repeat (first | (with_reducible first | exact HK.out | apply KeepBut.set_ | apply keep_drewN | apply keep_drew | apply keep_alloc | refine keep_far ?_ GW108.out _) | exact HK.out)) hk (.inl rfl)); have n2_ := aK (hb); have n3_ := aK (hi); clear BK108 HK HB HI0; have BK108 := n0_; have HK := n1_; have HB := n2_; have HI0 := n3_; clear n0_ n1_ n2_ n3_; (try clear hb hk hi); have hnb13 := NB108_0.out; have hnc13 := NB0_108.out; obtain ⟨hcz14_0, hcz14_1, hcz14_2⟩ := z3 BK108.out (.int .i64 0) (.int .i64 0) (.string (⟨#[]⟩ : ByteArray)); obtain ⟨hfz14_0, hfz14_1, hfz14_2⟩ := f3 BK108.out))
  refine bodyPost_ret (results_cell_row rfl _ _ gb108 24 #[.int .i64 a1, .int .i64 t111, .string (⟨#[]⟩ : ByteArray)] (0, 0) _ rfl (put3 BK108.out) Try.underlying24 rfl (by kernel_rfl)) rfl ?_
  exact ⟨eW, iF HI0.out NB0_108.out, bT (IsS75.ge HI0.out) GE108.out, by repeat (first | (with_reducible first | exact HK.out | apply KeepBut.set_ | apply keep_drewN | apply keep_drew | apply keep_alloc | refine keep_far ?_ GW108.out _) | exact HK.out)⟩
 rw [if_pos c3] at H
 have c3b0 : (a1 == 3) = true := beq_iff_eq.mpr c3
 have c3b1 : (a1 != 3) = false := bne_eq_false_iff_eq.mpr c3
 clear c3
 obtain ⟨⟨t109, t110⟩, A4, H⟩ := oB H
 try dsimp only at H
 simp only [Option.some.injEq, Prod.mk.injEq] at H
 obtain ⟨rfl, rfl, rfl, rfl⟩ := H
 go_enter Try.func74, Try.ntmps74
 go_wp2_with (first | ((with_reducible refine gate_dst (N := 4) rfl ?_); refine box_event ?hg (N := 4) ?hd (cs := #[.int .i64 0, .int .i64 0, .string (⟨#[]⟩ : ByteArray)]) (t := 24) ?hr ?_; (case hd => rfl); (case hg => rfl); (case hr => exact hR); intro gb108 hg w5 hbox hb; have n0_ := aK (IsS75.below (iX HI0.out) hb); have n1_ := aK (KeepBut.trans kX (KeepBut.of_below hb g none) (.inl rfl)); have n2_ := aK (below_step (bS (IsS75.ge HI0.out)) hb); have n3_ := aK (hbox); have n4_ := aK ((by rw [hg]; exact (keep_size (w := w) (g := g) (row := none) kX) : w.heap.size ≤ gb108)); have n5_ := aK ((Nat.le_trans HW0.out (by rw [hg]; exact (keep_size (w := w) (g := g) (row := none) kX) : w.heap.size ≤ gb108) : w0.heap.size ≤ gb108)); have n6_ := aK ((by rw [hg]; exact Nat.ne_of_lt (IsS75.lt (show IsS75 w0 _ g s0_0 s0_1 from iX HI0.out)) : g ≠ gb108)); have n7_ := aK ((by rw [hg]; exact Nat.ne_of_gt (IsS75.lt (show IsS75 w0 _ g s0_0 s0_1 from iX HI0.out)) : gb108 ≠ g)); clear HI0 HK HB; have HI0 := n0_; have HK := n1_; have HB := n2_; have BK108 := n3_; have GW108 := n4_; have GE108 := n5_; have NB0_108 := n6_; have NB108_0 := n7_; clear n0_ n1_ n2_ n3_ n4_ n5_ n6_ n7_ hb hbox hg) | ((with_reducible refine gate_callee (f := 73) rfl ?_); refine gL (some 10) rfl Try.func73 #[.pointer (some ⟨g, 0, none⟩), .int .i64 2] rfl ?_; (with_reducible refine (cc_Int.calls g s0_0 s0_1 2 t109 t110 w0 _ ?side1 ?side2 A4.out).mono ?_); (case side1 => exact iF HI0.out NB0_108.out); (case side2 => exact bT (IsS75.ge HI0.out) GE108.out); rintro e w6 ⟨rfl, hi, hb, hk⟩; refine ⟨_, rfl, ?_⟩; have n0_ := aK (KeepBut.blk hk (g' := gb108) (o := .cells #[.int .i64 0, .int .i64 0, .string (⟨#[]⟩ : ByteArray)] 24 (0, 0)) (bX BK108.out) NB108_0.out (by simp)); have n1_ := aK (KeepBut.trans (by repeat (first | (with_reducible first | exact HK.out | apply KeepBut.set_ | apply keep_drewN | apply keep_drew | apply keep_alloc | refine keep_far ?_ GW108.out _) | exact HK.out)) hk (.inl rfl)); have n2_ := aK (hb); have n3_ := aK (hi); clear BK108 HK HB HI0; have BK108 := n0_; have HK := n1_; have HB := n2_; have HI0 := n3_; clear n0_ n1_ n2_ n3_; (try clear hb hk hi); have hnb7 := NB108_0.out; have hnc7 := NB0_108.out; obtain ⟨hcz8_0, hcz8_1, hcz8_2⟩ := z3 BK108.out (.int .i64 0) (.int .i64 0) (.string (⟨#[]⟩ : ByteArray)); obtain ⟨hfz8_0, hfz8_1, hfz8_2⟩ := f3 BK108.out))
 refine bodyPost_ret (results_cell_row rfl _ _ gb108 24 #[.int .i64 a1, .int .i64 t109, .string (⟨#[]⟩ : ByteArray)] (0, 0) _ rfl (put3 BK108.out) Try.underlying24 rfl (by kernel_rfl)) rfl ?_
 exact ⟨eW, iF HI0.out NB0_108.out, bT (IsS75.ge HI0.out) GE108.out, by repeat (first | (with_reducible first | exact HK.out | apply KeepBut.set_ | apply keep_drewN | apply keep_drew | apply keep_alloc | refine keep_far ?_ GW108.out _) | exact HK.out)⟩
def cc_Any.f (k : Nat) (s0_0 : List Int) (s0_1 : Int) : Option (Int × Int × ByteArray × Int) := (cc_Int.f s0_0 s0_1 5).bind fun bt116 => (if (wrap64 (1 + bt116.1)) < 3 then (some (wrap64 (1 + bt116.1), 0, (⟨#[]⟩ : ByteArray), bt116.2)) else ((cc_Value.f k s0_0 bt116.2 (wrap64 (1 + bt116.1))).bind fun bt118 => (some (bt118.1, bt118.2.1, bt118.2.2.1, bt118.2.2.2))))
set_option maxHeartbeats 8000000 in
set_option maxRecDepth 100000 in
theorem cc_Any.calls (k : Nat) (g : Nat) (s0_0 : List Int) (s0_1 : Int) (r1 : Int) (r2 : Int) (r3 : ByteArray) (r4 : Int) (w0 w : World) (hI : IsS75 w0 w g s0_0 s0_1) (hB : Below w0.heap.size w0 w) (h : cc_Any.f k s0_0 s0_1 = some (r1, r2, r3, r4)) :
  Calls Try.prog 19 #[.pointer (some ⟨g, 0, none⟩)] w fun e w' => e = .returned (.agg #[.int .i64 r1, .int .i64 r2, .string r3]) ∧ IsS75 w0 w' g s0_0 r4 ∧ Below w0.heap.size w0 w' ∧ KeepBut w w' g none := by
 have hu24 := Try.underlying24
 have HI0 := Aside0.mk hI
 have HK := aK (KeepBut.refl w g none)
 have HL := Aside0.mk hB.size
 clear hI
 have HW0 := Aside0.mk hB.size
 have HB := Aside0.mk hB
 clear hB
 have H : ((cc_Int.f s0_0 s0_1 5).bind fun bt116 => (if (wrap64 (1 + bt116.1)) < 3 then (some (wrap64 (1 + bt116.1), 0, (⟨#[]⟩ : ByteArray), bt116.2)) else ((cc_Value.f k s0_0 bt116.2 (wrap64 (1 + bt116.1))).bind fun bt118 => (some (bt118.1, bt118.2.1, bt118.2.2.1, bt118.2.2.2))))) = some (r1, r2, r3, r4) := h
 clear h
 obtain ⟨⟨t116, t117⟩, A2, H⟩ := oB H
 try dsimp only at H
 by_cases c3 : (wrap64 (1 + t116)) < 3
 rotate_left
 ·rw [if_neg c3] at H
  have c3b0 : decide ((wrap64 (1 + t116)) < 3) = false := decide_eq_false c3
  clear c3
  obtain ⟨⟨t118, t119, t120, t121⟩, A8, H⟩ := oB H
  try dsimp only at H
  simp only [Option.some.injEq, Prod.mk.injEq] at H
  obtain ⟨rfl, rfl, rfl, rfl⟩ := H
  go_enter Try.func19, Try.ntmps19
  go_wp2_with (first | ((with_reducible refine gate_dst (N := 2) rfl ?_); refine box_event ?hg (N := 2) ?hd (cs := #[.int .i64 0, .int .i64 0, .string (⟨#[]⟩ : ByteArray)]) (t := 24) ?hr ?_; (case hd => rfl); (case hg => rfl); (case hr => exact hR); intro gb115 hg w9 hbox hb; have n0_ := aK (IsS75.below (iX HI0.out) hb); have n1_ := aK (KeepBut.trans kX (KeepBut.of_below hb g none) (.inl rfl)); have n2_ := aK (below_step (bS (IsS75.ge HI0.out)) hb); have n3_ := aK (hbox); have n4_ := aK ((by rw [hg]; exact (keep_size (w := w) (g := g) (row := none) kX) : w.heap.size ≤ gb115)); have n5_ := aK ((Nat.le_trans HW0.out (by rw [hg]; exact (keep_size (w := w) (g := g) (row := none) kX) : w.heap.size ≤ gb115) : w0.heap.size ≤ gb115)); have n6_ := aK ((by rw [hg]; exact Nat.ne_of_lt (IsS75.lt (show IsS75 w0 _ g s0_0 s0_1 from iX HI0.out)) : g ≠ gb115)); have n7_ := aK ((by rw [hg]; exact Nat.ne_of_gt (IsS75.lt (show IsS75 w0 _ g s0_0 s0_1 from iX HI0.out)) : gb115 ≠ g)); clear HI0 HK HB; have HI0 := n0_; have HK := n1_; have HB := n2_; have BK115 := n3_; have GW115 := n4_; have GE115 := n5_; have NB0_115 := n6_; have NB115_0 := n7_; clear n0_ n1_ n2_ n3_ n4_ n5_ n6_ n7_ hb hbox hg) | ((with_reducible refine gate_callee (f := 73) rfl ?_); refine gL (some 5) rfl Try.func73 #[.pointer (some ⟨g, 0, none⟩), .int .i64 5] rfl ?_; (with_reducible refine (cc_Int.calls g s0_0 s0_1 5 t116 t117 w0 _ ?side1 ?side2 A2.out).mono ?_); (case side1 => exact iF HI0.out NB0_115.out); (case side2 => exact bT (IsS75.ge HI0.out) GE115.out); rintro e w10 ⟨rfl, hi, hb, hk⟩; refine ⟨_, rfl, ?_⟩; have n0_ := aK (KeepBut.blk hk (g' := gb115) (o := .cells #[.int .i64 0, .int .i64 0, .string (⟨#[]⟩ : ByteArray)] 24 (0, 0)) (bX BK115.out) NB115_0.out (by simp)); have n1_ := aK (KeepBut.trans (by repeat (first | (with_reducible first | exact HK.out | apply KeepBut.set_ | apply keep_drewN | apply keep_drew | apply keep_alloc | refine keep_far ?_ GW115.out _) | exact HK.out)) hk (.inl rfl)); have n2_ := aK (hb); have n3_ := aK (hi); clear BK115 HK HB HI0; have BK115 := n0_; have HK := n1_; have HB := n2_; have HI0 := n3_; clear n0_ n1_ n2_ n3_; (try clear hb hk hi)) | ((with_reducible refine gate_callee (f := 74) rfl ?_); refine gL (some 13) rfl Try.func74 #[.pointer (some ⟨g, 0, none⟩), .int .i64 (wrap64 (1 + t116))] rfl ?_; (with_reducible refine (cc_Value.calls k g s0_0 t117 (wrap64 (1 + t116)) t118 t119 t120 t121 w0 _ ?side1 ?side2 A8.out).mono ?_); (case side1 => exact iF HI0.out NB0_115.out); (case side2 => exact bT (IsS75.ge HI0.out) GE115.out); rintro e w11 ⟨rfl, hi, hb, hk⟩; refine ⟨_, rfl, ?_⟩; have n0_ := aK (KeepBut.blk hk (g' := gb115) (o := .cells #[.int .i64 0, .int .i64 0, .string (⟨#[]⟩ : ByteArray)] 24 (0, 0)) (bX BK115.out) NB115_0.out (by simp)); have n1_ := aK (KeepBut.trans (by repeat (first | (with_reducible first | exact HK.out | apply KeepBut.set_ | apply keep_drewN | apply keep_drew | apply keep_alloc | refine keep_far ?_ GW115.out _) | exact HK.out)) hk (.inl rfl)); have n2_ := aK (hb); have n3_ := aK (hi); clear BK115 HK HB HI0; have BK115 := n0_; have HK := n1_; have HB := n2_; have HI0 := n3_; clear n0_ n1_ n2_ n3_; (try clear hb hk hi); have hnb12 := NB115_0.out; have hnc12 := NB0_115.out; obtain ⟨hcz13_0, hcz13_1, hcz13_2⟩ := z3 BK115.out (.int .i64 0) (.int .i64 0) (.string (⟨#[]⟩ : ByteArray)); obtain ⟨hfz13_0, hfz13_1, hfz13_2⟩ := f3 BK115.out))
  refine bodyPost_ret (results_cell_row rfl _ _ gb115 24 #[.int .i64 t118, .int .i64 t119, .string t120] (0, 0) _ rfl (put3 BK115.out) Try.underlying24 rfl (by kernel_rfl)) rfl ?_
  exact ⟨eW, iF HI0.out NB0_115.out, bT (IsS75.ge HI0.out) GE115.out, by repeat (first | (with_reducible first | exact HK.out | apply KeepBut.set_ | apply keep_drewN | apply keep_drew | apply keep_alloc | refine keep_far ?_ GW115.out _) | exact HK.out)⟩
 rw [if_pos c3] at H
 have c3b0 : decide ((wrap64 (1 + t116)) < 3) = true := decide_eq_true c3
 clear c3
 simp only [Option.some.injEq, Prod.mk.injEq] at H
 obtain ⟨rfl, rfl, rfl, rfl⟩ := H
 go_enter Try.func19, Try.ntmps19
 go_wp2_with (first | ((with_reducible refine gate_dst (N := 2) rfl ?_); refine box_event ?hg (N := 2) ?hd (cs := #[.int .i64 0, .int .i64 0, .string (⟨#[]⟩ : ByteArray)]) (t := 24) ?hr ?_; (case hd => rfl); (case hg => rfl); (case hr => exact hR); intro gb115 hg w4 hbox hb; have n0_ := aK (IsS75.below (iX HI0.out) hb); have n1_ := aK (KeepBut.trans kX (KeepBut.of_below hb g none) (.inl rfl)); have n2_ := aK (below_step (bS (IsS75.ge HI0.out)) hb); have n3_ := aK (hbox); have n4_ := aK ((by rw [hg]; exact (keep_size (w := w) (g := g) (row := none) kX) : w.heap.size ≤ gb115)); have n5_ := aK ((Nat.le_trans HW0.out (by rw [hg]; exact (keep_size (w := w) (g := g) (row := none) kX) : w.heap.size ≤ gb115) : w0.heap.size ≤ gb115)); have n6_ := aK ((by rw [hg]; exact Nat.ne_of_lt (IsS75.lt (show IsS75 w0 _ g s0_0 s0_1 from iX HI0.out)) : g ≠ gb115)); have n7_ := aK ((by rw [hg]; exact Nat.ne_of_gt (IsS75.lt (show IsS75 w0 _ g s0_0 s0_1 from iX HI0.out)) : gb115 ≠ g)); clear HI0 HK HB; have HI0 := n0_; have HK := n1_; have HB := n2_; have BK115 := n3_; have GW115 := n4_; have GE115 := n5_; have NB0_115 := n6_; have NB115_0 := n7_; clear n0_ n1_ n2_ n3_ n4_ n5_ n6_ n7_ hb hbox hg) | ((with_reducible refine gate_callee (f := 73) rfl ?_); refine gL (some 5) rfl Try.func73 #[.pointer (some ⟨g, 0, none⟩), .int .i64 5] rfl ?_; (with_reducible refine (cc_Int.calls g s0_0 s0_1 5 t116 t117 w0 _ ?side1 ?side2 A2.out).mono ?_); (case side1 => exact iF HI0.out NB0_115.out); (case side2 => exact bT (IsS75.ge HI0.out) GE115.out); rintro e w5 ⟨rfl, hi, hb, hk⟩; refine ⟨_, rfl, ?_⟩; have n0_ := aK (KeepBut.blk hk (g' := gb115) (o := .cells #[.int .i64 0, .int .i64 0, .string (⟨#[]⟩ : ByteArray)] 24 (0, 0)) (bX BK115.out) NB115_0.out (by simp)); have n1_ := aK (KeepBut.trans (by repeat (first | (with_reducible first | exact HK.out | apply KeepBut.set_ | apply keep_drewN | apply keep_drew | apply keep_alloc | refine keep_far ?_ GW115.out _) | exact HK.out)) hk (.inl rfl)); have n2_ := aK (hb); have n3_ := aK (hi); clear BK115 HK HB HI0; have BK115 := n0_; have HK := n1_; have HB := n2_; have HI0 := n3_; clear n0_ n1_ n2_ n3_; (try clear hb hk hi); have hnb6 := NB115_0.out; have hnc6 := NB0_115.out; obtain ⟨hcz7_0, hcz7_1, hcz7_2⟩ := z3 BK115.out (.int .i64 0) (.int .i64 0) (.string (⟨#[]⟩ : ByteArray)); obtain ⟨hfz7_0, hfz7_1, hfz7_2⟩ := f3 BK115.out))
 refine bodyPost_ret (results_cell_row rfl _ _ gb115 24 #[.int .i64 (wrap64 (1 + t116)), .int .i64 0, .string (⟨#[]⟩ : ByteArray)] (0, 0) _ rfl (put3 BK115.out) Try.underlying24 rfl (by kernel_rfl)) rfl ?_
 exact ⟨eW, iF HI0.out NB0_115.out, bT (IsS75.ge HI0.out) GE115.out, by repeat (first | (with_reducible first | exact HK.out | apply KeepBut.set_ | apply keep_drewN | apply keep_drew | apply keep_alloc | refine keep_far ?_ GW115.out _) | exact HK.out)⟩
theorem below2 (w : World) (o p : Obj) : Below w.heap.size w ((w.alloc o).alloc p) := (bg2 w o p).toBelow
def r1_Compare.f (a0_0 : Int) (a0_1 : Int) (a0_2 : ByteArray) (a1_0 : Int) (a1_1 : Int) (a1_2 : ByteArray) : Option (Int) := if a0_0 < a1_0 then (some (-1)) else (if a0_0 > a1_0 then (some 1) else (if a0_1 < a1_1 then (some (-1)) else (if a0_1 > a1_1 then (some 1) else (if (Op.bytesLess a0_2.toList a1_2.toList) = true then (some (-1)) else (if (a0_2.toList == a1_2.toList) = true then (some 0) else (some 1))))))
set_option maxHeartbeats 400000 in
theorem r1_Compare.calls (a0_0 : Int) (a0_1 : Int) (a0_2 : ByteArray) (a1_0 : Int) (a1_1 : Int) (a1_2 : ByteArray) (r : Int) (w : World) (h : r1_Compare.f a0_0 a0_1 a0_2 a1_0 a1_1 a1_2 = some r) :
  Calls Try.prog 26 #[.agg #[.int .i64 a0_0, .int .i64 a0_1, .string a0_2], .agg #[.int .i64 a1_0, .int .i64 a1_1, .string a1_2]] w fun e w' => e = .returned (.int .i64 r) ∧ Below w.heap.size w w' := by
 have hu24 := Try.underlying24
 unfold r1_Compare.f at h
 by_cases c3 : a0_0 < a1_0
 rotate_left
 ·rw [if_neg c3] at h
  by_cases c4 : a0_0 > a1_0
  rotate_left
  ·rw [if_neg c4] at h
   by_cases c5 : a0_1 < a1_1
   rotate_left
   ·rw [if_neg c5] at h
    by_cases c6 : a0_1 > a1_1
    rotate_left
    ·rw [if_neg c6] at h
     cases hb : Op.bytesLess a0_2.toList a1_2.toList
     ·rw [hb, if_neg (by decide)] at h
      cases hb2 : a0_2.toList == a1_2.toList
      all_goals
       rw [hb2] at h; cases h
       go_enter Try.func26, Try.ntmps26
       go_wp2
       go_ret
       exact ⟨rfl, below2 _ _ _⟩
     ·rw [hb] at h; cases h
      go_enter Try.func26, Try.ntmps26
      go_wp2
      go_ret
      exact ⟨rfl, below2 _ _ _⟩
    rw [if_pos c6] at h; cases h
    go_enter Try.func26, Try.ntmps26
    go_wp2
    go_ret
    exact ⟨rfl, below2 _ _ _⟩
   rw [if_pos c5] at h; cases h
   go_enter Try.func26, Try.ntmps26
   go_wp2
   go_ret
   exact ⟨rfl, below2 _ _ _⟩
  rw [if_pos c4] at h; cases h
  go_enter Try.func26, Try.ntmps26
  go_wp2
  go_ret
  exact ⟨rfl, below2 _ _ _⟩
 rw [if_pos c3] at h; cases h
 go_enter Try.func26, Try.ntmps26
 go_wp2
 go_ret
 exact ⟨rfl, below2 _ _ _⟩
end Go.Proofs.Ytpjcdacnhalclaa.Q
