/- A part of a proof: facts of functions that the law calls; conditions stand in each. -/
import Derived.Test.YtpjcdacnhalclaaV6x2
import Derived.Test.YtpjcdacnhalclaaV6x7
import Derived.Test.YtpjcdacnhalclaaV6x4
import Derived.WalkLawsBesides
set_option linter.unusedVariables false
set_option linter.unusedSimpArgs false
namespace Go.Proofs.Ytpjcdacnhalclaa.Q
open Go.RowKit Go.Proofs.YtpjcdacnhalclaaW.PrintWords Go.Proofs.YtpjcdacnhalclaaW.PrintLast Go.Proofs.YtpjcdacnhalclaaW.PrintMore
attribute [local go_sem] max2_int min2_int max_two min_two max_three min_three max_four min_four
mutual
def cc_Text.j0 : Nat → ByteArray → Int → Bool → List Int → Int → Option (ByteArray × Int)
 | 0, _, _, _, _, _ => none
 | k + 1, x3, x7, x8, x1000, x1001 => if x8 = true then (some ((⟨#[97]⟩ : ByteArray), x1001)) else (if x7 = 3 then (cc_Text.j1 k x3 x7 (x7 == 3) x1000 x1001) else (cc_Text.j1 k x3 x7 (x7 == 4) x1000 x1001))
def cc_Text.j1 : Nat → ByteArray → Int → Bool → List Int → Int → Option (ByteArray × Int)
 | 0, _, _, _, _, _ => none
 | k + 1, x3, x7, x12, x1000, x1001 => if x12 = true then (some ((⟨#[98]⟩ : ByteArray), x1001)) else (if x7 = 5 then (some ((⟨#[]⟩ : ByteArray), x1001)) else (if x7 = 6 then (some ((⟨#[97, 0]⟩ : ByteArray), x1001)) else (if x7 = 7 then (some ((⟨#[255]⟩ : ByteArray), x1001)) else (if x7 = 8 then (cc_Text.l0 k x3 0 x1000 x1001) else (cc_Text.l1 k x3 0 x1000 x1001)))))
def cc_Text.l0 : Nat → ByteArray → Int → List Int → Int → Option (ByteArray × Int)
 | 0, _, _, _, _ => none
 | k + 1, x3, x4, x1000, x1001 => if x4 < 64 then (if x3.size + 1 ≤ 9223372036854775807 then (cc_Text.l0 k (x3 ++ (⟨#[255]⟩ : ByteArray)) (wrap64 (x4 + 1)) x1000 x1001) else (none)) else (some (x3, x1001))
def cc_Text.l1 : Nat → ByteArray → Int → List Int → Int → Option (ByteArray × Int)
 | 0, _, _, _, _ => none
 | k + 1, x3, x5, x1000, x1001 => if x5 < 64 then (if x3.size + 1 ≤ 9223372036854775807 then (cc_Text.l1 k (x3 ++ (⟨#[98]⟩ : ByteArray)) (wrap64 (x5 + 1)) x1000 x1001) else (none)) else (some (x3, x1001))
end
def cc_Text.f (k : Nat) (s0_0 : List Int) (s0_1 : Int) : Option (ByteArray × Int) := (cc_Int.f s0_0 s0_1 10).bind fun bt106 => (if bt106.1 = 0 then (cc_Text.j0 k (⟨#[]⟩ : ByteArray) bt106.1 (bt106.1 == 0) s0_0 bt106.2) else (if bt106.1 = 1 then (cc_Text.j0 k (⟨#[]⟩ : ByteArray) bt106.1 (bt106.1 == 1) s0_0 bt106.2) else (cc_Text.j0 k (⟨#[]⟩ : ByteArray) bt106.1 (bt106.1 == 2) s0_0 bt106.2)))
theorem cc_Text.mono_l : ∀ k, (∀ y0 y1 y2 y3 y4, LeO (cc_Text.j0 k y0 y1 y2 y3 y4) (cc_Text.j0 (k + 1) y0 y1 y2 y3 y4)) ∧ (∀ y0 y1 y2 y3 y4, LeO (cc_Text.j1 k y0 y1 y2 y3 y4) (cc_Text.j1 (k + 1) y0 y1 y2 y3 y4)) ∧ (∀ y0 y1 y2 y3, LeO (cc_Text.l0 k y0 y1 y2 y3) (cc_Text.l0 (k + 1) y0 y1 y2 y3)) ∧ (∀ y0 y1 y2 y3, LeO (cc_Text.l1 k y0 y1 y2 y3) (cc_Text.l1 (k + 1) y0 y1 y2 y3))
 | 0 => ⟨fun _ _ _ _ _ r h => by simp [cc_Text.j0] at h, fun _ _ _ _ _ r h => by simp [cc_Text.j1] at h, fun _ _ _ _ r h => by simp [cc_Text.l0] at h, fun _ _ _ _ r h => by simp [cc_Text.l1] at h⟩
 | k + 1 => by
  obtain ⟨ih0, ih1, ih2, ih3⟩ := cc_Text.mono_l k
  refine ⟨?_, ?_, ?_, ?_⟩
  ·intro y0 y1 y2 y3 y4
   unfold cc_Text.j0
   repeat' first
   | (with_reducible exact ih0 _ _ _ _ _)
   | (with_reducible exact ih1 _ _ _ _ _)
   | (with_reducible exact ih2 _ _ _ _)
   | (with_reducible exact ih3 _ _ _ _)
   | (with_reducible exact LeO.refl _)
   | (with_reducible exact LeO.none _)
   | (with_reducible refine LeO.ite ?_ ?_)
   | (with_reducible refine LeO.bind ?_ (fun _ => ?_))
   | exact ih0 _ _ _ _ _
   | exact ih1 _ _ _ _ _
   | exact ih2 _ _ _ _
   | exact ih3 _ _ _ _
   | exact LeO.none _
   | refine LeO.ite ?_ ?_
   | refine LeO.bind ?_ (fun _ => ?_)
  ·intro y0 y1 y2 y3 y4
   unfold cc_Text.j1
   repeat' first
   | (with_reducible exact ih0 _ _ _ _ _)
   | (with_reducible exact ih1 _ _ _ _ _)
   | (with_reducible exact ih2 _ _ _ _)
   | (with_reducible exact ih3 _ _ _ _)
   | (with_reducible exact LeO.refl _)
   | (with_reducible exact LeO.none _)
   | (with_reducible refine LeO.ite ?_ ?_)
   | (with_reducible refine LeO.bind ?_ (fun _ => ?_))
   | exact ih0 _ _ _ _ _
   | exact ih1 _ _ _ _ _
   | exact ih2 _ _ _ _
   | exact ih3 _ _ _ _
   | exact LeO.none _
   | refine LeO.ite ?_ ?_
   | refine LeO.bind ?_ (fun _ => ?_)
  ·intro y0 y1 y2 y3
   unfold cc_Text.l0
   repeat' first
   | (with_reducible exact ih0 _ _ _ _ _)
   | (with_reducible exact ih1 _ _ _ _ _)
   | (with_reducible exact ih2 _ _ _ _)
   | (with_reducible exact ih3 _ _ _ _)
   | (with_reducible exact LeO.refl _)
   | (with_reducible exact LeO.none _)
   | (with_reducible refine LeO.ite ?_ ?_)
   | (with_reducible refine LeO.bind ?_ (fun _ => ?_))
   | exact ih0 _ _ _ _ _
   | exact ih1 _ _ _ _ _
   | exact ih2 _ _ _ _
   | exact ih3 _ _ _ _
   | exact LeO.none _
   | refine LeO.ite ?_ ?_
   | refine LeO.bind ?_ (fun _ => ?_)
  ·intro y0 y1 y2 y3
   unfold cc_Text.l1
   repeat' first
   | (with_reducible exact ih0 _ _ _ _ _)
   | (with_reducible exact ih1 _ _ _ _ _)
   | (with_reducible exact ih2 _ _ _ _)
   | (with_reducible exact ih3 _ _ _ _)
   | (with_reducible exact LeO.refl _)
   | (with_reducible exact LeO.none _)
   | (with_reducible refine LeO.ite ?_ ?_)
   | (with_reducible refine LeO.bind ?_ (fun _ => ?_))
   | exact ih0 _ _ _ _ _
   | exact ih1 _ _ _ _ _
   | exact ih2 _ _ _ _
   | exact ih3 _ _ _ _
   | exact LeO.none _
   | refine LeO.ite ?_ ?_
   | refine LeO.bind ?_ (fun _ => ?_)
theorem cc_Text.mono : ∀ a0 a1 k, LeO (cc_Text.f k a0 a1) (cc_Text.f (k + 1) a0 a1) := by
 intro a0 a1 k
 obtain ⟨ih0, ih1, ih2, ih3⟩ := cc_Text.mono_l k
 unfold cc_Text.f
 repeat' first
   | (with_reducible exact ih0 _ _ _ _ _)
   | (with_reducible exact ih1 _ _ _ _ _)
   | (with_reducible exact ih2 _ _ _ _)
   | (with_reducible exact ih3 _ _ _ _)
   | (with_reducible exact LeO.refl _)
   | (with_reducible exact LeO.none _)
   | (with_reducible refine LeO.ite ?_ ?_)
   | (with_reducible refine LeO.bind ?_ (fun _ => ?_))
   | exact ih0 _ _ _ _ _
   | exact ih1 _ _ _ _ _
   | exact ih2 _ _ _ _
   | exact ih3 _ _ _ _
   | exact LeO.none _
   | refine LeO.ite ?_ ?_
   | refine LeO.bind ?_ (fun _ => ?_)
set_option maxHeartbeats 8000000 in
set_option maxRecDepth 100000 in
theorem cc_Text.calls (k : Nat) (g : Nat) (s0_0 : List Int) (s0_1 : Int) (r1 : ByteArray) (r2 : Int) (w0 w : World) (hI : IsS75 w0 w g s0_0 s0_1) (hB : Below w0.heap.size w0 w) (h : cc_Text.f k s0_0 s0_1 = some (r1, r2)) :
  Calls Try.prog 95 #[.pointer (some ⟨g, 0, none⟩)] w fun e w' => e = .returned (.string r1) ∧ IsS75 w0 w' g s0_0 r2 ∧ Below w0.heap.size w0 w' ∧ KeepBut w w' g none := by
 have HI0 := Aside0.mk hI
 have HK := aK (KeepBut.refl w g none)
 have HL := Aside0.mk hB.size
 clear hI
 have HW0 := Aside0.mk hB.size
 have HB := Aside0.mk hB
 clear hB
 have H : ((cc_Int.f s0_0 s0_1 10).bind fun bt106 => (if bt106.1 = 0 then (cc_Text.j0 k (⟨#[]⟩ : ByteArray) bt106.1 (bt106.1 == 0) s0_0 bt106.2) else (if bt106.1 = 1 then (cc_Text.j0 k (⟨#[]⟩ : ByteArray) bt106.1 (bt106.1 == 1) s0_0 bt106.2) else (cc_Text.j0 k (⟨#[]⟩ : ByteArray) bt106.1 (bt106.1 == 2) s0_0 bt106.2)))) = some (r1, r2) := h
 clear h
 obtain ⟨⟨t106, t107⟩, A2, H⟩ := oB H
 try dsimp only at H
 have HC3 := Aside0.mk H
 clear H
 go_enter Try.func95, Try.ntmps95
 go_upto_if 8 with (first | ((with_reducible refine gate_callee (f := 73) rfl ?_); refine gL (some 7) rfl Try.func73 #[.pointer (some ⟨g, 0, none⟩), .int .i64 10] rfl ?_; (with_reducible refine (cc_Int.calls g s0_0 s0_1 10 t106 t107 w0 _ ?side1 ?side2 A2.out).mono ?_); (case side1 => exact iX HI0.out); (case side2 => exact bS (IsS75.ge HI0.out)); rintro e w4 ⟨rfl, hi, hb, hk⟩; refine ⟨_, rfl, ?_⟩; have n0_ := aK (KeepBut.trans kX hk (.inl rfl)); have n1_ := aK (hb); have n2_ := aK (hi); clear HK HB HI0; have HK := n0_; have HB := n1_; have HI0 := n2_; clear n0_ n1_ n2_; (try clear hb hk hi)))
 (try simp only [Act.put, List.setIfInBounds_toArray, List.set_cons_zero, List.set_cons_succ])
 go_cut [8] (fun v8 wc => ∃ (kq : Nat) (x8_2 : Bool), v8 = .bool x8_2 ∧ Aside0 (cc_Text.j0 kq (⟨#[]⟩ : ByteArray) t106 x8_2 s0_0 t107 = some (r1, r2)) ∧ Aside0 (kq ≤ k) ∧ Aside0 (IsS75 w0 wc g s0_0 t107) ∧ Aside0 (KeepBut w wc g none) ∧ Aside0 (Below w0.heap.size w0 wc))
 case first =>
  have H := HC3.out
  clear HC3
  by_cases c5 : t106 = 0
  rotate_left
  ·rw [if_neg c5] at H
   have c5b0 : (t106 == 0) = false := beq_eq_false_iff_ne.mpr c5
   have c5b1 : (t106 != 0) = true := bne_iff_ne.mpr c5
   (first | rw [c5b0] | (simp only [i64_w, i32_w]; rw [c5b0]) | skip)
   by_cases c6 : t106 = 1
   rotate_left
   ·rw [if_neg c6] at H
    have c6b0 : (t106 == 1) = false := beq_eq_false_iff_ne.mpr c6
    have c6b1 : (t106 != 1) = true := bne_iff_ne.mpr c6
    have H' := Aside0.mk H
    clear H
    go_wp2
    go_meet
    case rel => exact ⟨_, ((t106 == 2)), (by first | rfl | (simp; done) | (simp [*]; done)), H', ⟨by first | omega | exact Nat.le_refl _⟩, ⟨iX HI0.out⟩, ⟨kX⟩, ⟨bS (IsS75.ge HI0.out)⟩⟩
   rw [if_pos c6] at H
   have c6b0 : (t106 == 1) = true := beq_iff_eq.mpr c6
   have c6b1 : (t106 != 1) = false := bne_eq_false_iff_eq.mpr c6
   clear c6
   have H' := Aside0.mk H
   clear H
   go_wp2
   go_meet
   case rel => exact ⟨_, ((t106 == 1)), (by first | rfl | (simp; done) | (simp [*]; done)), H', ⟨by first | omega | exact Nat.le_refl _⟩, ⟨iX HI0.out⟩, ⟨kX⟩, ⟨bS (IsS75.ge HI0.out)⟩⟩
  rw [if_pos c5] at H
  have c5b0 : (t106 == 0) = true := beq_iff_eq.mpr c5
  have c5b1 : (t106 != 0) = false := bne_eq_false_iff_eq.mpr c5
  clear c5
  (first | rw [c5b0] | (simp only [i64_w, i32_w]; rw [c5b0]) | skip)
  have H' := Aside0.mk H
  clear H
  go_wp2
  go_meet
  case rel => exact ⟨_, ((t106 == 0)), (by first | rfl | (simp; done) | (simp [*]; done)), H', ⟨by first | omega | exact Nat.le_refl _⟩, ⟨iX HI0.out⟩, ⟨kX⟩, ⟨bS (IsS75.ge HI0.out)⟩⟩
 case rest =>
  clear HC3
  try clear p2
  try clear c5
  try clear c5b0
  try clear c5b1
  try clear c6
  try clear c6b0
  try clear c6b1
  obtain ⟨kq, x8_2, rfl, HA, HJ2, HI0, HK, HB⟩ := hcut
  cases kq with
  | zero => exact absurd HA.out (by simp [cc_Text.j0])
  | succ kj2 =>
   have H := HA.out
   clear HA
   simp only [cc_Text.j0] at H
   by_cases c7 : x8_2 = true
   rotate_left
   ·replace c7 := Bool.eq_false_iff.mpr c7
    subst c7
    rw [if_neg (show ¬ (false = true) by decide)] at H
    have HC8 := Aside0.mk H
    clear H
    go_upto_if 12 with (fail)
    go_cut [12] (fun v12 wc => ∃ (kq : Nat) (x12_7 : Bool), v12 = .bool x12_7 ∧ Aside0 (cc_Text.j1 kq (⟨#[]⟩ : ByteArray) t106 x12_7 s0_0 t107 = some (r1, r2)) ∧ Aside0 (kq ≤ kj2) ∧ Aside0 (IsS75 w0 wc g s0_0 t107) ∧ Aside0 (KeepBut w wc g none) ∧ Aside0 (Below w0.heap.size w0 wc))
    case first =>
     have H := HC8.out
     clear HC8
     by_cases c9 : t106 = 3
     rotate_left
     ·rw [if_neg c9] at H
      have c9b0 : (t106 == 3) = false := beq_eq_false_iff_ne.mpr c9
      have c9b1 : (t106 != 3) = true := bne_iff_ne.mpr c9
      (first | rw [c9b0] | (simp only [i64_w, i32_w]; rw [c9b0]) | skip)
      have H' := Aside0.mk H
      clear H
      go_wp2
      go_meet
      case rel => exact ⟨_, ((t106 == 4)), (by first | rfl | (simp; done) | (simp [*]; done)), H', ⟨by have := HJ2.out; first | omega | exact Nat.le_refl _⟩, ⟨iX HI0.out⟩, ⟨kX⟩, ⟨bS (IsS75.ge HI0.out)⟩⟩
     rw [if_pos c9] at H
     have c9b0 : (t106 == 3) = true := beq_iff_eq.mpr c9
     have c9b1 : (t106 != 3) = false := bne_eq_false_iff_eq.mpr c9
     clear c9
     (first | rw [c9b0] | (simp only [i64_w, i32_w]; rw [c9b0]) | skip)
     have H' := Aside0.mk H
     clear H
     go_wp2
     go_meet
     case rel => exact ⟨_, ((t106 == 3)), (by first | rfl | (simp; done) | (simp [*]; done)), H', ⟨by have := HJ2.out; first | omega | exact Nat.le_refl _⟩, ⟨iX HI0.out⟩, ⟨kX⟩, ⟨bS (IsS75.ge HI0.out)⟩⟩
    case rest =>
     clear HC8
     try clear p2
     try clear c5
     try clear c5b0
     try clear c5b1
     try clear c6
     try clear c6b0
     try clear c6b1
     try clear c7
     try clear c9
     try clear c9b0
     try clear c9b1
     try clear p2
     obtain ⟨kq, x12_7, rfl, HA, HJ7, HI0, HK, HB⟩ := hcut
     cases kq with
     | zero => exact absurd HA.out (by simp [cc_Text.j1])
     | succ kj7 =>
      have H := HA.out
      clear HA
      simp only [cc_Text.j1] at H
      by_cases c10 : x12_7 = true
      rotate_left
      ·replace c10 := Bool.eq_false_iff.mpr c10
       subst c10
       rw [if_neg (show ¬ (false = true) by decide)] at H
       by_cases c11 : t106 = 5
       rotate_left
       ·rw [if_neg c11] at H
        have c11b0 : (t106 == 5) = false := beq_eq_false_iff_ne.mpr c11
        have c11b1 : (t106 != 5) = true := bne_iff_ne.mpr c11
        by_cases c12 : t106 = 6
        rotate_left
        ·rw [if_neg c12] at H
         have c12b0 : (t106 == 6) = false := beq_eq_false_iff_ne.mpr c12
         have c12b1 : (t106 != 6) = true := bne_iff_ne.mpr c12
         by_cases c13 : t106 = 7
         rotate_left
         ·rw [if_neg c13] at H
          have c13b0 : (t106 == 7) = false := beq_eq_false_iff_ne.mpr c13
          have c13b1 : (t106 != 7) = true := bne_iff_ne.mpr c13
          by_cases c14 : t106 = 8
          rotate_left
          ·rw [if_neg c14] at H
           have c14b0 : (t106 == 8) = false := beq_eq_false_iff_ne.mpr c14
           have c14b1 : (t106 != 8) = true := bne_iff_ne.mpr c14
           have H' := Aside0.mk H
           clear H
           go_wp2
           go_loopg [3, 5] kj7 (fun kq v3 v5 w' => ∃ (x3_3 : ByteArray) (x5_3 : Int), v3 = .string x3_3 ∧ v5 = .int .i64 x5_3 ∧ Aside0 (cc_Text.l1 kq x3_3 x5_3 s0_0 t107 = some (r1, r2)) ∧ Aside0 (kq ≤ kj7) ∧ Aside0 (IsS75 w0 w' g s0_0 t107) ∧ Aside0 (KeepBut w w' g none) ∧ Aside0 (Below w0.heap.size w0 w'))
           case atStart => exact ⟨((⟨#[]⟩ : ByteArray)), (0), (by first | rfl | (simp; done) | (simp [*]; done)), (by first | rfl | (simp; done) | (simp [*]; done)), H', ⟨Nat.le_refl _⟩, ⟨iX HI0.out⟩, ⟨kX⟩, ⟨bS (IsS75.ge HI0.out)⟩⟩
           case round =>
            clear H'
            try clear c1
            try clear p2
            try clear c5
            try clear c5b0
            try clear c5b1
            try clear c6
            try clear c6b0
            try clear c6b1
            try clear p6
            try clear c7
            try clear c9
            try clear c9b0
            try clear c9b1
            try clear c10
            try clear c11
            try clear c11b0
            try clear c11b1
            try clear c12
            try clear c12b0
            try clear c12b1
            try clear c13
            try clear c13b0
            try clear c13b1
            try clear c14
            try clear c14b0
            try clear c14b1
            try clear c15
            try clear c15b0
            try clear c16
            try clear c16b0
            try clear c16b1
            try clear c16b2
            try clear p2
            obtain ⟨x3_3, x5_3, rfl, rfl, HA, HK3, HI0, HK, HB⟩ := hrel
            cases gk with
            | zero => exact absurd HA.out (by simp [cc_Text.l1])
            | succ k3 =>
             have H := HA.out
             clear HA
             simp only [cc_Text.l1] at H
             by_cases c17 : x5_3 < 64
             rotate_left
             ·rw [if_neg c17] at H
              have c17b0 : decide (x5_3 < 64) = false := decide_eq_false c17
              clear c17
              simp only [Option.some.injEq, Prod.mk.injEq] at H
              obtain ⟨rfl, rfl⟩ := H
              go_wp2
              go_ret
              exact ⟨eW, iX HI0.out, bS (IsS75.ge HI0.out), kX⟩
             rw [if_pos c17] at H
             have c17b0 : decide (x5_3 < 64) = true := decide_eq_true c17
             clear c17
             by_cases c18 : x3_3.size + 1 ≤ 9223372036854775807
             rotate_left
             ·rw [if_neg c18] at H
              exact absurd H (by simp)
             rw [if_pos c18] at H
             have c18b0 := eq_true c18
             have c18b1 : decide (x3_3.size + 1 ≤ 9223372036854775807) = true := decide_eq_true c18
             try have c18b2 : (9223372036854775807 < x3_3.size + 1) = False := eq_false (Nat.not_lt.2 c18)
             have H' := Aside0.mk H
             clear H
             go_wp2
             go_roundg k3
             case measure => have := HJ2.out; have := HJ7.out; have := HK3.out; omega
             case rel => exact ⟨(x3_3 ++ (⟨#[98]⟩ : ByteArray)), (wrap64 (x5_3 + 1)), (by first | rfl | (simp; done) | (simp [*]; done)), (by first | rfl | (simp; done) | (simp [*]; done)), H', ⟨by have := HJ2.out; have := HJ7.out; have := HK3.out; omega⟩, ⟨iX HI0.out⟩, ⟨kX⟩, ⟨bS (IsS75.ge HI0.out)⟩⟩
          rw [if_pos c14] at H
          have c14b0 : (t106 == 8) = true := beq_iff_eq.mpr c14
          have c14b1 : (t106 != 8) = false := bne_eq_false_iff_eq.mpr c14
          clear c14
          have H' := Aside0.mk H
          clear H
          go_wp2
          go_loopg [3, 4] kj7 (fun kq v3 v4 w' => ∃ (x3_3 : ByteArray) (x4_3 : Int), v3 = .string x3_3 ∧ v4 = .int .i64 x4_3 ∧ Aside0 (cc_Text.l0 kq x3_3 x4_3 s0_0 t107 = some (r1, r2)) ∧ Aside0 (kq ≤ kj7) ∧ Aside0 (IsS75 w0 w' g s0_0 t107) ∧ Aside0 (KeepBut w w' g none) ∧ Aside0 (Below w0.heap.size w0 w'))
          case atStart => exact ⟨((⟨#[]⟩ : ByteArray)), (0), (by first | rfl | (simp; done) | (simp [*]; done)), (by first | rfl | (simp; done) | (simp [*]; done)), H', ⟨Nat.le_refl _⟩, ⟨iX HI0.out⟩, ⟨kX⟩, ⟨bS (IsS75.ge HI0.out)⟩⟩
          case round =>
           clear H'
           try clear c1
           try clear p2
           try clear c5
           try clear c5b0
           try clear c5b1
           try clear c6
           try clear c6b0
           try clear c6b1
           try clear c7
           try clear c9
           try clear c9b0
           try clear c9b1
           try clear c10
           try clear c11
           try clear c11b0
           try clear c11b1
           try clear c12
           try clear c12b0
           try clear c12b1
           try clear c13
           try clear c13b0
           try clear c13b1
           try clear c14
           try clear c14b0
           try clear c14b1
           try clear p2
           obtain ⟨x3_3, x4_3, rfl, rfl, HA, HK3, HI0, HK, HB⟩ := hrel
           cases gk with
           | zero => exact absurd HA.out (by simp [cc_Text.l0])
           | succ k3 =>
            have H := HA.out
            clear HA
            simp only [cc_Text.l0] at H
            by_cases c15 : x4_3 < 64
            rotate_left
            ·rw [if_neg c15] at H
             have c15b0 : decide (x4_3 < 64) = false := decide_eq_false c15
             clear c15
             simp only [Option.some.injEq, Prod.mk.injEq] at H
             obtain ⟨rfl, rfl⟩ := H
             go_wp2
             go_ret
             exact ⟨eW, iX HI0.out, bS (IsS75.ge HI0.out), kX⟩
            rw [if_pos c15] at H
            have c15b0 : decide (x4_3 < 64) = true := decide_eq_true c15
            clear c15
            by_cases c16 : x3_3.size + 1 ≤ 9223372036854775807
            rotate_left
            ·rw [if_neg c16] at H
             exact absurd H (by simp)
            rw [if_pos c16] at H
            have c16b0 := eq_true c16
            have c16b1 : decide (x3_3.size + 1 ≤ 9223372036854775807) = true := decide_eq_true c16
            try have c16b2 : (9223372036854775807 < x3_3.size + 1) = False := eq_false (Nat.not_lt.2 c16)
            have H' := Aside0.mk H
            clear H
            go_wp2
            go_roundg k3
            case measure => have := HJ2.out; have := HJ7.out; have := HK3.out; omega
            case rel => exact ⟨(x3_3 ++ (⟨#[255]⟩ : ByteArray)), (wrap64 (x4_3 + 1)), (by first | rfl | (simp; done) | (simp [*]; done)), (by first | rfl | (simp; done) | (simp [*]; done)), H', ⟨by have := HJ2.out; have := HJ7.out; have := HK3.out; omega⟩, ⟨iX HI0.out⟩, ⟨kX⟩, ⟨bS (IsS75.ge HI0.out)⟩⟩
         rw [if_pos c13] at H
         have c13b0 : (t106 == 7) = true := beq_iff_eq.mpr c13
         have c13b1 : (t106 != 7) = false := bne_eq_false_iff_eq.mpr c13
         clear c13
         simp only [Option.some.injEq, Prod.mk.injEq] at H
         obtain ⟨rfl, rfl⟩ := H
         go_wp2
         go_ret
         exact ⟨eW, iX HI0.out, bS (IsS75.ge HI0.out), kX⟩
        rw [if_pos c12] at H
        have c12b0 : (t106 == 6) = true := beq_iff_eq.mpr c12
        have c12b1 : (t106 != 6) = false := bne_eq_false_iff_eq.mpr c12
        clear c12
        simp only [Option.some.injEq, Prod.mk.injEq] at H
        obtain ⟨rfl, rfl⟩ := H
        go_wp2
        go_ret
        exact ⟨eW, iX HI0.out, bS (IsS75.ge HI0.out), kX⟩
       rw [if_pos c11] at H
       have c11b0 : (t106 == 5) = true := beq_iff_eq.mpr c11
       have c11b1 : (t106 != 5) = false := bne_eq_false_iff_eq.mpr c11
       clear c11
       simp only [Option.some.injEq, Prod.mk.injEq] at H
       obtain ⟨rfl, rfl⟩ := H
       go_wp2
       go_ret
       exact ⟨eW, iX HI0.out, bS (IsS75.ge HI0.out), kX⟩
      subst c10
      rw [if_pos rfl] at H
      simp only [Option.some.injEq, Prod.mk.injEq] at H
      obtain ⟨rfl, rfl⟩ := H
      go_wp2
      go_ret
      exact ⟨eW, iX HI0.out, bS (IsS75.ge HI0.out), kX⟩
   subst c7
   rw [if_pos rfl] at H
   simp only [Option.some.injEq, Prod.mk.injEq] at H
   obtain ⟨rfl, rfl⟩ := H
   go_wp2
   go_ret
   exact ⟨eW, iX HI0.out, bS (IsS75.ge HI0.out), kX⟩
def cc_Value.f (k : Nat) (s0_0 : List Int) (s0_1 : Int) (a1 : Int) : Option (Int × Int × ByteArray × Int) := if a1 = 3 then ((cc_Int.f s0_0 s0_1 2).bind fun bt109 => (some (a1, bt109.1, (⟨#[]⟩ : ByteArray), bt109.2))) else (if a1 = 4 then ((cc_Number.f s0_0 s0_1).bind fun bt111 => (some (a1, bt111.1, (⟨#[]⟩ : ByteArray), bt111.2))) else ((cc_Text.f k s0_0 s0_1).bind fun bt113 => (some (5, 0, bt113.1, bt113.2))))
set_option maxHeartbeats 8000000 in
set_option maxRecDepth 100000 in
theorem cc_Value.calls (k : Nat) (g : Nat) (s0_0 : List Int) (s0_1 : Int) (a1 : Int) (r1 : Int) (r2 : Int) (r3 : ByteArray) (r4 : Int) (w0 w : World) (hI : IsS75 w0 w g s0_0 s0_1) (hB : Below w0.heap.size w0 w) (h : cc_Value.f k s0_0 s0_1 a1 = some (r1, r2, r3, r4)) :
  Calls Try.prog 74 #[.pointer (some ⟨g, 0, none⟩), .int .i64 a1] w fun e w' => e = .returned (.agg #[.int .i64 r1, .int .i64 r2, .string r3]) ∧ IsS75 w0 w' g s0_0 r4 ∧ Below w0.heap.size w0 w' ∧ KeepBut w w' g none := by
 have hu24 := Try.underlying24
 have HI0 := Aside0.mk hI
 have HK := aK (KeepBut.refl w g none)
 have HL := Aside0.mk hB.size
 clear hI
 have HW0 := Aside0.mk hB.size
 have HB := Aside0.mk hB
 clear hB
 have H : (if a1 = 3 then ((cc_Int.f s0_0 s0_1 2).bind fun bt109 => (some (a1, bt109.1, (⟨#[]⟩ : ByteArray), bt109.2))) else (if a1 = 4 then ((cc_Number.f s0_0 s0_1).bind fun bt111 => (some (a1, bt111.1, (⟨#[]⟩ : ByteArray), bt111.2))) else ((cc_Text.f k s0_0 s0_1).bind fun bt113 => (some (5, 0, bt113.1, bt113.2))))) = some (r1, r2, r3, r4) := h
 clear h
 by_cases c3 : a1 = 3
 rotate_left
 ·rw [if_neg c3] at H
  have c3b0 : (a1 == 3) = false := beq_eq_false_iff_ne.mpr c3
  have c3b1 : (a1 != 3) = true := bne_iff_ne.mpr c3
  by_cases c9 : a1 = 4
  rotate_left
  ·rw [if_neg c9] at H
   have c9b0 : (a1 == 4) = false := beq_eq_false_iff_ne.mpr c9
   have c9b1 : (a1 != 4) = true := bne_iff_ne.mpr c9
   obtain ⟨⟨t113, t114⟩, A15, H⟩ := oB H
   try dsimp only at H
   simp only [Option.some.injEq, Prod.mk.injEq] at H
   obtain ⟨rfl, rfl, rfl, rfl⟩ := H
   go_enter Try.func74, Try.ntmps74
   go_wp2_with (first | ((with_reducible refine gate_dst (N := 4) rfl ?_); refine box_event ?hg (N := 4) ?hd (cs := #[.int .i64 0, .int .i64 0, .string (⟨#[]⟩ : ByteArray)]) (t := 24) ?hr ?_; (case hd => rfl); (case hg => rfl); (case hr => exact hR); intro gb108 hg w16 hbox hb; have n0_ := aK (IsS75.below (iX HI0.out) hb); have n1_ := aK (KeepBut.trans kX (KeepBut.of_below hb g none) (.inl rfl)); have n2_ := aK (below_step (bS (IsS75.ge HI0.out)) hb); have n3_ := aK (hbox); have n4_ := aK ((by rw [hg]; exact (keep_size (w := w) (g := g) (row := none) kX) : w.heap.size ≤ gb108)); have n5_ := aK ((Nat.le_trans HW0.out (by rw [hg]; exact (keep_size (w := w) (g := g) (row := none) kX) : w.heap.size ≤ gb108) : w0.heap.size ≤ gb108)); have n6_ := aK ((by rw [hg]; exact Nat.ne_of_lt (IsS75.lt (show IsS75 w0 _ g s0_0 s0_1 from iX HI0.out)) : g ≠ gb108)); have n7_ := aK ((by rw [hg]; exact Nat.ne_of_gt (IsS75.lt (show IsS75 w0 _ g s0_0 s0_1 from iX HI0.out)) : gb108 ≠ g)); clear HI0 HK HB; have HI0 := n0_; have HK := n1_; have HB := n2_; have BK108 := n3_; have GW108 := n4_; have GE108 := n5_; have NB0_108 := n6_; have NB108_0 := n7_; clear n0_ n1_ n2_ n3_ n4_ n5_ n6_ n7_ hb hbox hg) | ((with_reducible refine gate_callee (f := 95) rfl ?_); refine gL (some 19) rfl Try.func95 #[.pointer (some ⟨g, 0, none⟩)] rfl ?_; (with_reducible refine (cc_Text.calls k g s0_0 s0_1 t113 t114 w0 _ ?side1 ?side2 A15.out).mono ?_); (case side1 => exact iF HI0.out NB0_108.out); (case side2 => exact bT (IsS75.ge HI0.out) GE108.out); rintro e w17 ⟨rfl, hi, hb, hk⟩; refine ⟨_, rfl, ?_⟩; have n0_ := aK (KeepBut.blk hk (g' := gb108) (o := .cells #[.int .i64 0, .int .i64 0, .string (⟨#[]⟩ : ByteArray)] 24 (0, 0)) (bX BK108.out) NB108_0.out (by simp)); have n1_ := aK (KeepBut.trans (by repeat (first | (with_reducible first | exact HK.out | apply KeepBut.set_ | apply keep_drewN | apply keep_drew | apply keep_alloc | refine keep_far ?_ GW108.out _) | exact HK.out)) hk (.inl rfl)); have n2_ := aK (hb); have n3_ := aK (hi); clear BK108 HK HB HI0; have BK108 := n0_; have HK := n1_; have HB := n2_; have HI0 := n3_; clear n0_ n1_ n2_ n3_; (try clear hb hk hi); have hnb18 := NB108_0.out; have hnc18 := NB0_108.out; obtain ⟨hcz19_0, hcz19_1, hcz19_2⟩ := z3 BK108.out (.int .i64 0) (.int .i64 0) (.string (⟨#[]⟩ : ByteArray)); obtain ⟨hfz19_0, hfz19_1, hfz19_2⟩ := f3 BK108.out))
   refine bodyPost_ret (results_cell_row rfl _ _ gb108 24 #[.int .i64 5, .int .i64 0, .string t113] (0, 0) _ rfl (by (with_reducible repeat (first | refine blk_drewN ?_ _ | refine blk_drew ?_ | refine blk_alloc ?_ _)); refine blk_put (cs := #[.int .i64 5, .int .i64 0, .string (⟨#[]⟩ : ByteArray)]) ?_ 2 _ rfl; (with_reducible repeat (first | refine blk_drewN ?_ _ | refine blk_drew ?_ | refine blk_alloc ?_ _)); refine blk_put (cs := #[.int .i64 5, .int .i64 0, .string (⟨#[]⟩ : ByteArray)]) ?_ 1 _ rfl; (with_reducible repeat (first | refine blk_drewN ?_ _ | refine blk_drew ?_ | refine blk_alloc ?_ _)); refine blk_put (cs := #[.int .i64 0, .int .i64 0, .string (⟨#[]⟩ : ByteArray)]) ?_ 0 _ rfl; (with_reducible repeat (first | refine blk_drewN ?_ _ | refine blk_drew ?_ | refine blk_alloc ?_ _)); exact BK108.out) Try.underlying24 rfl (by kernel_rfl)) rfl ?_
   exact ⟨eW, iF HI0.out NB0_108.out, bT (IsS75.ge HI0.out) GE108.out, by repeat (first | (with_reducible first | exact HK.out | apply KeepBut.set_ | apply keep_drewN | apply keep_drew | apply keep_alloc | refine keep_far ?_ GW108.out _) | exact HK.out)⟩
  rw [if_pos c9] at H
  have c9b0 : (a1 == 4) = true := beq_iff_eq.mpr c9
  have c9b1 : (a1 != 4) = false := bne_eq_false_iff_eq.mpr c9
  clear c9
  obtain ⟨⟨t111, t112⟩, A10, H⟩ := oB H
  try dsimp only at H
  simp only [Option.some.injEq, Prod.mk.injEq] at H
  obtain ⟨rfl, rfl, rfl, rfl⟩ := H
  go_enter Try.func74, Try.ntmps74
  go_wp2_with (first | ((with_reducible refine gate_dst (N := 4) rfl ?_); refine box_event ?hg (N := 4) ?hd (cs := #[.int .i64 0, .int .i64 0, .string (⟨#[]⟩ : ByteArray)]) (t := 24) ?hr ?_; (case hd => rfl); (case hg => rfl); (case hr => exact hR); intro gb108 hg w11 hbox hb; have n0_ := aK (IsS75.below (iX HI0.out) hb); have n1_ := aK (KeepBut.trans kX (KeepBut.of_below hb g none) (.inl rfl)); have n2_ := aK (below_step (bS (IsS75.ge HI0.out)) hb); have n3_ := aK (hbox); have n4_ := aK ((by rw [hg]; exact (keep_size (w := w) (g := g) (row := none) kX) : w.heap.size ≤ gb108)); have n5_ := aK ((Nat.le_trans HW0.out (by rw [hg]; exact (keep_size (w := w) (g := g) (row := none) kX) : w.heap.size ≤ gb108) : w0.heap.size ≤ gb108)); have n6_ := aK ((by rw [hg]; exact Nat.ne_of_lt (IsS75.lt (show IsS75 w0 _ g s0_0 s0_1 from iX HI0.out)) : g ≠ gb108)); have n7_ := aK ((by rw [hg]; exact Nat.ne_of_gt (IsS75.lt (show IsS75 w0 _ g s0_0 s0_1 from iX HI0.out)) : gb108 ≠ g)); clear HI0 HK HB; have HI0 := n0_; have HK := n1_; have HB := n2_; have BK108 := n3_; have GW108 := n4_; have GE108 := n5_; have NB0_108 := n6_; have NB108_0 := n7_; clear n0_ n1_ n2_ n3_ n4_ n5_ n6_ n7_ hb hbox hg) | ((with_reducible refine gate_callee (f := 94) rfl ?_); refine gL (some 16) rfl Try.func94 #[.pointer (some ⟨g, 0, none⟩)] rfl ?_; (with_reducible refine (cc_Number.calls g s0_0 s0_1 t111 t112 w0 _ ?side1 ?side2 A10.out).mono ?_); (case side1 => exact iF HI0.out NB0_108.out); (case side2 => exact bT (IsS75.ge HI0.out) GE108.out); rintro e w12 ⟨rfl, hi, hb, hk⟩; refine ⟨_, rfl, ?_⟩; have n0_ := aK (KeepBut.blk hk (g' := gb108) (o := .cells #[.int .i64 0, .int .i64 0, .string (⟨#[]⟩ : ByteArray)] 24 (0, 0)) (bX BK108.out) NB108_0.out (by simp)); have n1_ := aK (KeepBut.trans (by repeat (first | (with_reducible first | exact HK.out | apply KeepBut.set_ | apply keep_drewN | apply keep_drew | apply keep_alloc | refine keep_far ?_ GW108.out _) | exact HK.out)) hk (.inl rfl)); have n2_ := aK (hb); have n3_ := aK (hi); clear BK108 HK HB HI0; have BK108 := n0_; have HK := n1_; have HB := n2_; have HI0 := n3_; clear n0_ n1_ n2_ n3_; (try clear hb hk hi); have hnb13 := NB108_0.out; have hnc13 := NB0_108.out; obtain ⟨hcz14_0, hcz14_1, hcz14_2⟩ := z3 BK108.out (.int .i64 0) (.int .i64 0) (.string (⟨#[]⟩ : ByteArray)); obtain ⟨hfz14_0, hfz14_1, hfz14_2⟩ := f3 BK108.out))
  refine bodyPost_ret (results_cell_row rfl _ _ gb108 24 #[.int .i64 a1, .int .i64 t111, .string (⟨#[]⟩ : ByteArray)] (0, 0) _ rfl (by (with_reducible repeat (first | refine blk_drewN ?_ _ | refine blk_drew ?_ | refine blk_alloc ?_ _)); refine blk_put (cs := #[.int .i64 a1, .int .i64 t111, .string (⟨#[]⟩ : ByteArray)]) ?_ 2 _ rfl; (with_reducible repeat (first | refine blk_drewN ?_ _ | refine blk_drew ?_ | refine blk_alloc ?_ _)); refine blk_put (cs := #[.int .i64 a1, .int .i64 0, .string (⟨#[]⟩ : ByteArray)]) ?_ 1 _ rfl; (with_reducible repeat (first | refine blk_drewN ?_ _ | refine blk_drew ?_ | refine blk_alloc ?_ _)); refine blk_put (cs := #[.int .i64 0, .int .i64 0, .string (⟨#[]⟩ : ByteArray)]) ?_ 0 _ rfl; (with_reducible repeat (first | refine blk_drewN ?_ _ | refine blk_drew ?_ | refine blk_alloc ?_ _)); exact BK108.out) Try.underlying24 rfl (by kernel_rfl)) rfl ?_
  exact ⟨eW, iF HI0.out NB0_108.out, bT (IsS75.ge HI0.out) GE108.out, by repeat (first | (with_reducible first | exact HK.out | apply KeepBut.set_ | apply keep_drewN | apply keep_drew | apply keep_alloc | refine keep_far ?_ GW108.out _) | exact HK.out)⟩
 rw [if_pos c3] at H
 have c3b0 : (a1 == 3) = true := beq_iff_eq.mpr c3
 have c3b1 : (a1 != 3) = false := bne_eq_false_iff_eq.mpr c3
 clear c3
 obtain ⟨⟨t109, t110⟩, A4, H⟩ := oB H
 try dsimp only at H
 simp only [Option.some.injEq, Prod.mk.injEq] at H
 obtain ⟨rfl, rfl, rfl, rfl⟩ := H
 go_enter Try.func74, Try.ntmps74
 go_wp2_with (first | ((with_reducible refine gate_dst (N := 4) rfl ?_); refine box_event ?hg (N := 4) ?hd (cs := #[.int .i64 0, .int .i64 0, .string (⟨#[]⟩ : ByteArray)]) (t := 24) ?hr ?_; (case hd => rfl); (case hg => rfl); (case hr => exact hR); intro gb108 hg w5 hbox hb; have n0_ := aK (IsS75.below (iX HI0.out) hb); have n1_ := aK (KeepBut.trans kX (KeepBut.of_below hb g none) (.inl rfl)); have n2_ := aK (below_step (bS (IsS75.ge HI0.out)) hb); have n3_ := aK (hbox); have n4_ := aK ((by rw [hg]; exact (keep_size (w := w) (g := g) (row := none) kX) : w.heap.size ≤ gb108)); have n5_ := aK ((Nat.le_trans HW0.out (by rw [hg]; exact (keep_size (w := w) (g := g) (row := none) kX) : w.heap.size ≤ gb108) : w0.heap.size ≤ gb108)); have n6_ := aK ((by rw [hg]; exact Nat.ne_of_lt (IsS75.lt (show IsS75 w0 _ g s0_0 s0_1 from iX HI0.out)) : g ≠ gb108)); have n7_ := aK ((by rw [hg]; exact Nat.ne_of_gt (IsS75.lt (show IsS75 w0 _ g s0_0 s0_1 from iX HI0.out)) : gb108 ≠ g)); clear HI0 HK HB; have HI0 := n0_; have HK := n1_; have HB := n2_; have BK108 := n3_; have GW108 := n4_; have GE108 := n5_; have NB0_108 := n6_; have NB108_0 := n7_; clear n0_ n1_ n2_ n3_ n4_ n5_ n6_ n7_ hb hbox hg) | ((with_reducible refine gate_callee (f := 73) rfl ?_); refine gL (some 10) rfl Try.func73 #[.pointer (some ⟨g, 0, none⟩), .int .i64 2] rfl ?_; (with_reducible refine (cc_Int.calls g s0_0 s0_1 2 t109 t110 w0 _ ?side1 ?side2 A4.out).mono ?_); (case side1 => exact iF HI0.out NB0_108.out); (case side2 => exact bT (IsS75.ge HI0.out) GE108.out); rintro e w6 ⟨rfl, hi, hb, hk⟩; refine ⟨_, rfl, ?_⟩; have n0_ := aK (KeepBut.blk hk (g' := gb108) (o := .cells #[.int .i64 0, .int .i64 0, .string (⟨#[]⟩ : ByteArray)] 24 (0, 0)) (bX BK108.out) NB108_0.out (by simp)); have n1_ := aK (KeepBut.trans (by repeat (first | (with_reducible first | exact HK.out | apply KeepBut.set_ | apply keep_drewN | apply keep_drew | apply keep_alloc | refine keep_far ?_ GW108.out _) | exact HK.out)) hk (.inl rfl)); have n2_ := aK (hb); have n3_ := aK (hi); clear BK108 HK HB HI0; have BK108 := n0_; have HK := n1_; have HB := n2_; have HI0 := n3_; clear n0_ n1_ n2_ n3_; (try clear hb hk hi); have hnb7 := NB108_0.out; have hnc7 := NB0_108.out; obtain ⟨hcz8_0, hcz8_1, hcz8_2⟩ := z3 BK108.out (.int .i64 0) (.int .i64 0) (.string (⟨#[]⟩ : ByteArray)); obtain ⟨hfz8_0, hfz8_1, hfz8_2⟩ := f3 BK108.out))
 refine bodyPost_ret (results_cell_row rfl _ _ gb108 24 #[.int .i64 a1, .int .i64 t109, .string (⟨#[]⟩ : ByteArray)] (0, 0) _ rfl (by (with_reducible repeat (first | refine blk_drewN ?_ _ | refine blk_drew ?_ | refine blk_alloc ?_ _)); refine blk_put (cs := #[.int .i64 a1, .int .i64 t109, .string (⟨#[]⟩ : ByteArray)]) ?_ 2 _ rfl; (with_reducible repeat (first | refine blk_drewN ?_ _ | refine blk_drew ?_ | refine blk_alloc ?_ _)); refine blk_put (cs := #[.int .i64 a1, .int .i64 0, .string (⟨#[]⟩ : ByteArray)]) ?_ 1 _ rfl; (with_reducible repeat (first | refine blk_drewN ?_ _ | refine blk_drew ?_ | refine blk_alloc ?_ _)); refine blk_put (cs := #[.int .i64 0, .int .i64 0, .string (⟨#[]⟩ : ByteArray)]) ?_ 0 _ rfl; (with_reducible repeat (first | refine blk_drewN ?_ _ | refine blk_drew ?_ | refine blk_alloc ?_ _)); exact BK108.out) Try.underlying24 rfl (by kernel_rfl)) rfl ?_
 exact ⟨eW, iF HI0.out NB0_108.out, bT (IsS75.ge HI0.out) GE108.out, by repeat (first | (with_reducible first | exact HK.out | apply KeepBut.set_ | apply keep_drewN | apply keep_drew | apply keep_alloc | refine keep_far ?_ GW108.out _) | exact HK.out)⟩
def cc_Any.f (k : Nat) (s0_0 : List Int) (s0_1 : Int) : Option (Int × Int × ByteArray × Int) := (cc_Int.f s0_0 s0_1 5).bind fun bt116 => (if (wrap64 (1 + bt116.1)) < 3 then (some (wrap64 (1 + bt116.1), 0, (⟨#[]⟩ : ByteArray), bt116.2)) else ((cc_Value.f k s0_0 bt116.2 (wrap64 (1 + bt116.1))).bind fun bt118 => (some (bt118.1, bt118.2.1, bt118.2.2.1, bt118.2.2.2))))
set_option maxHeartbeats 8000000 in
set_option maxRecDepth 100000 in
theorem cc_Any.calls (k : Nat) (g : Nat) (s0_0 : List Int) (s0_1 : Int) (r1 : Int) (r2 : Int) (r3 : ByteArray) (r4 : Int) (w0 w : World) (hI : IsS75 w0 w g s0_0 s0_1) (hB : Below w0.heap.size w0 w) (h : cc_Any.f k s0_0 s0_1 = some (r1, r2, r3, r4)) :
  Calls Try.prog 19 #[.pointer (some ⟨g, 0, none⟩)] w fun e w' => e = .returned (.agg #[.int .i64 r1, .int .i64 r2, .string r3]) ∧ IsS75 w0 w' g s0_0 r4 ∧ Below w0.heap.size w0 w' ∧ KeepBut w w' g none := by
 have hu24 := Try.underlying24
 have HI0 := Aside0.mk hI
 have HK := aK (KeepBut.refl w g none)
 have HL := Aside0.mk hB.size
 clear hI
 have HW0 := Aside0.mk hB.size
 have HB := Aside0.mk hB
 clear hB
 have H : ((cc_Int.f s0_0 s0_1 5).bind fun bt116 => (if (wrap64 (1 + bt116.1)) < 3 then (some (wrap64 (1 + bt116.1), 0, (⟨#[]⟩ : ByteArray), bt116.2)) else ((cc_Value.f k s0_0 bt116.2 (wrap64 (1 + bt116.1))).bind fun bt118 => (some (bt118.1, bt118.2.1, bt118.2.2.1, bt118.2.2.2))))) = some (r1, r2, r3, r4) := h
 clear h
 obtain ⟨⟨t116, t117⟩, A2, H⟩ := oB H
 try dsimp only at H
 by_cases c3 : (wrap64 (1 + t116)) < 3
 rotate_left
 ·rw [if_neg c3] at H
  have c3b0 : decide ((wrap64 (1 + t116)) < 3) = false := decide_eq_false c3
  clear c3
  obtain ⟨⟨t118, t119, t120, t121⟩, A8, H⟩ := oB H
  try dsimp only at H
  simp only [Option.some.injEq, Prod.mk.injEq] at H
  obtain ⟨rfl, rfl, rfl, rfl⟩ := H
  go_enter Try.func19, Try.ntmps19
  go_wp2_with (first | ((with_reducible refine gate_dst (N := 2) rfl ?_); refine box_event ?hg (N := 2) ?hd (cs := #[.int .i64 0, .int .i64 0, .string (⟨#[]⟩ : ByteArray)]) (t := 24) ?hr ?_; (case hd => rfl); (case hg => rfl); (case hr => exact hR); intro gb115 hg w9 hbox hb; have n0_ := aK (IsS75.below (iX HI0.out) hb); have n1_ := aK (KeepBut.trans kX (KeepBut.of_below hb g none) (.inl rfl)); have n2_ := aK (below_step (bS (IsS75.ge HI0.out)) hb); have n3_ := aK (hbox); have n4_ := aK ((by rw [hg]; exact (keep_size (w := w) (g := g) (row := none) kX) : w.heap.size ≤ gb115)); have n5_ := aK ((Nat.le_trans HW0.out (by rw [hg]; exact (keep_size (w := w) (g := g) (row := none) kX) : w.heap.size ≤ gb115) : w0.heap.size ≤ gb115)); have n6_ := aK ((by rw [hg]; exact Nat.ne_of_lt (IsS75.lt (show IsS75 w0 _ g s0_0 s0_1 from iX HI0.out)) : g ≠ gb115)); have n7_ := aK ((by rw [hg]; exact Nat.ne_of_gt (IsS75.lt (show IsS75 w0 _ g s0_0 s0_1 from iX HI0.out)) : gb115 ≠ g)); clear HI0 HK HB; have HI0 := n0_; have HK := n1_; have HB := n2_; have BK115 := n3_; have GW115 := n4_; have GE115 := n5_; have NB0_115 := n6_; have NB115_0 := n7_; clear n0_ n1_ n2_ n3_ n4_ n5_ n6_ n7_ hb hbox hg) | ((with_reducible refine gate_callee (f := 73) rfl ?_); refine gL (some 5) rfl Try.func73 #[.pointer (some ⟨g, 0, none⟩), .int .i64 5] rfl ?_; (with_reducible refine (cc_Int.calls g s0_0 s0_1 5 t116 t117 w0 _ ?side1 ?side2 A2.out).mono ?_); (case side1 => exact iF HI0.out NB0_115.out); (case side2 => exact bT (IsS75.ge HI0.out) GE115.out); rintro e w10 ⟨rfl, hi, hb, hk⟩; refine ⟨_, rfl, ?_⟩; have n0_ := aK (KeepBut.blk hk (g' := gb115) (o := .cells #[.int .i64 0, .int .i64 0, .string (⟨#[]⟩ : ByteArray)] 24 (0, 0)) (bX BK115.out) NB115_0.out (by simp)); have n1_ := aK (KeepBut.trans (by repeat (first | (with_reducible first | exact HK.out | apply KeepBut.set_ | apply keep_drewN | apply keep_drew | apply keep_alloc | refine keep_far ?_ GW115.out _) | exact HK.out)) hk (.inl rfl)); have n2_ := aK (hb); have n3_ := aK (hi); clear BK115 HK HB HI0; have BK115 := n0_; have HK := n1_; have HB := n2_; have HI0 := n3_; clear n0_ n1_ n2_ n3_; (try clear hb hk hi)) | ((with_reducible refine gate_callee (f := 74) rfl ?_); refine gL (some 13) rfl Try.func74 #[.pointer (some ⟨g, 0, none⟩), .int .i64 (wrap64 (1 + t116))] rfl ?_; (with_reducible refine (cc_Value.calls k g s0_0 t117 (wrap64 (1 + t116)) t118 t119 t120 t121 w0 _ ?side1 ?side2 A8.out).mono ?_); (case side1 => exact iF HI0.out NB0_115.out); (case side2 => exact bT (IsS75.ge HI0.out) GE115.out); rintro e w11 ⟨rfl, hi, hb, hk⟩; refine ⟨_, rfl, ?_⟩; have n0_ := aK (KeepBut.blk hk (g' := gb115) (o := .cells #[.int .i64 0, .int .i64 0, .string (⟨#[]⟩ : ByteArray)] 24 (0, 0)) (bX BK115.out) NB115_0.out (by simp)); have n1_ := aK (KeepBut.trans (by repeat (first | (with_reducible first | exact HK.out | apply KeepBut.set_ | apply keep_drewN | apply keep_drew | apply keep_alloc | refine keep_far ?_ GW115.out _) | exact HK.out)) hk (.inl rfl)); have n2_ := aK (hb); have n3_ := aK (hi); clear BK115 HK HB HI0; have BK115 := n0_; have HK := n1_; have HB := n2_; have HI0 := n3_; clear n0_ n1_ n2_ n3_; (try clear hb hk hi); have hnb12 := NB115_0.out; have hnc12 := NB0_115.out; obtain ⟨hcz13_0, hcz13_1, hcz13_2⟩ := z3 BK115.out (.int .i64 0) (.int .i64 0) (.string (⟨#[]⟩ : ByteArray)); obtain ⟨hfz13_0, hfz13_1, hfz13_2⟩ := f3 BK115.out))
  refine bodyPost_ret (results_cell_row rfl _ _ gb115 24 #[.int .i64 t118, .int .i64 t119, .string t120] (0, 0) _ rfl (by (with_reducible repeat (first | refine blk_drewN ?_ _ | refine blk_drew ?_ | refine blk_alloc ?_ _)); refine blk_put (cs := #[.int .i64 t118, .int .i64 t119, .string (⟨#[]⟩ : ByteArray)]) ?_ 2 _ rfl; (with_reducible repeat (first | refine blk_drewN ?_ _ | refine blk_drew ?_ | refine blk_alloc ?_ _)); refine blk_put (cs := #[.int .i64 t118, .int .i64 0, .string (⟨#[]⟩ : ByteArray)]) ?_ 1 _ rfl; (with_reducible repeat (first | refine blk_drewN ?_ _ | refine blk_drew ?_ | refine blk_alloc ?_ _)); refine blk_put (cs := #[.int .i64 0, .int .i64 0, .string (⟨#[]⟩ : ByteArray)]) ?_ 0 _ rfl; (with_reducible repeat (first | refine blk_drewN ?_ _ | refine blk_drew ?_ | refine blk_alloc ?_ _)); exact BK115.out) Try.underlying24 rfl (by kernel_rfl)) rfl ?_
  exact ⟨eW, iF HI0.out NB0_115.out, bT (IsS75.ge HI0.out) GE115.out, by repeat (first | (with_reducible first | exact HK.out | apply KeepBut.set_ | apply keep_drewN | apply keep_drew | apply keep_alloc | refine keep_far ?_ GW115.out _) | exact HK.out)⟩
 rw [if_pos c3] at H
 have c3b0 : decide ((wrap64 (1 + t116)) < 3) = true := decide_eq_true c3
 clear c3
 simp only [Option.some.injEq, Prod.mk.injEq] at H
 obtain ⟨rfl, rfl, rfl, rfl⟩ := H
 go_enter Try.func19, Try.ntmps19
 go_wp2_with (first | ((with_reducible refine gate_dst (N := 2) rfl ?_); refine box_event ?hg (N := 2) ?hd (cs := #[.int .i64 0, .int .i64 0, .string (⟨#[]⟩ : ByteArray)]) (t := 24) ?hr ?_; (case hd => rfl); (case hg => rfl); (case hr => exact hR); intro gb115 hg w4 hbox hb; have n0_ := aK (IsS75.below (iX HI0.out) hb); have n1_ := aK (KeepBut.trans kX (KeepBut.of_below hb g none) (.inl rfl)); have n2_ := aK (below_step (bS (IsS75.ge HI0.out)) hb); have n3_ := aK (hbox); have n4_ := aK ((by rw [hg]; exact (keep_size (w := w) (g := g) (row := none) kX) : w.heap.size ≤ gb115)); have n5_ := aK ((Nat.le_trans HW0.out (by rw [hg]; exact (keep_size (w := w) (g := g) (row := none) kX) : w.heap.size ≤ gb115) : w0.heap.size ≤ gb115)); have n6_ := aK ((by rw [hg]; exact Nat.ne_of_lt (IsS75.lt (show IsS75 w0 _ g s0_0 s0_1 from iX HI0.out)) : g ≠ gb115)); have n7_ := aK ((by rw [hg]; exact Nat.ne_of_gt (IsS75.lt (show IsS75 w0 _ g s0_0 s0_1 from iX HI0.out)) : gb115 ≠ g)); clear HI0 HK HB; have HI0 := n0_; have HK := n1_; have HB := n2_; have BK115 := n3_; have GW115 := n4_; have GE115 := n5_; have NB0_115 := n6_; have NB115_0 := n7_; clear n0_ n1_ n2_ n3_ n4_ n5_ n6_ n7_ hb hbox hg) | ((with_reducible refine gate_callee (f := 73) rfl ?_); refine gL (some 5) rfl Try.func73 #[.pointer (some ⟨g, 0, none⟩), .int .i64 5] rfl ?_; (with_reducible refine (cc_Int.calls g s0_0 s0_1 5 t116 t117 w0 _ ?side1 ?side2 A2.out).mono ?_); (case side1 => exact iF HI0.out NB0_115.out); (case side2 => exact bT (IsS75.ge HI0.out) GE115.out); rintro e w5 ⟨rfl, hi, hb, hk⟩; refine ⟨_, rfl, ?_⟩; have n0_ := aK (KeepBut.blk hk (g' := gb115) (o := .cells #[.int .i64 0, .int .i64 0, .string (⟨#[]⟩ : ByteArray)] 24 (0, 0)) (bX BK115.out) NB115_0.out (by simp)); have n1_ := aK (KeepBut.trans (by repeat (first | (with_reducible first | exact HK.out | apply KeepBut.set_ | apply keep_drewN | apply keep_drew | apply keep_alloc | refine keep_far ?_ GW115.out _) | exact HK.out)) hk (.inl rfl)); have n2_ := aK (hb); have n3_ := aK (hi); clear BK115 HK HB HI0; have BK115 := n0_; have HK := n1_; have HB := n2_; have HI0 := n3_; clear n0_ n1_ n2_ n3_; (try clear hb hk hi); have hnb6 := NB115_0.out; have hnc6 := NB0_115.out; obtain ⟨hcz7_0, hcz7_1, hcz7_2⟩ := z3 BK115.out (.int .i64 0) (.int .i64 0) (.string (⟨#[]⟩ : ByteArray)); obtain ⟨hfz7_0, hfz7_1, hfz7_2⟩ := f3 BK115.out))
 refine bodyPost_ret (results_cell_row rfl _ _ gb115 24 #[.int .i64 (wrap64 (1 + t116)), .int .i64 0, .string (⟨#[]⟩ : ByteArray)] (0, 0) _ rfl (by (with_reducible repeat (first | refine blk_drewN ?_ _ | refine blk_drew ?_ | refine blk_alloc ?_ _)); refine blk_put (cs := #[.int .i64 (wrap64 (1 + t116)), .int .i64 0, .string (⟨#[]⟩ : ByteArray)]) ?_ 2 _ rfl; (with_reducible repeat (first | refine blk_drewN ?_ _ | refine blk_drew ?_ | refine blk_alloc ?_ _)); refine blk_put (cs := #[.int .i64 (wrap64 (1 + t116)), .int .i64 0, .string (⟨#[]⟩ : ByteArray)]) ?_ 1 _ rfl; (with_reducible repeat (first | refine blk_drewN ?_ _ | refine blk_drew ?_ | refine blk_alloc ?_ _)); refine blk_put (cs := #[.int .i64 0, .int .i64 0, .string (⟨#[]⟩ : ByteArray)]) ?_ 0 _ rfl; (with_reducible repeat (first | refine blk_drewN ?_ _ | refine blk_drew ?_ | refine blk_alloc ?_ _)); exact BK115.out) Try.underlying24 rfl (by kernel_rfl)) rfl ?_
 exact ⟨eW, iF HI0.out NB0_115.out, bT (IsS75.ge HI0.out) GE115.out, by repeat (first | (with_reducible first | exact HK.out | apply KeepBut.set_ | apply keep_drewN | apply keep_drew | apply keep_alloc | refine keep_far ?_ GW115.out _) | exact HK.out)⟩
theorem below2 (w : World) (o p : Obj) : Below w.heap.size w ((w.alloc o).alloc p) := (bg2 w o p).toBelow
def r1_Compare.f (a0_0 : Int) (a0_1 : Int) (a0_2 : ByteArray) (a1_0 : Int) (a1_1 : Int) (a1_2 : ByteArray) : Option (Int) := if a0_0 < a1_0 then (some (-1)) else (if a0_0 > a1_0 then (some 1) else (if a0_1 < a1_1 then (some (-1)) else (if a0_1 > a1_1 then (some 1) else (if (Op.bytesLess a0_2.toList a1_2.toList) = true then (some (-1)) else (if (a0_2.toList == a1_2.toList) = true then (some 0) else (some 1))))))
set_option maxHeartbeats 400000 in
theorem r1_Compare.calls (a0_0 : Int) (a0_1 : Int) (a0_2 : ByteArray) (a1_0 : Int) (a1_1 : Int) (a1_2 : ByteArray) (r : Int) (w : World) (h : r1_Compare.f a0_0 a0_1 a0_2 a1_0 a1_1 a1_2 = some r) :
  Calls Try.prog 26 #[.agg #[.int .i64 a0_0, .int .i64 a0_1, .string a0_2], .agg #[.int .i64 a1_0, .int .i64 a1_1, .string a1_2]] w fun e w' => e = .returned (.int .i64 r) ∧ Below w.heap.size w w' := by
 have hu24 := Try.underlying24
 unfold r1_Compare.f at h
 by_cases c3 : a0_0 < a1_0
 rotate_left
 ·rw [if_neg c3] at h
  by_cases c4 : a0_0 > a1_0
  rotate_left
  ·rw [if_neg c4] at h
   by_cases c5 : a0_1 < a1_1
   rotate_left
   ·rw [if_neg c5] at h
    by_cases c6 : a0_1 > a1_1
    rotate_left
    ·rw [if_neg c6] at h
     cases hb : Op.bytesLess a0_2.toList a1_2.toList
     ·rw [hb, if_neg (by decide)] at h
      cases hb2 : a0_2.toList == a1_2.toList
      all_goals
       rw [hb2] at h; cases h
       go_enter Try.func26, Try.ntmps26
       go_wp2
       go_ret
       exact ⟨rfl, below2 _ _ _⟩
     ·rw [hb] at h; cases h
      go_enter Try.func26, Try.ntmps26
      go_wp2
      go_ret
      exact ⟨rfl, below2 _ _ _⟩
    rw [if_pos c6] at h; cases h
    go_enter Try.func26, Try.ntmps26
    go_wp2
    go_ret
    exact ⟨rfl, below2 _ _ _⟩
   rw [if_pos c5] at h; cases h
   go_enter Try.func26, Try.ntmps26
   go_wp2
   go_ret
   exact ⟨rfl, below2 _ _ _⟩
  rw [if_pos c4] at h; cases h
  go_enter Try.func26, Try.ntmps26
  go_wp2
  go_ret
  exact ⟨rfl, below2 _ _ _⟩
 rw [if_pos c3] at h; cases h
 go_enter Try.func26, Try.ntmps26
 go_wp2
 go_ret
 exact ⟨rfl, below2 _ _ _⟩
def r1_Valid.j0 : Nat → Int → Bool → Int → Int → ByteArray → Option (Bool)
 | 0, _, _, _, _, _ => none
 | k + 1, x4, x5, x254000, x254001, x254002 => if x5 = true then (if x254001 = 0 then (some (x254002.toList == ([] : List UInt8))) else (some false)) else (if x4 = 3 then (if x254001 = 0 then (some (x254002.toList == ([] : List UInt8))) else (if x254001 = 1 then (some (x254002.toList == ([] : List UInt8))) else (some false))) else (if x4 = 4 then (some (x254002.toList == ([] : List UInt8))) else (if x4 = 5 then (if x254001 = 0 then (some (decide ((x254002.size : Int) ≤ 64))) else (some false)) else (some false))))
def r1_Valid.f (k : Nat) (a0_0 : Int) (a0_1 : Int) (a0_2 : ByteArray) : Option (Bool) := if a0_0 = 1 then (r1_Valid.j0 k a0_0 (a0_0 == 1) a0_0 a0_1 a0_2) else (r1_Valid.j0 k a0_0 (a0_0 == 2) a0_0 a0_1 a0_2)
set_option maxHeartbeats 8000000 in
set_option maxRecDepth 100000 in
theorem r1_Valid.calls (k : Nat) (a0_0 : Int) (a0_1 : Int) (a0_2 : ByteArray) (r : Bool) (w : World) (h : r1_Valid.f k a0_0 a0_1 a0_2 = some r) :
  Calls Try.prog 23 #[.agg #[.int .i64 a0_0, .int .i64 a0_1, .string a0_2]] w fun e w' => e = .returned (.bool r) ∧ Below w.heap.size w w' := by
 have hu24 := Try.underlying24
 have HB := aK (Below.refl w.heap.size w)
 have H : (if a0_0 = 1 then (r1_Valid.j0 k a0_0 (a0_0 == 1) a0_0 a0_1 a0_2) else (r1_Valid.j0 k a0_0 (a0_0 == 2) a0_0 a0_1 a0_2)) = some r := h
 clear h
 have HC2 := Aside0.mk H
 clear H
 go_enter Try.func23, Try.ntmps23
 go_upto_if 5 with (first | ((with_reducible refine gate_dst (N := 1) rfl ?_); (try (refine gate_guard (by rfl) ?_; dsimp only)); refine box_event ?hg (N := 1) ?hd (cs := #[.int .i64 a0_0, .int .i64 a0_1, .string a0_2]) (t := 24) ?hr ?_; (case hd => rfl); (case hg => rfl); (case hr => exact hR); intro gb253 hg w3 hbox hb; have n0_ := aK (below_step bO hb); have n1_ := aK (hbox); have n2_ := aK ((by rw [hg]; exact (below_size bO) : w.heap.size ≤ gb253)); have n3_ := aK ((by rw [hg]; exact (below_size bO) : w.heap.size ≤ gb253)); clear HB; have HB := n0_; have BK253 := n1_; have GW253 := n2_; have GE253 := n3_; clear n0_ n1_ n2_ n3_ hb hbox hg; obtain ⟨hcz4_0, hcz4_1, hcz4_2⟩ := z3 BK253.out (.int .i64 a0_0) (.int .i64 a0_1) (.string a0_2); obtain ⟨hfz4_0, hfz4_1, hfz4_2⟩ := f3 BK253.out))
 (try simp only [Act.put, List.setIfInBounds_toArray, List.set_cons_zero, List.set_cons_succ])
 go_cut [5] (fun v5 wc => ∃ (kq : Nat) (x5_1 : Bool), v5 = .bool x5_1 ∧ Aside0 (r1_Valid.j0 kq a0_0 x5_1 a0_0 a0_1 a0_2 = some r) ∧ Aside0 (kq ≤ k) ∧ Aside0 (wc.heap[gb253]? = some (.cells #[.int .i64 a0_0, .int .i64 a0_1, .string a0_2] 24 (0, 0))) ∧ Aside0 (Below w.heap.size w wc))
 case first =>
  have H := HC2.out
  clear HC2
  by_cases c5 : a0_0 = 1
  rotate_left
  ·rw [if_neg c5] at H
   have c5b0 : (a0_0 == 1) = false := beq_eq_false_iff_ne.mpr c5
   have c5b1 : (a0_0 != 1) = true := bne_iff_ne.mpr c5
   (first | rw [c5b0] | (simp only [i64_w, i32_w]; rw [c5b0]) | skip)
   have H' := Aside0.mk H
   clear H
   go_wp2
   go_meet
   case rel => exact ⟨_, ((a0_0 == 2)), (by first | rfl | (simp; done) | (simp [*]; done)), H', ⟨by first | omega | exact Nat.le_refl _⟩, ⟨by (with_reducible repeat (first | refine blk_drewN ?_ _ | refine blk_drew ?_ | refine blk_alloc ?_ _)); exact BK253.out⟩, ⟨bS GE253.out⟩⟩
  rw [if_pos c5] at H
  have c5b0 : (a0_0 == 1) = true := beq_iff_eq.mpr c5
  have c5b1 : (a0_0 != 1) = false := bne_eq_false_iff_eq.mpr c5
  clear c5
  (first | rw [c5b0] | (simp only [i64_w, i32_w]; rw [c5b0]) | skip)
  have H' := Aside0.mk H
  clear H
  go_wp2
  go_meet
  case rel => exact ⟨_, ((a0_0 == 1)), (by first | rfl | (simp; done) | (simp [*]; done)), H', ⟨by first | omega | exact Nat.le_refl _⟩, ⟨by (with_reducible repeat (first | refine blk_drewN ?_ _ | refine blk_drew ?_ | refine blk_alloc ?_ _)); exact BK253.out⟩, ⟨bS GE253.out⟩⟩
 case rest =>
  clear HC2
  try clear c2
  try clear p2
  try clear c5
  try clear c5b0
  try clear c5b1
  try clear hcz4_0
  try clear hcz4_1
  try clear hcz4_2
  try clear hfz4_0
  try clear hfz4_1
  try clear hfz4_2
  obtain ⟨kq, x5_1, rfl, HA, HJ1, BK253, HB⟩ := hcut
  cases kq with
  | zero => exact absurd HA.out (by simp [r1_Valid.j0])
  | succ kj1 =>
   have H := HA.out
   clear HA
   simp only [r1_Valid.j0] at H
   by_cases c6 : x5_1 = true
   rotate_left
   ·replace c6 := Bool.eq_false_iff.mpr c6
    subst c6
    rw [if_neg (show ¬ (false = true) by decide)] at H
    by_cases c10 : a0_0 = 3
    rotate_left
    ·rw [if_neg c10] at H
     have c10b0 : (a0_0 == 3) = false := beq_eq_false_iff_ne.mpr c10
     have c10b1 : (a0_0 != 3) = true := bne_iff_ne.mpr c10
     by_cases c16 : a0_0 = 4
     rotate_left
     ·rw [if_neg c16] at H
      have c16b0 : (a0_0 == 4) = false := beq_eq_false_iff_ne.mpr c16
      have c16b1 : (a0_0 != 4) = true := bne_iff_ne.mpr c16
      by_cases c18 : a0_0 = 5
      rotate_left
      ·rw [if_neg c18] at H
       have c18b0 : (a0_0 == 5) = false := beq_eq_false_iff_ne.mpr c18
       have c18b1 : (a0_0 != 5) = true := bne_iff_ne.mpr c18
       obtain rfl := Option.some.inj H
       go_wp2
       go_ret
       exact ⟨eW, bS GE253.out⟩
      rw [if_pos c18] at H
      have c18b0 : (a0_0 == 5) = true := beq_iff_eq.mpr c18
      have c18b1 : (a0_0 != 5) = false := bne_eq_false_iff_eq.mpr c18
      clear c18
      by_cases c19 : a0_1 = 0
      rotate_left
      ·rw [if_neg c19] at H
       have c19b0 : (a0_1 == 0) = false := beq_eq_false_iff_ne.mpr c19
       have c19b1 : (a0_1 != 0) = true := bne_iff_ne.mpr c19
       obtain rfl := Option.some.inj H
       obtain ⟨hcz21_0, hcz21_1, hcz21_2⟩ := z3 BK253.out (.int .i64 a0_0) (.int .i64 a0_1) (.string a0_2)
       obtain ⟨hfz21_0, hfz21_1, hfz21_2⟩ := f3 BK253.out
       go_wp2
       go_ret
       exact ⟨eW, bS GE253.out⟩
      rw [if_pos c19] at H
      have c19b0 : (a0_1 == 0) = true := beq_iff_eq.mpr c19
      have c19b1 : (a0_1 != 0) = false := bne_eq_false_iff_eq.mpr c19
      clear c19
      obtain rfl := Option.some.inj H
      obtain ⟨hcz20_0, hcz20_1, hcz20_2⟩ := z3 BK253.out (.int .i64 a0_0) (.int .i64 a0_1) (.string a0_2)
      obtain ⟨hfz20_0, hfz20_1, hfz20_2⟩ := f3 BK253.out
      go_wp2
      go_ret
      exact ⟨eW, bS GE253.out⟩
     rw [if_pos c16] at H
     have c16b0 : (a0_0 == 4) = true := beq_iff_eq.mpr c16
     have c16b1 : (a0_0 != 4) = false := bne_eq_false_iff_eq.mpr c16
     clear c16
     obtain rfl := Option.some.inj H
     obtain ⟨hcz17_0, hcz17_1, hcz17_2⟩ := z3 BK253.out (.int .i64 a0_0) (.int .i64 a0_1) (.string a0_2)
     obtain ⟨hfz17_0, hfz17_1, hfz17_2⟩ := f3 BK253.out
     go_wp2
     go_ret
     exact ⟨eW, bS GE253.out⟩
    rw [if_pos c10] at H
    have c10b0 : (a0_0 == 3) = true := beq_iff_eq.mpr c10
    have c10b1 : (a0_0 != 3) = false := bne_eq_false_iff_eq.mpr c10
    clear c10
    by_cases c11 : a0_1 = 0
    rotate_left
    ·rw [if_neg c11] at H
     have c11b0 : (a0_1 == 0) = false := beq_eq_false_iff_ne.mpr c11
     have c11b1 : (a0_1 != 0) = true := bne_iff_ne.mpr c11
     by_cases c13 : a0_1 = 1
     rotate_left
     ·rw [if_neg c13] at H
      have c13b0 : (a0_1 == 1) = false := beq_eq_false_iff_ne.mpr c13
      have c13b1 : (a0_1 != 1) = true := bne_iff_ne.mpr c13
      obtain rfl := Option.some.inj H
      obtain ⟨hcz15_0, hcz15_1, hcz15_2⟩ := z3 BK253.out (.int .i64 a0_0) (.int .i64 a0_1) (.string a0_2)
      obtain ⟨hfz15_0, hfz15_1, hfz15_2⟩ := f3 BK253.out
      go_wp2
      go_ret
      exact ⟨eW, bS GE253.out⟩
     rw [if_pos c13] at H
     have c13b0 : (a0_1 == 1) = true := beq_iff_eq.mpr c13
     have c13b1 : (a0_1 != 1) = false := bne_eq_false_iff_eq.mpr c13
     clear c13
     obtain rfl := Option.some.inj H
     obtain ⟨hcz14_0, hcz14_1, hcz14_2⟩ := z3 BK253.out (.int .i64 a0_0) (.int .i64 a0_1) (.string a0_2)
     obtain ⟨hfz14_0, hfz14_1, hfz14_2⟩ := f3 BK253.out
     go_wp2
     go_ret
     exact ⟨eW, bS GE253.out⟩
    rw [if_pos c11] at H
    have c11b0 : (a0_1 == 0) = true := beq_iff_eq.mpr c11
    have c11b1 : (a0_1 != 0) = false := bne_eq_false_iff_eq.mpr c11
    clear c11
    obtain rfl := Option.some.inj H
    obtain ⟨hcz12_0, hcz12_1, hcz12_2⟩ := z3 BK253.out (.int .i64 a0_0) (.int .i64 a0_1) (.string a0_2)
    obtain ⟨hfz12_0, hfz12_1, hfz12_2⟩ := f3 BK253.out
    go_wp2
    go_ret
    exact ⟨eW, bS GE253.out⟩
   subst c6
   rw [if_pos rfl] at H
   by_cases c7 : a0_1 = 0
   rotate_left
   ·rw [if_neg c7] at H
    have c7b0 : (a0_1 == 0) = false := beq_eq_false_iff_ne.mpr c7
    have c7b1 : (a0_1 != 0) = true := bne_iff_ne.mpr c7
    obtain rfl := Option.some.inj H
    obtain ⟨hcz9_0, hcz9_1, hcz9_2⟩ := z3 BK253.out (.int .i64 a0_0) (.int .i64 a0_1) (.string a0_2)
    obtain ⟨hfz9_0, hfz9_1, hfz9_2⟩ := f3 BK253.out
    go_wp2
    go_ret
    exact ⟨eW, bS GE253.out⟩
   rw [if_pos c7] at H
   have c7b0 : (a0_1 == 0) = true := beq_iff_eq.mpr c7
   have c7b1 : (a0_1 != 0) = false := bne_eq_false_iff_eq.mpr c7
   clear c7
   obtain rfl := Option.some.inj H
   obtain ⟨hcz8_0, hcz8_1, hcz8_2⟩ := z3 BK253.out (.int .i64 a0_0) (.int .i64 a0_1) (.string a0_2)
   obtain ⟨hfz8_0, hfz8_1, hfz8_2⟩ := f3 BK253.out
   go_wp2
   go_ret
   exact ⟨eW, bS GE253.out⟩
def r3_Between.j0 : Nat → Bool → Int → Int → ByteArray → Int → Int → ByteArray → Option ((List (S65)) × Int)
 | 0, _, _, _, _, _, _, _ => none
 | k + 1, x13, x348000, x348001, x348002, x349000, x349001, x349002 => if x13 = true then (some (([] : List (S65)), 10)) else ((r1_Compare.f x348000 x348001 x348002 x349000 x349001 x349002).bind fun t351 => (if t351 ≥ 0 then (some (([] : List (S65)), 0)) else (some ((([(⟨(⟨x348000, x348001, x348002⟩ : S24), (⟨x349000, x349001, x349002⟩ : S24), false⟩ : S65)] : List (S65))), 0))))
def r3_Between.f (k : Nat) (a0_0 : Int) (a0_1 : Int) (a0_2 : ByteArray) (a1_0 : Int) (a1_1 : Int) (a1_2 : ByteArray) : Option ((List (S65)) × Int) := (r1_Valid.f k a0_0 a0_1 a0_2).bind fun t349 => (if t349 = true then ((r1_Valid.f k a1_0 a1_1 a1_2).bind fun t350 => (r3_Between.j0 k (!t350) a0_0 a0_1 a0_2 a1_0 a1_1 a1_2)) else (r3_Between.j0 k true a0_0 a0_1 a0_2 a1_0 a1_1 a1_2))
set_option maxHeartbeats 8000000 in
set_option maxRecDepth 100000 in
theorem r3_Between.calls (k : Nat) (a0_0 : Int) (a0_1 : Int) (a0_2 : ByteArray) (a1_0 : Int) (a1_1 : Int) (a1_2 : ByteArray) (r1 : List (S65)) (r2 : Int) (w : World) (h : r3_Between.f k a0_0 a0_1 a0_2 a1_0 a1_1 a1_2 = some (r1, r2)) :
  Calls Try.prog 39 #[.agg #[.int .i64 a0_0, .int .i64 a0_1, .string a0_2], .agg #[.int .i64 a1_0, .int .i64 a1_1, .string a1_2]] w fun e w' => ∃ v0_ : Value, e = .returned (.tuple #[v0_, .int .i64 r2]) ∧ Kd.R k65 65 w' w.heap.size (fun _ => True) v0_ r1 ∧ Below w.heap.size w w' := by
 have hu24 := Try.underlying24
 have hu65 := Try.underlying65
 have HB := aK (Below.refl w.heap.size w)
 have H : ((r1_Valid.f k a0_0 a0_1 a0_2).bind fun t349 => (if t349 = true then ((r1_Valid.f k a1_0 a1_1 a1_2).bind fun t350 => (r3_Between.j0 k (!t350) a0_0 a0_1 a0_2 a1_0 a1_1 a1_2)) else (r3_Between.j0 k true a0_0 a0_1 a0_2 a1_0 a1_1 a1_2))) = some (r1, r2) := h
 clear h
 have HC3 := Aside0.mk H
 clear H
 go_enter Try.func39, Try.ntmps39
 go_upto_region 1 with (first | ((with_reducible refine gate_dst (N := 2) rfl ?_); refine box_event ?hg (N := 2) ?hd (cs := #[.int .i64 a0_0, .int .i64 a0_1, .string a0_2]) (t := 24) ?hr ?_; (case hd => rfl); (case hg => rfl); (case hr => exact hR); intro gb347 hg w4 hbox hb; have n0_ := aK (below_step bO hb); have n1_ := aK (hbox); have n2_ := aK ((by rw [hg]; exact (below_size bO) : w.heap.size ≤ gb347)); have n3_ := aK ((by rw [hg]; exact (below_size bO) : w.heap.size ≤ gb347)); clear HB; have HB := n0_; have BK347 := n1_; have GW347 := n2_; have GE347 := n3_; clear n0_ n1_ n2_ n3_ hb hbox hg) | ((with_reducible refine gate_dst (N := 3) rfl ?_); refine box_event ?hg (N := 3) ?hd (cs := #[.int .i64 a1_0, .int .i64 a1_1, .string a1_2]) (t := 24) ?hr ?_; (case hd => rfl); (case hg => rfl); (case hr => exact hR); intro gb348 hg w5 hbox hb; have n0_ := aK (blk_below (bX BK347.out) hb); have n1_ := aK (below_step (bS GE347.out) hb); have n2_ := aK (hbox); have n3_ := aK ((by rw [hg]; exact (below_size (bS GE347.out)) : w.heap.size ≤ gb348)); have n4_ := aK ((by rw [hg]; exact (below_size (bS GE347.out)) : w.heap.size ≤ gb348)); have n5_ := aK ((by rw [hg]; exact Nat.ne_of_lt (blk_lt (bX BK347.out)) : gb347 ≠ gb348)); have n6_ := aK ((by rw [hg]; exact Nat.ne_of_gt (blk_lt (bX BK347.out)) : gb348 ≠ gb347)); clear BK347 HB; have BK347 := n0_; have HB := n1_; have BK348 := n2_; have GW348 := n3_; have GE348 := n4_; have NB347_348 := n5_; have NB348_347 := n6_; clear n0_ n1_ n2_ n3_ n4_ n5_ n6_ hb hbox hg))
 (try simp only [Act.put, List.setIfInBounds_toArray, List.set_cons_zero, List.set_cons_succ])
 go_cut [13] (fun v13 wc => ∃ (kq : Nat) (x13_2 : Bool), v13 = .bool x13_2 ∧ Aside0 (r3_Between.j0 kq x13_2 a0_0 a0_1 a0_2 a1_0 a1_1 a1_2 = some (r1, r2)) ∧ Aside0 (kq ≤ k) ∧ Aside0 (wc.heap[gb347]? = some (.cells #[.int .i64 a0_0, .int .i64 a0_1, .string a0_2] 24 (0, 0))) ∧ Aside0 (wc.heap[gb348]? = some (.cells #[.int .i64 a1_0, .int .i64 a1_1, .string a1_2] 24 (0, 0))) ∧ Aside0 (Below w.heap.size w wc))
 case first =>
  have H := HC3.out
  clear HC3
  obtain ⟨t349, A6, H⟩ := oB H
  try dsimp only at H
  by_cases c7 : t349 = true
  rotate_left
  ·replace c7 := Bool.eq_false_iff.mpr c7
   subst c7
   rw [if_neg (show ¬ (false = true) by decide)] at H
   have H' := Aside0.mk H
   clear H
   have hnb14 := NB347_348.out
   have hnc14 := NB348_347.out
   obtain ⟨hcz15_0, hcz15_1, hcz15_2⟩ := z3 BK347.out (.int .i64 a0_0) (.int .i64 a0_1) (.string a0_2)
   obtain ⟨hfz15_0, hfz15_1, hfz15_2⟩ := f3 BK347.out
   go_wp2_with (first | ((with_reducible refine gate_callee (f := 23) rfl ?_); refine gL (some 7) rfl Try.func23 #[.agg #[.int .i64 a0_0, .int .i64 a0_1, .string a0_2]] rfl ?_; (with_reducible refine (r1_Valid.calls k a0_0 a0_1 a0_2 false _ A6.out).mono ?_); rintro e w16 ⟨rfl, hb⟩; refine ⟨_, rfl, ?_⟩; have n0_ := aK (blk_below (bX BK347.out) hb); have n1_ := aK (blk_below (bX BK348.out) hb); have n2_ := aK (below_step (bT GE347.out GE348.out) hb); clear BK347 BK348 HB; have BK347 := n0_; have BK348 := n1_; have HB := n2_; clear n0_ n1_ n2_; (try clear hb)))
   go_meet
   case rel => exact ⟨_, (true), (by first | rfl | (simp; done) | (simp [*]; done)), H', ⟨by first | omega | exact Nat.le_refl _⟩, ⟨by (with_reducible repeat (first | refine blk_drewN ?_ _ | refine blk_drew ?_ | refine blk_alloc ?_ _)); exact BK347.out⟩, ⟨by (with_reducible repeat (first | refine blk_drewN ?_ _ | refine blk_drew ?_ | refine blk_alloc ?_ _)); exact BK348.out⟩, ⟨bT GE347.out GE348.out⟩⟩
  subst c7
  rw [if_pos rfl] at H
  obtain ⟨t350, A8, H⟩ := oB H
  try dsimp only at H
  have H' := Aside0.mk H
  clear H
  have hnb9 := NB347_348.out
  have hnc9 := NB348_347.out
  obtain ⟨hcz10_0, hcz10_1, hcz10_2⟩ := z3 BK347.out (.int .i64 a0_0) (.int .i64 a0_1) (.string a0_2)
  obtain ⟨hfz10_0, hfz10_1, hfz10_2⟩ := f3 BK347.out
  go_wp2_with (first | ((with_reducible refine gate_callee (f := 23) rfl ?_); refine gL (some 7) rfl Try.func23 #[.agg #[.int .i64 a0_0, .int .i64 a0_1, .string a0_2]] rfl ?_; (with_reducible refine (r1_Valid.calls k a0_0 a0_1 a0_2 true _ A6.out).mono ?_); rintro e w11 ⟨rfl, hb⟩; refine ⟨_, rfl, ?_⟩; have n0_ := aK (blk_below (bX BK347.out) hb); have n1_ := aK (blk_below (bX BK348.out) hb); have n2_ := aK (below_step (bT GE347.out GE348.out) hb); clear BK347 BK348 HB; have BK347 := n0_; have BK348 := n1_; have HB := n2_; clear n0_ n1_ n2_; (try clear hb); obtain ⟨hcz12_0, hcz12_1, hcz12_2⟩ := z3 BK348.out (.int .i64 a1_0) (.int .i64 a1_1) (.string a1_2); obtain ⟨hfz12_0, hfz12_1, hfz12_2⟩ := f3 BK348.out) | (go_at_call 23; (with_reducible refine (r1_Valid.calls k a1_0 a1_1 a1_2 t350 _ A8.out).mono ?_); rintro e w13 ⟨rfl, hb⟩; have n0_ := aK (blk_below (bX BK347.out) hb); have n1_ := aK (blk_below (bX BK348.out) hb); have n2_ := aK (below_step (bT GE347.out GE348.out) hb); clear BK347 BK348 HB; have BK347 := n0_; have BK348 := n1_; have HB := n2_; clear n0_ n1_ n2_; (try clear hb)))
  go_meet
  case rel => exact ⟨_, (!t350), (by first | rfl | (simp; done) | (simp [*]; done)), H', ⟨by first | omega | exact Nat.le_refl _⟩, ⟨by (with_reducible repeat (first | refine blk_drewN ?_ _ | refine blk_drew ?_ | refine blk_alloc ?_ _)); exact BK347.out⟩, ⟨by (with_reducible repeat (first | refine blk_drewN ?_ _ | refine blk_drew ?_ | refine blk_alloc ?_ _)); exact BK348.out⟩, ⟨bT GE347.out GE348.out⟩⟩
 case rest =>
  clear HC3
  try clear c1
  try clear c2
  try clear p2
  try clear c3
  try clear c7
  try clear c9
  try clear c14
  try clear hcz10_0
  try clear hcz10_1
  try clear hcz10_2
  try clear hcz12_0
  try clear hcz12_1
  try clear hcz12_2
  try clear hcz15_0
  try clear hcz15_1
  try clear hcz15_2
  try clear hfz10_0
  try clear hfz10_1
  try clear hfz10_2
  try clear hfz12_0
  try clear hfz12_1
  try clear hfz12_2
  try clear hfz15_0
  try clear hfz15_1
  try clear hfz15_2
  obtain ⟨kq, x13_2, rfl, HA, HJ2, BK347, BK348, HB⟩ := hcut
  cases kq with
  | zero => exact absurd HA.out (by simp [r3_Between.j0])
  | succ kj2 =>
   have H := HA.out
   clear HA
   simp only [r3_Between.j0] at H
   by_cases c17 : x13_2 = true
   rotate_left
   ·replace c17 := Bool.eq_false_iff.mpr c17
    subst c17
    rw [if_neg (show ¬ (false = true) by decide)] at H
    obtain ⟨t351, A18, H⟩ := oB H
    try dsimp only at H
    by_cases c19 : t351 ≥ 0
    rotate_left
    ·rw [if_neg c19] at H
     have c19b0 : decide (0 ≤ t351) = false := decide_eq_false c19
     clear c19
     obtain ⟨y352, hy352⟩ : ∃ y_ : List (S65), y_ = (([(⟨(⟨a0_0, a0_1, a0_2⟩ : S24), (⟨a1_0, a1_1, a1_2⟩ : S24), false⟩ : S65)] : List (S65))) := ⟨_, rfl⟩
     replace H : (some (y352, 0)) = some (r1, r2) := by first | (rw [hy352]; with_reducible exact H) | (have H2_ := (Option.bind_some _ _).symm.trans H; rw [hy352]; with_reducible exact H2_) | (have H2_ := (Option.bind_some _ _).symm.trans H; with_reducible exact H2_) | with_reducible exact H | (rw [hy352]; exact H) | exact H
     have Ny352 := Aside0.mk hy352
     clear hy352
     simp only [Option.some.injEq, Prod.mk.injEq] at H
     obtain ⟨rfl, rfl⟩ := H
     have hnb24 := NB347_348.out
     have hnc24 := NB348_347.out
     obtain ⟨hcz25_0, hcz25_1, hcz25_2⟩ := z3 BK347.out (.int .i64 a0_0) (.int .i64 a0_1) (.string a0_2)
     obtain ⟨hfz25_0, hfz25_1, hfz25_2⟩ := f3 BK347.out
     obtain ⟨hcz26_0, hcz26_1, hcz26_2⟩ := z3 BK348.out (.int .i64 a1_0) (.int .i64 a1_1) (.string a1_2)
     obtain ⟨hfz26_0, hfz26_1, hfz26_2⟩ := f3 BK348.out
     go_wp2_with (first | ((with_reducible refine gate_callee (f := 26) rfl ?_); refine gL (some 16) rfl Try.func26 #[.agg #[.int .i64 a0_0, .int .i64 a0_1, .string a0_2], .agg #[.int .i64 a1_0, .int .i64 a1_1, .string a1_2]] rfl ?_; (with_reducible refine (r1_Compare.calls a0_0 a0_1 a0_2 a1_0 a1_1 a1_2 t351 _ A18.out).mono ?_); rintro e w27 ⟨rfl, hb⟩; refine ⟨_, rfl, ?_⟩; have n0_ := aK (blk_below (bX BK347.out) hb); have n1_ := aK (blk_below (bX BK348.out) hb); have n2_ := aK (below_step (bT GE347.out GE348.out) hb); clear BK347 BK348 HB; have BK347 := n0_; have BK348 := n1_; have HB := n2_; clear n0_ n1_ n2_; (try clear hb); obtain ⟨hcz28_0, hcz28_1, hcz28_2⟩ := z3 BK347.out (.int .i64 a0_0) (.int .i64 a0_1) (.string a0_2); obtain ⟨hfz28_0, hfz28_1, hfz28_2⟩ := f3 BK347.out; obtain ⟨hcz29_0, hcz29_1, hcz29_2⟩ := z3 BK348.out (.int .i64 a1_0) (.int .i64 a1_1) (.string a1_2); obtain ⟨hfz29_0, hfz29_1, hfz29_2⟩ := f3 BK348.out) | ((with_reducible refine gate_dst (N := 21) rfl ?_); refine Kd.R_lit k65 _ 65 ?hg (N := 21) ?hd (xs := ([(⟨(⟨a0_0, a0_1, a0_2⟩ : S24), (⟨a1_0, a1_1, a1_2⟩ : S24), false⟩ : S65)] : List (S65))) (inner := [.int .i64 a0_0, .int .i64 a0_1, .string a0_2, .int .i64 a1_0, .int .i64 a1_1, .string a1_2, .bool false]) (ok := fun _ => True) (okp := fun _ => True) ?hr ?hp (fun _ hk => hk) trivial (Below.refl _ _) (Nat.le_refl _) (by simp) ?_; (case hd => rfl); (case hg => rfl); (case hr => exact hR); (case hp => exact (Reps.c7 (show Kd.M k65 _ _ _ (⟨(⟨a0_0, a0_1, a0_2⟩ : S24), (⟨a1_0, a1_1, a1_2⟩ : S24), false⟩ : S65) [.int .i64 a0_0, .int .i64 a0_1, .string a0_2, .int .i64 a1_0, .int .i64 a1_1, .string a1_2, .bool false] from (k65_mkM _ _ _ (⟨(⟨a0_0, a0_1, a0_2⟩ : S24), (⟨a1_0, a1_1, a1_2⟩ : S24), false⟩ : S65) )) (Reps.none _ _))); intro v353 w30 ho31 hb hg_ hnew_; clear hg_ hnew_; (first | rw [← Ny352.out] at ho31 | (simp only [Int.reduceToNat] at ho31; rw [← Ny352.out] at ho31)); have n0_ := aK (Kd.R_lower ho31 (below_size (bT GE347.out GE348.out))); have n1_ := aK (blk_below (bX BK347.out) hb); have n2_ := aK (blk_below (bX BK348.out) hb); have n3_ := aK (below_step (bT GE347.out GE348.out) hb); clear BK347 BK348 HB; have HO354 := n0_; have BK347 := n1_; have BK348 := n2_; have HB := n3_; clear n0_ n1_ n2_ n3_ hb ho31))
     go_ret2
     exact ⟨_, eW, by (with_reducible repeat (first | apply Kd.R_alloc | apply Kd.R_drewN | apply Kd.R_drew)); exact HO354.out, bT GE347.out GE348.out⟩
    rw [if_pos c19] at H
    have c19b0 : decide (0 ≤ t351) = true := decide_eq_true c19
    clear c19
    simp only [Option.some.injEq, Prod.mk.injEq] at H
    obtain ⟨rfl, rfl⟩ := H
    have hnb20 := NB347_348.out
    have hnc20 := NB348_347.out
    obtain ⟨hcz21_0, hcz21_1, hcz21_2⟩ := z3 BK347.out (.int .i64 a0_0) (.int .i64 a0_1) (.string a0_2)
    obtain ⟨hfz21_0, hfz21_1, hfz21_2⟩ := f3 BK347.out
    obtain ⟨hcz22_0, hcz22_1, hcz22_2⟩ := z3 BK348.out (.int .i64 a1_0) (.int .i64 a1_1) (.string a1_2)
    obtain ⟨hfz22_0, hfz22_1, hfz22_2⟩ := f3 BK348.out
    go_wp2_with (first | ((with_reducible refine gate_callee (f := 26) rfl ?_); refine gL (some 16) rfl Try.func26 #[.agg #[.int .i64 a0_0, .int .i64 a0_1, .string a0_2], .agg #[.int .i64 a1_0, .int .i64 a1_1, .string a1_2]] rfl ?_; (with_reducible refine (r1_Compare.calls a0_0 a0_1 a0_2 a1_0 a1_1 a1_2 t351 _ A18.out).mono ?_); rintro e w23 ⟨rfl, hb⟩; refine ⟨_, rfl, ?_⟩; have n0_ := aK (blk_below (bX BK347.out) hb); have n1_ := aK (blk_below (bX BK348.out) hb); have n2_ := aK (below_step (bT GE347.out GE348.out) hb); clear BK347 BK348 HB; have BK347 := n0_; have BK348 := n1_; have HB := n2_; clear n0_ n1_ n2_; (try clear hb)))
    go_ret2
    exact ⟨_, eW, by first | exact Kd.R_nil _ _ _ _ _ | exact Kd.N_nil _ _ _ _ _ | exact Kd.V_nil _ _ _ _ _ | exact Kd.Q_nil _ _ _ _ _ | exact Kd.S_nil _ _ _ _ _, bT GE347.out GE348.out⟩
   subst c17
   rw [if_pos rfl] at H
   simp only [Option.some.injEq, Prod.mk.injEq] at H
   obtain ⟨rfl, rfl⟩ := H
   go_wp2
   go_ret2
   exact ⟨_, eW, by first | exact Kd.R_nil _ _ _ _ _ | exact Kd.N_nil _ _ _ _ _ | exact Kd.V_nil _ _ _ _ _ | exact Kd.Q_nil _ _ _ _ _ | exact Kd.S_nil _ _ _ _ _, bT GE347.out GE348.out⟩
end Go.Proofs.Ytpjcdacnhalclaa.Q
