/- A part of a proof: facts of functions that the law calls; conditions stand in each. -/
import Derived.Test.YtpjcdacnhalclaaM14x3
import Derived.Test.YtpjcdacnhalclaaM14x7
import Derived.Test.YtpjcdacnhalclaaM14x8
set_option linter.unusedVariables false
set_option linter.unusedSimpArgs false
namespace Go.Proofs.Ytpjcdacnhalclaa.Q
open Go.RowKit Go.Proofs.YtpjcdacnhalclaaW.PrintWords Go.Proofs.YtpjcdacnhalclaaW.PrintLast Go.Proofs.YtpjcdacnhalclaaW.PrintMore
attribute [local go_sem] max2_int min2_int max_two min_two max_three min_three max_four min_four
mutual
def i_merge.l0 (kp : Bool → Bool → Bool) : Nat → List (S65) → List (S65) → List (S24) → List (List (S65)) → Int → Int → Option ((List (S65)))
 | 0, _, _, _, _, _, _ => none
 | k + 1, x0, x1, x7, x21, x22, x23 => if x23 < x22 then (if 0 ≤ x23 then (if x23 < (x21.length : Int) then (i_merge.l1 kp k x0 x1 x7 x21 x22 x23 (rd_L7 x21 x23) ((rd_L7 x21 x23).length : Int) 0) else (none)) else (none)) else ((a_99.f x7).bind fun t525 => ((a_100.f t525).bind fun t526 => (i_merge.l2 kp k x0 x1 ([] : List (S65)) false t526 (t526.length : Int) 0)))
def i_merge.l1 (kp : Bool → Bool → Bool) : Nat → List (S65) → List (S65) → List (S24) → List (List (S65)) → Int → Int → List (S65) → Int → Int → Option ((List (S65)))
 | 0, _, _, _, _, _, _, _, _, _ => none
 | k + 1, x0, x1, x7, x21, x22, x23, x27, x28, x29 => if x29 < x28 then (if 0 ≤ x29 then (if x29 < (x27.length : Int) then (if x7.length < 4398046511104 then ((some (x7 ++ [(⟨(rd_T65 x27 x29).f0.f0, (rd_T65 x27 x29).f0.f1, (rd_T65 x27 x29).f0.f2⟩ : S24)] : List (S24))).bind fun y519 => (if ((rd_T65 x27 x29).f2 = true) then (i_merge.l1 kp k x0 x1 y519 x21 x22 x23 x27 x28 (wrap64 (x29 + 1))) else (if y519.length < 4398046511104 then (i_merge.l1 kp k x0 x1 (y519 ++ [(⟨(rd_T65 x27 x29).f1.f0, (rd_T65 x27 x29).f1.f1, (rd_T65 x27 x29).f1.f2⟩ : S24)]) x21 x22 x23 x27 x28 (wrap64 (x29 + 1))) else (none)))) else (none)) else (none)) else (none)) else (i_merge.l0 kp k x0 x1 x7 x21 x22 (wrap64 (x23 + 1)))
def i_merge.l2 (kp : Bool → Bool → Bool) : Nat → List (S65) → List (S65) → List (S65) → Bool → List (S24) → Int → Int → Option ((List (S65)))
 | 0, _, _, _, _, _, _, _ => none
 | k + 1, x0, x1, x12, x13, x52, x53, x54 => if x54 < x53 then (if 0 ≤ x54 then (if x54 < (x52.length : Int) then ((i_contains.f k x0 ((rd_T24 x52 x54).f0) ((rd_T24 x52 x54).f1) ((rd_T24 x52 x54).f2)).bind fun t531 => ((i_contains.f k x1 ((rd_T24 x52 x54).f0) ((rd_T24 x52 x54).f1) ((rd_T24 x52 x54).f2)).bind fun t532 => ((some (kp t531 t532)).bind fun t533 => (if t533 = true then (i_merge.j3 kp k x0 x1 x12 x13 t533 x52 x53 x54 (!x13) ((rd_T24 x52 x54).f0) ((rd_T24 x52 x54).f1) ((rd_T24 x52 x54).f2)) else (i_merge.j3 kp k x0 x1 x12 x13 t533 x52 x53 x54 false ((rd_T24 x52 x54).f0) ((rd_T24 x52 x54).f1) ((rd_T24 x52 x54).f2)))))) else (none)) else (none)) else (some x12)
def i_merge.j3 (kp : Bool → Bool → Bool) : Nat → List (S65) → List (S65) → List (S65) → Bool → Bool → List (S24) → Int → Int → Bool → Int → Int → ByteArray → Option ((List (S65)))
 | 0, _, _, _, _, _, _, _, _, _, _, _, _ => none
 | k + 1, x0, x1, x12, x13, x16, x52, x53, x54, x70, x531000, x531001, x531002 => if x70 = true then (if x12.length < 1954687338268 then ((some (x12 ++ [(⟨(⟨x531000, x531001, x531002⟩ : S24), (⟨0, 0, (⟨#[]⟩ : ByteArray)⟩ : S24), true⟩ : S65)] : List (S65))).bind fun y534 => (if x16 = true then (i_merge.l2 kp k x0 x1 y534 x16 x52 x53 (wrap64 (x54 + 1))) else (if x13 = true then (if 0 ≤ (wrap64 ((y534.length : Int) - 1)) then (if (wrap64 ((y534.length : Int) - 1)) < (y534.length : Int) then ((some (y534.set ((wrap64 ((y534.length : Int) - 1)) : Int).toNat (⟨(⟨(rd_T65 y534 (wrap64 ((y534.length : Int) - 1))).f0.f0, (rd_T65 y534 (wrap64 ((y534.length : Int) - 1))).f0.f1, (rd_T65 y534 (wrap64 ((y534.length : Int) - 1))).f0.f2⟩ : S24), (⟨(rd_T65 y534 (wrap64 ((y534.length : Int) - 1))).f1.f0, (rd_T65 y534 (wrap64 ((y534.length : Int) - 1))).f1.f1, (rd_T65 y534 (wrap64 ((y534.length : Int) - 1))).f1.f2⟩ : S24), false⟩ : S65) : List (S65))).bind fun y537 => (i_merge.l2 kp k x0 x1 (y537.set ((wrap64 ((y534.length : Int) - 1)) : Int).toNat (⟨(⟨(rd_T65 y537 (wrap64 ((y534.length : Int) - 1))).f0.f0, (rd_T65 y537 (wrap64 ((y534.length : Int) - 1))).f0.f1, (rd_T65 y537 (wrap64 ((y534.length : Int) - 1))).f0.f2⟩ : S24), (⟨x531000, x531001, x531002⟩ : S24), (rd_T65 y537 (wrap64 ((y534.length : Int) - 1))).f2⟩ : S65)) x16 x52 x53 (wrap64 (x54 + 1)))) else (none)) else (none)) else (i_merge.l2 kp k x0 x1 y534 x16 x52 x53 (wrap64 (x54 + 1)))))) else (none)) else (if x16 = true then (i_merge.l2 kp k x0 x1 x12 x16 x52 x53 (wrap64 (x54 + 1))) else (if x13 = true then (if 0 ≤ (wrap64 ((x12.length : Int) - 1)) then (if (wrap64 ((x12.length : Int) - 1)) < (x12.length : Int) then ((some (x12.set ((wrap64 ((x12.length : Int) - 1)) : Int).toNat (⟨(⟨(rd_T65 x12 (wrap64 ((x12.length : Int) - 1))).f0.f0, (rd_T65 x12 (wrap64 ((x12.length : Int) - 1))).f0.f1, (rd_T65 x12 (wrap64 ((x12.length : Int) - 1))).f0.f2⟩ : S24), (⟨(rd_T65 x12 (wrap64 ((x12.length : Int) - 1))).f1.f0, (rd_T65 x12 (wrap64 ((x12.length : Int) - 1))).f1.f1, (rd_T65 x12 (wrap64 ((x12.length : Int) - 1))).f1.f2⟩ : S24), false⟩ : S65) : List (S65))).bind fun y539 => (i_merge.l2 kp k x0 x1 (y539.set ((wrap64 ((x12.length : Int) - 1)) : Int).toNat (⟨(⟨(rd_T65 y539 (wrap64 ((x12.length : Int) - 1))).f0.f0, (rd_T65 y539 (wrap64 ((x12.length : Int) - 1))).f0.f1, (rd_T65 y539 (wrap64 ((x12.length : Int) - 1))).f0.f2⟩ : S24), (⟨x531000, x531001, x531002⟩ : S24), (rd_T65 y539 (wrap64 ((x12.length : Int) - 1))).f2⟩ : S65)) x16 x52 x53 (wrap64 (x54 + 1)))) else (none)) else (none)) else (i_merge.l2 kp k x0 x1 x12 x16 x52 x53 (wrap64 (x54 + 1)))))
end
def i_merge.f (k : Nat) (l0 : List (S65)) (l1 : List (S65)) (kp : Bool → Bool → Bool) : Option ((List (S65))) := (i_least.f).bind fun bt507 => ((some (([l0, l1] : List (List (S65))) : List (List (S65)))).bind fun y513 => (i_merge.l0 kp k l0 l1 (([(⟨bt507.1, bt507.2.1, bt507.2.2⟩ : S24)] : List (S24))) y513 (y513.length : Int) 0))
theorem i_merge.mono_l (kp : Bool → Bool → Bool) : ∀ k, (∀ y0 y1 y2 y3 y4 y5, LeO (i_merge.l0 kp k y0 y1 y2 y3 y4 y5) (i_merge.l0 kp (k + 1) y0 y1 y2 y3 y4 y5)) ∧ (∀ y0 y1 y2 y3 y4 y5 y6 y7 y8, LeO (i_merge.l1 kp k y0 y1 y2 y3 y4 y5 y6 y7 y8) (i_merge.l1 kp (k + 1) y0 y1 y2 y3 y4 y5 y6 y7 y8)) ∧ (∀ y0 y1 y2 y3 y4 y5 y6, LeO (i_merge.l2 kp k y0 y1 y2 y3 y4 y5 y6) (i_merge.l2 kp (k + 1) y0 y1 y2 y3 y4 y5 y6)) ∧ (∀ y0 y1 y2 y3 y4 y5 y6 y7 y8 y9 y10 y11, LeO (i_merge.j3 kp k y0 y1 y2 y3 y4 y5 y6 y7 y8 y9 y10 y11) (i_merge.j3 kp (k + 1) y0 y1 y2 y3 y4 y5 y6 y7 y8 y9 y10 y11))
 | 0 => ⟨fun _ _ _ _ _ _ r h => by simp [i_merge.l0] at h, fun _ _ _ _ _ _ _ _ _ r h => by simp [i_merge.l1] at h, fun _ _ _ _ _ _ _ r h => by simp [i_merge.l2] at h, fun _ _ _ _ _ _ _ _ _ _ _ _ r h => by simp [i_merge.j3] at h⟩
 | k + 1 => by
  obtain ⟨ih0, ih1, ih2, ih3⟩ := i_merge.mono_l kp k
  refine ⟨?_, ?_, ?_, ?_⟩
  ·intro y0 y1 y2 y3 y4 y5
   unfold i_merge.l0
   repeat' first
   | (with_reducible exact ih0 _ _ _ _ _ _)
   | (with_reducible exact ih1 _ _ _ _ _ _ _ _ _)
   | (with_reducible exact ih2 _ _ _ _ _ _ _)
   | (with_reducible exact ih3 _ _ _ _ _ _ _ _ _ _ _ _)
   | (with_reducible exact i_contains.mono _ _ _ _ _)
   | (with_reducible exact LeO.refl _)
   | (with_reducible exact LeO.none _)
   | (with_reducible refine LeO.ite ?_ ?_)
   | (with_reducible refine LeO.bind ?_ (fun _ => ?_))
   | exact ih0 _ _ _ _ _ _
   | exact ih1 _ _ _ _ _ _ _ _ _
   | exact ih2 _ _ _ _ _ _ _
   | exact ih3 _ _ _ _ _ _ _ _ _ _ _ _
   | exact i_contains.mono _ _ _ _ _
   | exact LeO.none _
   | refine LeO.ite ?_ ?_
   | refine LeO.bind ?_ (fun _ => ?_)
  ·intro y0 y1 y2 y3 y4 y5 y6 y7 y8
   unfold i_merge.l1
   repeat' first
   | (with_reducible exact ih0 _ _ _ _ _ _)
   | (with_reducible exact ih1 _ _ _ _ _ _ _ _ _)
   | (with_reducible exact ih2 _ _ _ _ _ _ _)
   | (with_reducible exact ih3 _ _ _ _ _ _ _ _ _ _ _ _)
   | (with_reducible exact i_contains.mono _ _ _ _ _)
   | (with_reducible exact LeO.refl _)
   | (with_reducible exact LeO.none _)
   | (with_reducible refine LeO.ite ?_ ?_)
   | (with_reducible refine LeO.bind ?_ (fun _ => ?_))
   | exact ih0 _ _ _ _ _ _
   | exact ih1 _ _ _ _ _ _ _ _ _
   | exact ih2 _ _ _ _ _ _ _
   | exact ih3 _ _ _ _ _ _ _ _ _ _ _ _
   | exact i_contains.mono _ _ _ _ _
   | exact LeO.none _
   | refine LeO.ite ?_ ?_
   | refine LeO.bind ?_ (fun _ => ?_)
  ·intro y0 y1 y2 y3 y4 y5 y6
   unfold i_merge.l2
   repeat' first
   | (with_reducible exact ih0 _ _ _ _ _ _)
   | (with_reducible exact ih1 _ _ _ _ _ _ _ _ _)
   | (with_reducible exact ih2 _ _ _ _ _ _ _)
   | (with_reducible exact ih3 _ _ _ _ _ _ _ _ _ _ _ _)
   | (with_reducible exact i_contains.mono _ _ _ _ _)
   | (with_reducible exact LeO.refl _)
   | (with_reducible exact LeO.none _)
   | (with_reducible refine LeO.ite ?_ ?_)
   | (with_reducible refine LeO.bind ?_ (fun _ => ?_))
   | exact ih0 _ _ _ _ _ _
   | exact ih1 _ _ _ _ _ _ _ _ _
   | exact ih2 _ _ _ _ _ _ _
   | exact ih3 _ _ _ _ _ _ _ _ _ _ _ _
   | exact i_contains.mono _ _ _ _ _
   | exact LeO.none _
   | refine LeO.ite ?_ ?_
   | refine LeO.bind ?_ (fun _ => ?_)
  ·intro y0 y1 y2 y3 y4 y5 y6 y7 y8 y9 y10 y11
   unfold i_merge.j3
   repeat' first
   | (with_reducible exact ih0 _ _ _ _ _ _)
   | (with_reducible exact ih1 _ _ _ _ _ _ _ _ _)
   | (with_reducible exact ih2 _ _ _ _ _ _ _)
   | (with_reducible exact ih3 _ _ _ _ _ _ _ _ _ _ _ _)
   | (with_reducible exact i_contains.mono _ _ _ _ _)
   | (with_reducible exact LeO.refl _)
   | (with_reducible exact LeO.none _)
   | (with_reducible refine LeO.ite ?_ ?_)
   | (with_reducible refine LeO.bind ?_ (fun _ => ?_))
   | exact ih0 _ _ _ _ _ _
   | exact ih1 _ _ _ _ _ _ _ _ _
   | exact ih2 _ _ _ _ _ _ _
   | exact ih3 _ _ _ _ _ _ _ _ _ _ _ _
   | exact i_contains.mono _ _ _ _ _
   | exact LeO.none _
   | refine LeO.ite ?_ ?_
   | refine LeO.bind ?_ (fun _ => ?_)
theorem i_merge.mono : ∀ a0 a1 kp k, LeO (i_merge.f k a0 a1 kp) (i_merge.f (k + 1) a0 a1 kp) := by
 intro a0 a1 kp k
 obtain ⟨ih0, ih1, ih2, ih3⟩ := i_merge.mono_l kp k
 unfold i_merge.f
 repeat' first
   | (with_reducible exact ih0 _ _ _ _ _ _)
   | (with_reducible exact ih1 _ _ _ _ _ _ _ _ _)
   | (with_reducible exact ih2 _ _ _ _ _ _ _)
   | (with_reducible exact ih3 _ _ _ _ _ _ _ _ _ _ _ _)
   | (with_reducible exact i_contains.mono _ _ _ _ _)
   | (with_reducible exact LeO.refl _)
   | (with_reducible exact LeO.none _)
   | (with_reducible refine LeO.ite ?_ ?_)
   | (with_reducible refine LeO.bind ?_ (fun _ => ?_))
   | exact ih0 _ _ _ _ _ _
   | exact ih1 _ _ _ _ _ _ _ _ _
   | exact ih2 _ _ _ _ _ _ _
   | exact ih3 _ _ _ _ _ _ _ _ _ _ _ _
   | exact i_contains.mono _ _ _ _ _
   | exact LeO.none _
   | refine LeO.ite ?_ ?_
   | refine LeO.bind ?_ (fun _ => ?_)
def i_merge.T20 : Bool × List (List Nat × List Nat) := (true, [([], []), ([], []), ([], []), ([1, 2], [1, 2]), ([], []), ([], []), ([4, 5, 3], [4, 5]), ([0, 3, 6, 6], [0, 3, 6]), ([7, 7, 0, 1, 2, 3, 4, 5, 6, 7], [7])])
def i_merge.B20 : List Nat := [0, 0, 0, 6, 0, 0, 62, 127, 255]
theorem i_merge.tab20 : rtab .any (opsOf Try.f82 20) = i_merge.T20 := by kernel_rfl
theorem i_merge.bits20 : waitsOk i_merge.T20.2 i_merge.B20 = true := by kernel_rfl
set_option maxHeartbeats 8000000 in
set_option maxRecDepth 100000 in
theorem i_merge.calls (k : Nat) (P0_ : Nat → Prop) (A0 : Option Addr) (c0 : Nat) (l0 : List (S65)) (P1_ : Nat → Prop) (A1 : Option Addr) (c1 : Nat) (l1 : List (S65)) (kp : Bool → Bool → Bool) (fk : Nat) (hkp : IsKeep fk kp) (r : List (S65)) (w : World) (hs0 : Kd.V k65 65 w w.heap.size (fun k_ => P0_ k_) (.slice A0 l0.length c0) l0) (hs1 : Kd.V k65 65 w w.heap.size (fun k_ => P1_ k_) (.slice A1 l1.length c1) l1) (h : i_merge.f k l0 l1 kp = some r) :
  Calls Try.prog 82 #[.slice A0 l0.length c0, .slice A1 l1.length c1, .func (.func fk) #[] #[]] w fun e w' => ∃ v0_ : Value, e = .returned (v0_) ∧ Kd.R k65 65 w' w.heap.size (fun k_ => (w.heap.size ≤ k_)) v0_ r ∧ Below w.heap.size w w' := by
 have HKP := Aside0.mk hkp
 clear hkp
 have hu65 := Try.underlying65
 have hu24 := Try.underlying24
 have HO0 := aK (show Kd.V k65 65 w w.heap.size (fun k_ => ((P0_ k_ ∨ P1_ k_) ∨ w.heap.size ≤ k_)) (.slice A0 l0.length c0) l0 from Kd.V_mono hs0 (fun k_ hk => .inl (.inl hk)))
 have HO1 := aK (show Kd.V k65 65 w w.heap.size (fun k_ => ((P0_ k_ ∨ P1_ k_) ∨ w.heap.size ≤ k_)) (.slice A1 l1.length c1) l1 from Kd.V_mono hs1 (fun k_ hk => .inl (.inr hk)))
 have HB := aK (Below.refl w.heap.size w)
 have H : ((i_least.f).bind fun bt507 => ((some (([l0, l1] : List (List (S65))) : List (List (S65)))).bind fun y513 => (i_merge.l0 kp k l0 l1 (([(⟨bt507.1, bt507.2.1, bt507.2.2⟩ : S24)] : List (S24))) y513 (y513.length : Int) 0))) = some r := h
 clear h
 obtain ⟨⟨t507, t508, t509⟩, A4, H⟩ := oB H
 try dsimp only at H
 obtain ⟨y510, hy510⟩ : ∃ y_ : List (S24), y_ = (([(⟨t507, t508, t509⟩ : S24)] : List (S24))) := ⟨_, rfl⟩
 replace H : ((some (([l0, l1] : List (List (S65))) : List (List (S65)))).bind fun y513 => (i_merge.l0 kp k l0 l1 y510 y513 (y513.length : Int) 0)) = some r := by first | (rw [hy510]; with_reducible exact H) | (have H2_ := (Option.bind_some _ _).symm.trans H; rw [hy510]; with_reducible exact H2_) | (have H2_ := (Option.bind_some _ _).symm.trans H; with_reducible exact H2_) | with_reducible exact H | (rw [hy510]; exact H) | exact H
 have Ny510 := Aside0.mk hy510
 clear hy510
 obtain ⟨y513, hy513⟩ : ∃ y_ : List (List (S65)), y_ = (([l0, l1] : List (List (S65)))) := ⟨_, rfl⟩
 replace H : (i_merge.l0 kp k l0 l1 y510 y513 (y513.length : Int) 0) = some r := by first | (rw [hy513]; with_reducible exact H) | (have H2_ := (Option.bind_some _ _).symm.trans H; rw [hy513]; with_reducible exact H2_) | (have H2_ := (Option.bind_some _ _).symm.trans H; with_reducible exact H2_) | with_reducible exact H | (rw [hy513]; exact H) | exact H
 have Ny513 := Aside0.mk hy513
 clear hy513
 have H' := Aside0.mk H
 clear H
 go_enter Try.func82, Try.ntmps82
 go_wp2_with (first | ((with_reducible refine gate_callee (f := 86) rfl ?_); refine gL (some 17) rfl Try.func86 #[] rfl ?_; (with_reducible refine (i_least.calls  t507 t508 t509 _ A4.out).mono ?_); rintro e w5 ⟨rfl, hb⟩; refine ⟨_, rfl, ?_⟩; have n0_ := aK (Kd.V_below (vX HO0.out) hb); have n1_ := aK (Kd.V_below (vX HO1.out) hb); have n2_ := aK (below_step bO hb); clear HO0 HO1 HB; have HO0 := n0_; have HO1 := n1_; have HB := n2_; clear n0_ n1_ n2_; (try clear hb)) | ((with_reducible refine gate_dst (N := 18) rfl ?_); refine Kd.R_lit k24 _ 24 ?hg (N := 18) ?hd (xs := ([(⟨t507, t508, t509⟩ : S24)] : List (S24))) (inner := [.int .i64 t507, .int .i64 t508, .string t509]) (ok := fun _ => True) (okp := fun _ => True) ?hr ?hp (fun _ hk => hk) trivial (Below.refl _ _) (Nat.le_refl _) (by simp) ?_; (case hd => rfl); (case hg => rfl); (case hr => exact hR); (case hp => exact (Reps.c3 (show Kd.M k24 _ _ _ (⟨t507, t508, t509⟩ : S24) [.int .i64 t507, .int .i64 t508, .string t509] from (k24_mkM _ _ _ (⟨t507, t508, t509⟩ : S24) )) (Reps.none _ _))); intro v511 w6 ho7 hb hg_ hnew_; clear hg_ hnew_; (first | rw [← Ny510.out] at ho7 | (simp only [Int.reduceToNat] at ho7; rw [← Ny510.out] at ho7)); have n0_ := aK (Kd.V_elder' (vX HO0.out) (Kd.R_base ho7) hb); have n1_ := aK (Kd.V_elder' (vX HO1.out) (Kd.R_base ho7) hb); have n2_ := aK (Kd.R_lower (Kd.R_newM (M := fun k_ => (w.heap.size ≤ k_)) ho7 (below_size bO) (fun k_ h_ => h_)) (below_size bO)); have n3_ := aK (below_step bO hb); clear HO0 HO1 HB; have HO0 := n0_; have HO1 := n1_; have HO512 := n2_; have HB := n3_; clear n0_ n1_ n2_ n3_ hb ho7) | ((with_reducible refine gate_dst (N := 21) rfl ?_); refine Kd.N_lit (Kd.slice 65 k65) _ 36 ?hg (N' := 21) ?hd (xs := ([l0, l1] : List (List (S65)))) (inner := [.slice A0 l0.length c0, .slice A1 l1.length c1]) (ok := (fun k_ => ((P0_ k_ ∨ P1_ k_) ∨ w.heap.size ≤ k_) ∧ some k_ ≠ (v511 : Value).ownBlock)) (okp := (fun k_ => ((P0_ k_ ∨ P1_ k_) ∨ w.heap.size ≤ k_) ∧ some k_ ≠ (v511 : Value).ownBlock)) ?hr ?hp (fun _ hk => hk) ((show ∀ k_, w6.heap.size ≤ k_ → (fun k_ => ((P0_ k_ ∨ P1_ k_) ∨ w.heap.size ≤ k_) ∧ some k_ ≠ (v511 : Value).ownBlock) k_ from fun k_ hk => ⟨(.inr (Nat.le_trans (below_size bO) hk)), Kd.fresh' (Kd.R_lt (rX HO512.out)) k_ hk⟩) _ (Nat.le_refl _)) (Below.refl _ _) (Nat.le_refl _) (by simp) ?_; (case hd => rfl); (case hg => rfl); (case hr => exact hR); (case hp => exact (Reps.one (show Kd.FK (Kd.slice 65 k65) _ _ l0 [.slice A0 l0.length c0] from (Kd.FK_slice_mk (Kd.V_reads' (Kd.V_mono (ok' := (fun k_ => ((P0_ k_ ∨ P1_ k_) ∨ w.heap.size ≤ k_) ∧ some k_ ≠ (v511 : Value).ownBlock)) (HO0.out) (fun k_ hk => ⟨hk.1, hk.2⟩))).2.1 (Kd.V_F (Kd.V_mono (ok' := (fun k_ => ((P0_ k_ ∨ P1_ k_) ∨ w.heap.size ≤ k_) ∧ some k_ ≠ (v511 : Value).ownBlock)) (HO0.out) (fun k_ hk => ⟨hk.1, hk.2⟩))))) (Reps.one (show Kd.FK (Kd.slice 65 k65) _ _ l1 [.slice A1 l1.length c1] from (Kd.FK_slice_mk (Kd.V_reads' (Kd.V_mono (ok' := (fun k_ => ((P0_ k_ ∨ P1_ k_) ∨ w.heap.size ≤ k_) ∧ some k_ ≠ (v511 : Value).ownBlock)) (HO1.out) (fun k_ hk => ⟨hk.1, hk.2⟩))).2.1 (Kd.V_F (Kd.V_mono (ok' := (fun k_ => ((P0_ k_ ∨ P1_ k_) ∨ w.heap.size ≤ k_) ∧ some k_ ≠ (v511 : Value).ownBlock)) (HO1.out) (fun k_ hk => ⟨hk.1, hk.2⟩))))) (Reps.none _ _)))); intro v514 w8 ho9 hb hg_ hnew_; clear hg_ hnew_; (first | rw [← Ny513.out] at ho9 | (simp only [Int.reduceToNat] at ho9; rw [← Ny513.out] at ho9)); have n0_ := aK (Kd.V_elder' (vX HO0.out) (Kd.N_base ho9) hb); have n1_ := aK (Kd.V_elder' (vX HO1.out) (Kd.N_base ho9) hb); have n2_ := aK (Kd.R_below (rX HO512.out) hb); have n3_ := aK (Kd.N_lower ho9 (below_size bO)); have n4_ := aK (below_step bO hb); clear HO0 HO1 HO512 HB; have HO0 := n0_; have HO1 := n1_; have HO512 := n2_; have HO515 := n3_; have HB := n4_; clear n0_ n1_ n2_ n3_ n4_ hb ho9; obtain ⟨Ao10, co10, eo10⟩ := Kd.N_slice HO515.out; subst eo10))
 go_loopg [7, 23] k (fun kq v7 v23 w' => ∃ (x7_1 : List (S24)) (x23_1 : Int), v23 = .int .i64 x23_1 ∧ Aside0 (i_merge.l0 kp kq l0 l1 x7_1 y513 (y513.length : Int) x23_1 = some r) ∧ Aside0 (kq ≤ k) ∧ Aside0 (Kd.V k65 65 w' w.heap.size (fun k_ => ((P0_ k_ ∨ P1_ k_) ∨ w.heap.size ≤ k_) ∧ some k_ ≠ (v7 : Value).ownBlock ∧ some k_ ≠ ((.slice Ao10 y513.length co10) : Value).ownBlock) (.slice A0 l0.length c0) l0) ∧ Aside0 (Kd.V k65 65 w' w.heap.size (fun k_ => ((P0_ k_ ∨ P1_ k_) ∨ w.heap.size ≤ k_) ∧ some k_ ≠ (v7 : Value).ownBlock ∧ some k_ ≠ ((.slice Ao10 y513.length co10) : Value).ownBlock) (.slice A1 l1.length c1) l1) ∧ Aside0 (Kd.R k24 24 w' w.heap.size (fun k_ => (w.heap.size ≤ k_)) v7 x7_1) ∧ Aside0 (Kd.N (Kd.slice 65 k65) 36 w' w.heap.size (fun k_ => ((P0_ k_ ∨ P1_ k_) ∨ w.heap.size ≤ k_) ∧ some k_ ≠ (v7 : Value).ownBlock) (.slice Ao10 y513.length co10) y513) ∧ Aside0 (Below w.heap.size w w'))
 case atStart => exact ⟨(y510), (0), (by first | rfl | (simp; done) | (simp [*]; done)), H', ⟨Nat.le_refl _⟩, ⟨by (with_reducible repeat (first | apply Kd.V_alloc | apply Kd.V_drewN | apply Kd.V_drew)); exact Kd.V_mono HO0.out (fun _ hk => ⟨hk.1.1, ⟨hk.1.2, hk.2⟩⟩)⟩, ⟨by (with_reducible repeat (first | apply Kd.V_alloc | apply Kd.V_drewN | apply Kd.V_drew)); exact Kd.V_mono HO1.out (fun _ hk => ⟨hk.1.1, ⟨hk.1.2, hk.2⟩⟩)⟩, ⟨by (with_reducible repeat (first | apply Kd.R_alloc | apply Kd.R_drewN | apply Kd.R_drew)); exact Kd.R_mono HO512.out (fun _ hk => hk.1)⟩, ⟨by (with_reducible repeat (first | apply Kd.N_alloc | apply Kd.N_drewN | apply Kd.N_drew)); exact HO515.out⟩, ⟨bO⟩⟩
 case round =>
  clear H'
  try clear c1
  try clear p2
  try clear c3
  try clear c8
  obtain ⟨x7_1, x23_1, rfl, HA, HK1, HO_0, HO_1, HO_7, HO_21, HB⟩ := hrel
  cases gk with
  | zero => exact absurd HA.out (by simp [i_merge.l0])
  | succ k1 =>
   have H := HA.out
   clear HA
   simp only [i_merge.l0] at H
   by_cases c11 : x23_1 < (y513.length : Int)
   rotate_left
   ·rw [if_neg c11] at H
    have c11b0 : decide (x23_1 < (y513.length : Int)) = false := decide_eq_false c11
    clear c11
    obtain ⟨t525, A30, H⟩ := oB H
    try dsimp only at H
    obtain ⟨t526, A31, H⟩ := oB H
    try dsimp only at H
    have H' := Aside0.mk H
    clear H
    obtain ⟨Ao32, co32, eo32⟩ := Kd.R_slice HO_7.out
    subst eo32
    go_wp2_with (first | ((with_reducible refine gate_callee (f := 99) rfl ?_); refine gL (some 49) rfl Try.func99 #[.slice Ao32 x7_1.length co32, .func (.func 25) #[] #[]] rfl ?_; (with_reducible refine (a_99.calls (fun k_ => some k_ = (.slice Ao32 x7_1.length co32 : Value).ownBlock) (.slice Ao32 x7_1.length co32) x7_1 t525 w _ ?side1 ?side2 A30.out).mono ?_); (case side1 => exact bO); (case side2 => exact Kd.R_tight rfl HO_7.out); rintro e w33 ⟨rfl, hy0, hb, hkp⟩; refine ⟨_, rfl, ?_⟩; have n0_ := aK (Kd.V_mono (ok' := fun k_ => ((P0_ k_ ∨ P1_ k_) ∨ w.heap.size ≤ k_) ∧ some k_ ≠ (.slice Ao32 x7_1.length co32 : Value).ownBlock ∧ some k_ ≠ (.slice Ao10 y513.length co10 : Value).ownBlock) (Kd.V_keptB (HO_0.out) hkp (fun k_ hk_ hs_ => (hk_.2.1) hs_)) (fun k_ hk_ => ⟨hk_.1.1, hk_.1.2.1, hk_.1.2.2⟩)); have n1_ := aK (Kd.V_mono (ok' := fun k_ => ((P0_ k_ ∨ P1_ k_) ∨ w.heap.size ≤ k_) ∧ some k_ ≠ (.slice Ao32 x7_1.length co32 : Value).ownBlock ∧ some k_ ≠ (.slice Ao10 y513.length co10 : Value).ownBlock) (Kd.V_keptB (HO_1.out) hkp (fun k_ hk_ hs_ => (hk_.2.1) hs_)) (fun k_ hk_ => ⟨hk_.1.1, hk_.1.2.1, hk_.1.2.2⟩)); have n2_ := aK (Kd.R_reok rfl hy0 (fun k_ e_ => HO_7.out.1 k_ e_)); have n3_ := aK (Kd.N_mono (ok' := fun k_ => ((P0_ k_ ∨ P1_ k_) ∨ w.heap.size ≤ k_) ∧ some k_ ≠ (.slice Ao32 x7_1.length co32 : Value).ownBlock) (Kd.N_keptB (HO_21.out) hkp (fun k_ hk_ hs_ => (hk_.2) hs_)) (fun k_ hk_ => ⟨hk_.1.1, hk_.1.2⟩)); have n4_ := aK (hb); clear HO_0 HO_1 HO_7 HO_21 HB; have HO_0 := n0_; have HO_1 := n1_; have HO_7 := n2_; have HO_21 := n3_; have HB := n4_; clear n0_ n1_ n2_ n3_ n4_; (try clear hb hkp); (try clear hy0)) | ((with_reducible refine gate_callee (f := 100) rfl ?_); refine gL (some 51) rfl Try.func100 #[.slice Ao32 x7_1.length co32] rfl ?_; (with_reducible refine (a_100.calls (fun k_ => some k_ = (.slice Ao32 x7_1.length co32 : Value).ownBlock) (.slice Ao32 x7_1.length co32) t525 t526 w _ ?side1 ?side2 A31.out).mono ?_); (case side1 => exact bO); (case side2 => exact Kd.R_tight rfl HO_7.out); rintro e w34 ⟨v527, rfl, ho0, hb, hkp⟩; refine ⟨_, rfl, ?_⟩; have n0_ := aK (Kd.V_mono (ok' := fun k_ => ((P0_ k_ ∨ P1_ k_) ∨ w.heap.size ≤ k_) ∧ some k_ ≠ (.slice Ao10 y513.length co10 : Value).ownBlock ∧ some k_ ≠ (v527 : Value).ownBlock) (Kd.V_keptB (HO_0.out) hkp (fun k_ hk_ hs_ => (hk_.2.1) hs_)) (fun k_ hk_ => ⟨hk_.1.1, hk_.1.2.2, fun e_ => Or.elim (ho0.1 k_ e_.symm) (fun hs_ => hk_.2.1 hs_) (fun hn_ => Nat.not_le.2 hk_.2.2 hn_)⟩)); have n1_ := aK (Kd.V_mono (ok' := fun k_ => ((P0_ k_ ∨ P1_ k_) ∨ w.heap.size ≤ k_) ∧ some k_ ≠ (.slice Ao10 y513.length co10 : Value).ownBlock ∧ some k_ ≠ (v527 : Value).ownBlock) (Kd.V_keptB (HO_1.out) hkp (fun k_ hk_ hs_ => (hk_.2.1) hs_)) (fun k_ hk_ => ⟨hk_.1.1, hk_.1.2.2, fun e_ => Or.elim (ho0.1 k_ e_.symm) (fun hs_ => hk_.2.1 hs_) (fun hn_ => Nat.not_le.2 hk_.2.2 hn_)⟩)); have n2_ := aK (Kd.N_mono (ok' := fun k_ => ((P0_ k_ ∨ P1_ k_) ∨ w.heap.size ≤ k_) ∧ some k_ ≠ (v527 : Value).ownBlock) (Kd.N_keptB (HO_21.out) hkp (fun k_ hk_ hs_ => (hk_.2) hs_)) (fun k_ hk_ => ⟨hk_.1.1, fun e_ => Or.elim (ho0.1 k_ e_.symm) (fun hs_ => hk_.2.1 hs_) (fun hn_ => Nat.not_le.2 hk_.2.2 hn_)⟩)); have n3_ := aK (Kd.R_mono (ok' := fun k_ => (w.heap.size ≤ k_)) ho0 (fun k_ hk_ => Or.elim hk_ (fun hs_ => (HO_7.out.1 k_ (hs_).symm)) (fun hn_ => (Nat.le_trans (below_size bO) hn_)))); have n4_ := aK (hb); clear HO_0 HO_1 HO_21 HB HO_7; have HO_0 := n0_; have HO_1 := n1_; have HO_21 := n2_; have HO528 := n3_; have HB := n4_; clear n0_ n1_ n2_ n3_ n4_; (try clear hb hkp ho0); obtain ⟨Ao35, co35, eo35⟩ := Kd.R_slice HO528.out; subst eo35))
    go_loopg [12, 13, 54] k1 (fun kq v12 v13 v54 w' => ∃ (x0_2 : List (S65)) (x1_2 : List (S65)) (x12_2 : List (S65)) (x13_2 : Bool) (x54_2 : Int), v13 = .bool x13_2 ∧ v54 = .int .i64 x54_2 ∧ Aside0 (i_merge.l2 kp kq x0_2 x1_2 x12_2 x13_2 t526 (t526.length : Int) x54_2 = some r) ∧ Aside0 (kq ≤ k1) ∧ Aside0 (Kd.V k65 65 w' w.heap.size (fun k_ => ((P0_ k_ ∨ P1_ k_) ∨ w.heap.size ≤ k_) ∧ some k_ ≠ (v12 : Value).ownBlock ∧ some k_ ≠ ((.slice Ao35 t526.length co35) : Value).ownBlock) (.slice A0 l0.length c0) x0_2) ∧ Aside0 (Kd.V k65 65 w' w.heap.size (fun k_ => ((P0_ k_ ∨ P1_ k_) ∨ w.heap.size ≤ k_) ∧ some k_ ≠ (v12 : Value).ownBlock ∧ some k_ ≠ ((.slice Ao35 t526.length co35) : Value).ownBlock) (.slice A1 l1.length c1) x1_2) ∧ Aside0 (Kd.R k65 65 w' w.heap.size (fun k_ => (w.heap.size ≤ k_)) v12 x12_2) ∧ Aside0 (Kd.R k24 24 w' w.heap.size (fun k_ => (w.heap.size ≤ k_)) (.slice Ao35 t526.length co35) t526) ∧ Aside0 (Below w.heap.size w w'))
    case atStart => exact ⟨(l0), (l1), (([] : List (S65))), (false), (0), (by first | rfl | (simp; done) | (simp [*]; done)), (by first | rfl | (simp; done) | (simp [*]; done)), H', ⟨Nat.le_refl _⟩, ⟨by (with_reducible repeat (first | apply Kd.V_alloc | apply Kd.V_drewN | apply Kd.V_drew)); exact Kd.V_mono HO_0.out (fun _ hk => ⟨hk.1, ⟨(by simp [Value.ownBlock]), hk.2.2⟩⟩)⟩, ⟨by (with_reducible repeat (first | apply Kd.V_alloc | apply Kd.V_drewN | apply Kd.V_drew)); exact Kd.V_mono HO_1.out (fun _ hk => ⟨hk.1, ⟨(by simp [Value.ownBlock]), hk.2.2⟩⟩)⟩, ⟨by first | exact Kd.R_nil _ _ _ _ _ | exact Kd.N_nil _ _ _ _ _ | exact Kd.V_nil _ _ _ _ _ | exact Kd.Q_nil _ _ _ _ _ | exact Kd.S_nil _ _ _ _ _⟩, ⟨rX HO528.out⟩, ⟨bO⟩⟩
    case round =>
     clear H'
     try clear c1
     try clear q1
     try clear c2
     try clear p2
     try clear c3
     try clear c5
     try clear p5
     try clear q5
     try clear hx5
     try clear p6
     try clear c8
     try clear c9
     try clear c10
     try clear c11
     try clear c11b0
     try clear c12
     try clear c12b0
     try clear c13
     try clear c13b0
     try clear c14
     try clear c14b0
     try clear c15
     try clear c15b0
     try clear c16
     try clear c16b0
     try clear c17
     try clear q18
     try clear c19
     try clear c24
     try clear hcz21_0 hcz21_1 hcz21_2 hcz21_3 hcz21_4 hcz21_5 hcz21_6
     try clear hcz23_0 hcz23_1 hcz23_2 hcz23_3 hcz23_4 hcz23_5 hcz23_6
     try clear hcz26_0 hcz26_1 hcz26_2 hcz26_3 hcz26_4 hcz26_5 hcz26_6
     try clear hcz28_0 hcz28_1 hcz28_2 hcz28_3 hcz28_4 hcz28_5 hcz28_6
     try clear hfz21_0 hfz21_1 hfz21_2 hfz21_3 hfz21_4 hfz21_5 hfz21_6
     try clear hfz23_0 hfz23_1 hfz23_2 hfz23_3 hfz23_4 hfz23_5 hfz23_6
     try clear hfz26_0 hfz26_1 hfz26_2 hfz26_3 hfz26_4 hfz26_5 hfz26_6
     try clear hfz28_0 hfz28_1 hfz28_2 hfz28_3 hfz28_4 hfz28_5 hfz28_6
     try clear hx516_0
     try clear hx517_0
     try clear hx517_1
     try clear hx517_2
     try clear hx517_3
     try clear hx517_4
     try clear hx517_5
     try clear hx517_6
     try clear p2
     try clear p5
     try clear p516
     try clear p517
     try clear q5
     try clear q516
     try clear q517
     obtain ⟨x0_2, x1_2, x12_2, x13_2, x54_2, rfl, rfl, HA, HK2, HO_0, HO_1, HO_12, HO_52, HB⟩ := hrel
     have hl0_2 := (Kd.V_reads' HO_0.out).1
     rw [hl0_2] at HO_0
     (try simp only [hl0_2])
     (try simp only [hl0_2] at HO_1)
     (try simp only [hl0_2] at HO_12)
     (try simp only [hl0_2] at HO_52)
     have hl1_2 := (Kd.V_reads' HO_1.out).1
     rw [hl1_2] at HO_1
     (try simp only [hl1_2])
     (try simp only [hl1_2] at HO_0)
     (try simp only [hl1_2] at HO_12)
     (try simp only [hl1_2] at HO_52)
     cases gk with
     | zero => exact absurd HA.out (by simp [i_merge.l2])
     | succ k2 =>
      have H := HA.out
      clear HA
      simp only [i_merge.l2] at H
      by_cases c36 : x54_2 < (t526.length : Int)
      rotate_left
      ·rw [if_neg c36] at H
       have c36b0 : decide (x54_2 < (t526.length : Int)) = false := decide_eq_false c36
       clear c36
       obtain rfl := Option.some.inj H
       go_wp2
       go_ret
       exact ⟨_, eW, rX HO_12.out, bO⟩
      rw [if_pos c36] at H
      have c36b0 : decide (x54_2 < (t526.length : Int)) = true := decide_eq_true c36
      clear c36
      by_cases c37 : 0 ≤ x54_2
      rotate_left
      ·rw [if_neg c37] at H
       exact absurd H (by simp)
      rw [if_pos c37] at H
      have c37b0 : decide (0 ≤ x54_2) = true := decide_eq_true c37
      clear c37
      by_cases c38 : x54_2 < (t526.length : Int)
      rotate_left
      ·rw [if_neg c38] at H
       exact absurd H (by simp)
      rw [if_pos c38] at H
      have c38b0 : decide (x54_2 < (t526.length : Int)) = true := decide_eq_true c38
      clear c38
      obtain ⟨t531, A39, H⟩ := oB H
      try dsimp only at H
      obtain ⟨t532, A40, H⟩ := oB H
      try dsimp only at H
      obtain ⟨t533, A41, H⟩ := oB H
      try dsimp only at H
      have HC42 := Aside0.mk H
      clear H
      have p529 : 0 ≤ (x54_2 : Int) := of_decide_eq_true (aA)
      have q529 : x54_2 < (t526.length : Int) := of_decide_eq_true (aA)
      obtain ⟨ad529, e529, hx529_0, hx529_1, hx529_2⟩ := at_T24 (Kd.R_reads' HO_52.out).2.2 x54_2 p529 q529
      cases e529
      replace p529 := eq_true p529
      replace q529 := eq_true q529
      try go_wp2_with (first | ((with_reducible refine gate_dst (N := 15) rfl ?_); refine box_event ?hg (N := 15) ?hd (cs := #[.int .i64 0, .int .i64 0, .string (⟨#[]⟩ : ByteArray)]) (t := 24) ?hr ?_; (case hd => rfl); (case hg => rfl); (case hr => exact hR); intro gb530 hg w43 hbox hb; have n0_ := aK (Kd.V_below (Kd.V_elderB (vX HO_0.out) gb530 (Nat.le_of_eq hg.symm)) hb); have n1_ := aK (Kd.V_below (Kd.V_elderB (vX HO_1.out) gb530 (Nat.le_of_eq hg.symm)) hb); have n2_ := aK (Kd.R_below (rX HO_12.out) hb); have n3_ := aK (Kd.R_below (Kd.R_elderB (rX HO_52.out) gb530 (Nat.le_of_eq hg.symm)) hb); have n4_ := aK (below_step bO hb); have n5_ := aK (hbox); have n6_ := aK ((by rw [hg]; exact (below_size bO) : w.heap.size ≤ gb530)); have n7_ := aK ((by rw [hg]; exact (below_size bO) : w.heap.size ≤ gb530)); clear HO_0 HO_1 HO_12 HO_52 HB; have HO_0 := n0_; have HO_1 := n1_; have HO_12 := n2_; have HO_52 := n3_; have HB := n4_; have BK530 := n5_; have GW530 := n6_; have GE530 := n7_; clear n0_ n1_ n2_ n3_ n4_ n5_ n6_ n7_ hb hbox hg; obtain ⟨hcz44_0, hcz44_1, hcz44_2⟩ := z3 BK530.out (.int .i64 0) (.int .i64 0) (.string (⟨#[]⟩ : ByteArray)); obtain ⟨hfz44_0, hfz44_1, hfz44_2⟩ := f3 BK530.out))
      have n0_ : Aside0 (Kd.V k65 65 (((w43.setCell ⟨gb530, 0, none⟩ (.int .i64 ((rd_T24 t526 x54_2).f0))).setCell ⟨gb530, 1, none⟩ (.int .i64 ((rd_T24 t526 x54_2).f1))).setCell ⟨gb530, 2, none⟩ (.string ((rd_T24 t526 x54_2).f2))) w.heap.size (fun k_ => ((P0_ k_ ∨ P1_ k_) ∨ w.heap.size ≤ k_) ∧ some k_ ≠ (u12 : Value).ownBlock ∧ some k_ ≠ (.slice (some ad529) t526.length co35 : Value).ownBlock ∧ k_ ≠ gb530) (.slice A0 x0_2.length c0) x0_2) := ⟨by (with_reducible repeat (first | apply Kd.V_alloc | apply Kd.V_drewN | apply Kd.V_drew)); exact Kd.V_mono (Kd.V_far (p := ⟨gb530, 2, none⟩) (Kd.V_far (p := ⟨gb530, 1, none⟩) (Kd.V_far (p := ⟨gb530, 0, none⟩) (Kd.V_mono HO_0.out (fun k_ hk => (⟨hk, hk.2⟩ : _ ∧ k_ ≠ gb530))) (fun _ hk => hk.2) (.int .i64 ((rd_T24 t526 x54_2).f0))) (fun _ hk => hk.2) (.int .i64 ((rd_T24 t526 x54_2).f1))) (fun _ hk => hk.2) (.string ((rd_T24 t526 x54_2).f2))) (fun _ hk => ⟨hk.1.1.1, ⟨hk.1.1.2.1, ⟨hk.1.1.2.2, hk.1.2⟩⟩⟩)⟩
      have n1_ : Aside0 (Kd.V k65 65 (((w43.setCell ⟨gb530, 0, none⟩ (.int .i64 ((rd_T24 t526 x54_2).f0))).setCell ⟨gb530, 1, none⟩ (.int .i64 ((rd_T24 t526 x54_2).f1))).setCell ⟨gb530, 2, none⟩ (.string ((rd_T24 t526 x54_2).f2))) w.heap.size (fun k_ => ((P0_ k_ ∨ P1_ k_) ∨ w.heap.size ≤ k_) ∧ some k_ ≠ (u12 : Value).ownBlock ∧ some k_ ≠ (.slice (some ad529) t526.length co35 : Value).ownBlock ∧ k_ ≠ gb530) (.slice A1 x1_2.length c1) x1_2) := ⟨by (with_reducible repeat (first | apply Kd.V_alloc | apply Kd.V_drewN | apply Kd.V_drew)); exact Kd.V_mono (Kd.V_far (p := ⟨gb530, 2, none⟩) (Kd.V_far (p := ⟨gb530, 1, none⟩) (Kd.V_far (p := ⟨gb530, 0, none⟩) (Kd.V_mono HO_1.out (fun k_ hk => (⟨hk, hk.2⟩ : _ ∧ k_ ≠ gb530))) (fun _ hk => hk.2) (.int .i64 ((rd_T24 t526 x54_2).f0))) (fun _ hk => hk.2) (.int .i64 ((rd_T24 t526 x54_2).f1))) (fun _ hk => hk.2) (.string ((rd_T24 t526 x54_2).f2))) (fun _ hk => ⟨hk.1.1.1, ⟨hk.1.1.2.1, ⟨hk.1.1.2.2, hk.1.2⟩⟩⟩)⟩
      have n2_ : Aside0 (Kd.R k65 65 (((w43.setCell ⟨gb530, 0, none⟩ (.int .i64 ((rd_T24 t526 x54_2).f0))).setCell ⟨gb530, 1, none⟩ (.int .i64 ((rd_T24 t526 x54_2).f1))).setCell ⟨gb530, 2, none⟩ (.string ((rd_T24 t526 x54_2).f2))) w.heap.size (fun k_ => (w.heap.size ≤ k_)) u12 x12_2) := ⟨by (with_reducible repeat (first | apply Kd.R_alloc | apply Kd.R_drewN | apply Kd.R_drew)); exact Kd.R_mono (Kd.R_far (p := ⟨gb530, 2, none⟩) (Kd.R_far (p := ⟨gb530, 1, none⟩) (Kd.R_far (p := ⟨gb530, 0, none⟩) (Kd.R_types HO_12.out BK530.out (by decide)) (fun _ hk => hk.2) (.int .i64 ((rd_T24 t526 x54_2).f0))) (fun _ hk => hk.2) (.int .i64 ((rd_T24 t526 x54_2).f1))) (fun _ hk => hk.2) (.string ((rd_T24 t526 x54_2).f2))) (fun _ hk => hk.1)⟩
      have n3_ : Aside0 (Kd.R k24 24 (((w43.setCell ⟨gb530, 0, none⟩ (.int .i64 ((rd_T24 t526 x54_2).f0))).setCell ⟨gb530, 1, none⟩ (.int .i64 ((rd_T24 t526 x54_2).f1))).setCell ⟨gb530, 2, none⟩ (.string ((rd_T24 t526 x54_2).f2))) w.heap.size (fun k_ => (w.heap.size ≤ k_) ∧ k_ ≠ gb530) (.slice (some ad529) t526.length co35) t526) := ⟨by (with_reducible repeat (first | apply Kd.R_alloc | apply Kd.R_drewN | apply Kd.R_drew)); exact Kd.R_mono (Kd.R_far (p := ⟨gb530, 2, none⟩) (Kd.R_far (p := ⟨gb530, 1, none⟩) (Kd.R_far (p := ⟨gb530, 0, none⟩) (Kd.R_mono HO_52.out (fun k_ hk => (⟨hk, hk.2⟩ : _ ∧ k_ ≠ gb530))) (fun _ hk => hk.2) (.int .i64 ((rd_T24 t526 x54_2).f0))) (fun _ hk => hk.2) (.int .i64 ((rd_T24 t526 x54_2).f1))) (fun _ hk => hk.2) (.string ((rd_T24 t526 x54_2).f2))) (fun _ hk => ⟨hk.1.1, hk.1.2⟩)⟩
      have n4_ : Aside0 ((((w43.setCell ⟨gb530, 0, none⟩ (.int .i64 ((rd_T24 t526 x54_2).f0))).setCell ⟨gb530, 1, none⟩ (.int .i64 ((rd_T24 t526 x54_2).f1))).setCell ⟨gb530, 2, none⟩ (.string ((rd_T24 t526 x54_2).f2))).heap[gb530]? = some (.cells #[.int .i64 ((rd_T24 t526 x54_2).f0), .int .i64 ((rd_T24 t526 x54_2).f1), .string ((rd_T24 t526 x54_2).f2)] 24 (0, 0))) := ⟨by (with_reducible repeat (first | refine blk_drewN ?_ _ | refine blk_drew ?_ | refine blk_alloc ?_ _)); refine blk_put (cs := #[.int .i64 ((rd_T24 t526 x54_2).f0), .int .i64 ((rd_T24 t526 x54_2).f1), .string (⟨#[]⟩ : ByteArray)]) ?_ 2 _ rfl; (with_reducible repeat (first | refine blk_drewN ?_ _ | refine blk_drew ?_ | refine blk_alloc ?_ _)); refine blk_put (cs := #[.int .i64 ((rd_T24 t526 x54_2).f0), .int .i64 0, .string (⟨#[]⟩ : ByteArray)]) ?_ 1 _ rfl; (with_reducible repeat (first | refine blk_drewN ?_ _ | refine blk_drew ?_ | refine blk_alloc ?_ _)); refine blk_put (cs := #[.int .i64 0, .int .i64 0, .string (⟨#[]⟩ : ByteArray)]) ?_ 0 _ rfl; (with_reducible repeat (first | refine blk_drewN ?_ _ | refine blk_drew ?_ | refine blk_alloc ?_ _)); exact BK530.out⟩
      have n5_ : Aside0 (Below w.heap.size w (((w43.setCell ⟨gb530, 0, none⟩ (.int .i64 ((rd_T24 t526 x54_2).f0))).setCell ⟨gb530, 1, none⟩ (.int .i64 ((rd_T24 t526 x54_2).f1))).setCell ⟨gb530, 2, none⟩ (.string ((rd_T24 t526 x54_2).f2)))) := ⟨bS GE530.out⟩
      (try clear HO_0)
      (try clear HO_1)
      (try clear HO_12)
      (try clear HO_52)
      (try clear BK530)
      (try clear HB)
      generalize (((w43.setCell ⟨gb530, 0, none⟩ (.int .i64 ((rd_T24 t526 x54_2).f0))).setCell ⟨gb530, 1, none⟩ (.int .i64 ((rd_T24 t526 x54_2).f1))).setCell ⟨gb530, 2, none⟩ (.string ((rd_T24 t526 x54_2).f2))) = w45 at n0_ n1_ n2_ n3_ n4_ n5_ ⊢
      have HO_0 := n0_
      have HO_1 := n1_
      have HO_12 := n2_
      have HO_52 := n3_
      have BK530 := n4_
      have HB := n5_
      clear n0_ n1_ n2_ n3_ n4_ n5_
      have n0_ := aK (Kd.V_drew HO_0.out)
      have n1_ := aK (Kd.V_drew HO_1.out)
      have n2_ := aK (Kd.R_drew HO_12.out)
      have n3_ := aK (Kd.R_drew HO_52.out)
      have n4_ := aK (blk_drew BK530.out)
      have n5_ := aK (below_drew1 HB.out)
      clear HO_0
      clear HO_1
      clear HO_12
      clear HO_52
      clear BK530
      clear HB
      have HO_0 := n0_
      have HO_1 := n1_
      have HO_12 := n2_
      have HO_52 := n3_
      have BK530 := n4_
      have HB := n5_
      clear n0_ n1_ n2_ n3_ n4_ n5_
      refine start_ (n := 9) (S := fun w' => w'.cell? ⟨gb530, 0, none⟩ = some (.int .i64 ((rd_T24 t526 x54_2).f0)) ∧ w'.cell? ⟨gb530, 1, none⟩ = some (.int .i64 ((rd_T24 t526 x54_2).f1)) ∧ w'.cell? ⟨gb530, 2, none⟩ = some (.string ((rd_T24 t526 x54_2).f2))) (ds := []) #[false, false, false, false, false, false, false, false, false] (by kernel_rfl) rfl rfl ⟨(blk_cell BK530.out 0).trans rfl, (blk_cell BK530.out 1).trans rfl, (blk_cell BK530.out 2).trans rfl⟩ (fun hHeld => ?_); refine with_tabW i_merge.tab20 i_merge.bits20 (fun HT_ HW_ => ?_)
      generalize w45.drew = w46 at HO_0 HO_1 HO_12 HO_52 BK530 HB hHeld ⊢
      refine pY (i := 0) (N := some 58) (tf 1 8) rfl rfl HT_.out ?_
      refine pY (i := 1) (N := some 59) (tf 2 7) rfl rfl HT_.out ?_
      refine pY (i := 4) (N := some 62) #[true, true, false, false, true, false, false, false, false] rfl rfl HT_.out ?_
      refine take_ (i := 2) (N := some 60) (v := ?_) (a' := ?_) #[true, true, true, false, true, false, false, false, false] rfl rfl (take_ofW HT_.out HW_.out (by kernel_rfl)) (fun _ _ _ h => h) (Or.inl ⟨by rfl, ?_⟩) hHeld ?_ ?_
      rotate_left
      ·rintro w' ⟨s0, s1, s2⟩
       go_simp
       with_reducible rfl
      rotate_left
      ·exact aP
      refine take_ (i := 5) (N := some 63) (v := ?_) (a' := ?_) #[true, true, true, false, true, true, false, false, false] rfl rfl (take_ofW HT_.out HW_.out (by kernel_rfl)) (fun _ _ _ h => h) (Or.inl ⟨by rfl, ?_⟩) hHeld ?_ ?_
      rotate_left
      ·rintro w' ⟨s0, s1, s2⟩
       go_simp
       with_reducible rfl
      rotate_left
      ·exact aP
      refine one_ (i := 3) (N := some 61) (tf 6 3) rfl rfl (one_of HT_.out (by kernel_rfl)) (by decide) (fun K hK => ?_)
      refine goes_ Try.func84 (by kernel_rfl) rfl #[.slice A0 x0_2.length c0, .agg #[.int .i64 ((rd_T24 t526 x54_2).f0), .int .i64 ((rd_T24 t526 x54_2).f1), .string ((rd_T24 t526 x54_2).f2)]] (by rfl) rfl rfl (by (try simp only [List.map_toArray, List.map_cons, List.map_nil]); first | done | rfl | (simp only [List.length_drop, List.length_take]; rfl)) ?_
      with_reducible refine (i_contains.calls k2 _ _ x0_2 ((rd_T24 t526 x54_2).f0) ((rd_T24 t526 x54_2).f1) ((rd_T24 t526 x54_2).f2) t531 _ ?side1 ?side2 A39.out).mono ?_
      (case side1 => exact cX (Kd.V_reads' HO_0.out).2.2)
      (case side2 => exact (Kd.V_reads' HO_0.out).2.1)
      rintro e w47 ⟨rfl, hb⟩
      refine ⟨_, rfl, ?_⟩
      have n0_ := aK (Kd.V_below (vX HO_0.out) hb)
      have n1_ := aK (Kd.V_below (vX HO_1.out) hb)
      have n2_ := aK (Kd.R_below (rX HO_12.out) hb)
      have n3_ := aK (Kd.R_below (rX HO_52.out) hb)
      have n4_ := aK (blk_below (bX BK530.out) hb)
      have n5_ := aK (below_step (bS GE530.out) hb)
      clear HO_0
      clear HO_1
      clear HO_12
      clear HO_52
      clear BK530
      clear HB
      have HO_0 := n0_
      have HO_1 := n1_
      have HO_12 := n2_
      have HO_52 := n3_
      have BK530 := n4_
      have HB := n5_
      clear n0_ n1_ n2_ n3_ n4_ n5_
      (try clear hb)
      (try clear hb2)
      (try clear hk)
      (try clear hi)
      refine hK.out _ _ ⟨(blk_cell BK530.out 0).trans rfl, (blk_cell BK530.out 1).trans rfl, (blk_cell BK530.out 2).trans rfl⟩ (fun hHeld => ?_)
      clear hK K
      refine norm_ (a' := ?_) ?_ ?_
      rotate_left
      ·show Act.put _ (some 61) _ = _
       simp only [Act.put, List.setIfInBounds_toArray, List.set_cons_zero, List.set_cons_succ, i64_w, i32_w]
       rfl
      refine one_ (i := 6) (N := some 64) (tf 7 2) rfl rfl (one_of HT_.out (by kernel_rfl)) (by decide) (fun K hK => ?_)
      refine goes_ Try.func84 (by kernel_rfl) rfl #[.slice A1 x1_2.length c1, .agg #[.int .i64 ((rd_T24 t526 x54_2).f0), .int .i64 ((rd_T24 t526 x54_2).f1), .string ((rd_T24 t526 x54_2).f2)]] (by rfl) rfl rfl (by (try simp only [List.map_toArray, List.map_cons, List.map_nil]); first | done | rfl | (simp only [List.length_drop, List.length_take]; rfl)) ?_
      with_reducible refine (i_contains.calls k2 _ _ x1_2 ((rd_T24 t526 x54_2).f0) ((rd_T24 t526 x54_2).f1) ((rd_T24 t526 x54_2).f2) t532 _ ?side1 ?side2 A40.out).mono ?_
      (case side1 => exact cX (Kd.V_reads' HO_1.out).2.2)
      (case side2 => exact (Kd.V_reads' HO_1.out).2.1)
      rintro e w48 ⟨rfl, hb⟩
      refine ⟨_, rfl, ?_⟩
      have n0_ := aK (Kd.V_below (vX HO_0.out) hb)
      have n1_ := aK (Kd.V_below (vX HO_1.out) hb)
      have n2_ := aK (Kd.R_below (rX HO_12.out) hb)
      have n3_ := aK (Kd.R_below (rX HO_52.out) hb)
      have n4_ := aK (blk_below (bX BK530.out) hb)
      have n5_ := aK (below_step (bS GE530.out) hb)
      clear HO_0
      clear HO_1
      clear HO_12
      clear HO_52
      clear BK530
      clear HB
      have HO_0 := n0_
      have HO_1 := n1_
      have HO_12 := n2_
      have HO_52 := n3_
      have BK530 := n4_
      have HB := n5_
      clear n0_ n1_ n2_ n3_ n4_ n5_
      (try clear hb)
      (try clear hb2)
      (try clear hk)
      (try clear hi)
      refine hK.out _ _ ⟨(blk_cell BK530.out 0).trans rfl, (blk_cell BK530.out 1).trans rfl, (blk_cell BK530.out 2).trans rfl⟩ (fun hHeld => ?_)
      clear hK K
      refine norm_ (a' := ?_) ?_ ?_
      rotate_left
      ·show Act.put _ (some 64) _ = _
       simp only [Act.put, List.setIfInBounds_toArray, List.set_cons_zero, List.set_cons_succ, i64_w, i32_w]
       rfl
      refine one_ (i := 7) (N := some 65) (tf 8 1) rfl rfl (one_of HT_.out (by kernel_rfl)) (by decide) (fun K hK => ?_)
      refine goesF_ HKP.out.enters rfl #[.bool t531, .bool t532] (by rfl) rfl rfl (by (try simp only [List.map_toArray, List.map_cons, List.map_nil]); first | done | rfl | (simp only [List.length_drop, List.length_take]; rfl)) ?_
      with_reducible refine (HKP.out.tells t531 t532 t533 _ A41.out).mono ?_
      rintro e w' ⟨rfl, ⟨nd, rfl⟩⟩
      refine ⟨_, rfl, ?_⟩
      refine hK.out _ _ ⟨(blk_cell BK530.out 0).trans rfl, (blk_cell BK530.out 1).trans rfl, (blk_cell BK530.out 2).trans rfl⟩ (fun hHeld => ?_)
      clear hK K
      refine norm_ (a' := ?_) ?_ ?_
      rotate_left
      ·show Act.put _ (some 65) _ = _
       simp only [Act.put, List.setIfInBounds_toArray, List.set_cons_zero, List.set_cons_succ, i64_w, i32_w]
       rfl
      refine pY (i := 8) (N := some 16) (tf 9 0) rfl rfl HT_.out ?_
      refine done_ (done_of HT_.out (by kernel_rfl)) ?_
      go_upto_region 21 with (fail)
      go_cut [70] (fun v70 wc => ∃ (kq : Nat) (x70_41 : Bool), v70 = .bool x70_41 ∧ Aside0 (i_merge.j3 kp kq x0_2 x1_2 x12_2 x13_2 t533 t526 (t526.length : Int) x54_2 x70_41 ((rd_T24 t526 x54_2).f0) ((rd_T24 t526 x54_2).f1) ((rd_T24 t526 x54_2).f2) = some r) ∧ Aside0 (kq ≤ k2) ∧ Aside0 (Kd.V k65 65 wc w.heap.size (fun k_ => ((P0_ k_ ∨ P1_ k_) ∨ w.heap.size ≤ k_) ∧ some k_ ≠ (u12 : Value).ownBlock ∧ some k_ ≠ ((.slice (some ad529) t526.length co35) : Value).ownBlock ∧ k_ ≠ gb530) (.slice A0 x0_2.length c0) x0_2) ∧ Aside0 (Kd.V k65 65 wc w.heap.size (fun k_ => ((P0_ k_ ∨ P1_ k_) ∨ w.heap.size ≤ k_) ∧ some k_ ≠ (u12 : Value).ownBlock ∧ some k_ ≠ ((.slice (some ad529) t526.length co35) : Value).ownBlock ∧ k_ ≠ gb530) (.slice A1 x1_2.length c1) x1_2) ∧ Aside0 (Kd.R k65 65 wc w.heap.size (fun k_ => (w.heap.size ≤ k_)) u12 x12_2) ∧ Aside0 (Kd.R k24 24 wc w.heap.size (fun k_ => (w.heap.size ≤ k_) ∧ k_ ≠ gb530) (.slice (some ad529) t526.length co35) t526) ∧ Aside0 (wc.heap[gb530]? = some (.cells #[.int .i64 ((rd_T24 t526 x54_2).f0), .int .i64 ((rd_T24 t526 x54_2).f1), .string ((rd_T24 t526 x54_2).f2)] 24 (0, 0))) ∧ Aside0 (Below w.heap.size w wc))
      case first =>
       have H := HC42.out
       clear HC42
       by_cases c49 : t533 = true
       rotate_left
       ·replace c49 := Bool.eq_false_iff.mpr c49
        subst c49
        rw [if_neg (show ¬ (false = true) by decide)] at H
        have H' := Aside0.mk H
        clear H
        go_wp2
        go_meet
        case rel => exact ⟨_, (false), (by first | rfl | (simp; done) | (simp [*]; done)), H', ⟨by have := HK1.out; have := HK2.out; first | omega | exact Nat.le_refl _⟩, ⟨by (try simp only [hl0_2]); (try simp only [hl1_2]); (with_reducible repeat (first | apply Kd.V_alloc | apply Kd.V_drewN | apply Kd.V_drew)); exact HO_0.out⟩, ⟨by (try simp only [hl0_2]); (try simp only [hl1_2]); (with_reducible repeat (first | apply Kd.V_alloc | apply Kd.V_drewN | apply Kd.V_drew)); exact HO_1.out⟩, ⟨by (try simp only [hl0_2]); (try simp only [hl1_2]); (with_reducible repeat (first | apply Kd.R_alloc | apply Kd.R_drewN | apply Kd.R_drew)); exact HO_12.out⟩, ⟨by (try simp only [hl0_2]); (try simp only [hl1_2]); (with_reducible repeat (first | apply Kd.R_alloc | apply Kd.R_drewN | apply Kd.R_drew)); exact HO_52.out⟩, ⟨by (try simp only [hl0_2]); (try simp only [hl1_2]); (with_reducible repeat (first | refine blk_drewN ?_ _ | refine blk_drew ?_ | refine blk_alloc ?_ _)); exact BK530.out⟩, ⟨bS GE530.out⟩⟩
       subst c49
       rw [if_pos rfl] at H
       have H' := Aside0.mk H
       clear H
       go_wp2
       go_meet
       case rel => exact ⟨_, (!x13_2), (by first | rfl | (simp; done) | (simp [*]; done)), H', ⟨by have := HK1.out; have := HK2.out; first | omega | exact Nat.le_refl _⟩, ⟨by (try simp only [hl0_2]); (try simp only [hl1_2]); (with_reducible repeat (first | apply Kd.V_alloc | apply Kd.V_drewN | apply Kd.V_drew)); exact HO_0.out⟩, ⟨by (try simp only [hl0_2]); (try simp only [hl1_2]); (with_reducible repeat (first | apply Kd.V_alloc | apply Kd.V_drewN | apply Kd.V_drew)); exact HO_1.out⟩, ⟨by (try simp only [hl0_2]); (try simp only [hl1_2]); (with_reducible repeat (first | apply Kd.R_alloc | apply Kd.R_drewN | apply Kd.R_drew)); exact HO_12.out⟩, ⟨by (try simp only [hl0_2]); (try simp only [hl1_2]); (with_reducible repeat (first | apply Kd.R_alloc | apply Kd.R_drewN | apply Kd.R_drew)); exact HO_52.out⟩, ⟨by (try simp only [hl0_2]); (try simp only [hl1_2]); (with_reducible repeat (first | refine blk_drewN ?_ _ | refine blk_drew ?_ | refine blk_alloc ?_ _)); exact BK530.out⟩, ⟨bS GE530.out⟩⟩
      case rest =>
       clear HC42
       try clear c1
       try clear q1
       try clear c2
       try clear p2
       try clear c3
       try clear c4
       try clear c5
       try clear p5
       try clear q5
       try clear hx5
       try clear p6
       try clear c7
       try clear c8
       try clear c9
       try clear c10
       try clear c11
       try clear c11b0
       try clear c12
       try clear c12b0
       try clear c13
       try clear c13b0
       try clear c14
       try clear c14b0
       try clear c15
       try clear c15b0
       try clear c16
       try clear c16b0
       try clear c17
       try clear q18
       try clear c19
       try clear c24
       try clear c36
       try clear c36b0
       try clear c37
       try clear c37b0
       try clear c38
       try clear c38b0
       try clear c49
       try clear hcz21_0 hcz21_1 hcz21_2 hcz21_3 hcz21_4 hcz21_5 hcz21_6
       try clear hcz23_0 hcz23_1 hcz23_2 hcz23_3 hcz23_4 hcz23_5 hcz23_6
       try clear hcz26_0 hcz26_1 hcz26_2 hcz26_3 hcz26_4 hcz26_5 hcz26_6
       try clear hcz28_0 hcz28_1 hcz28_2 hcz28_3 hcz28_4 hcz28_5 hcz28_6
       try clear hcz44_0 hcz44_1 hcz44_2
       try clear hfz21_0 hfz21_1 hfz21_2 hfz21_3 hfz21_4 hfz21_5 hfz21_6
       try clear hfz23_0 hfz23_1 hfz23_2 hfz23_3 hfz23_4 hfz23_5 hfz23_6
       try clear hfz26_0 hfz26_1 hfz26_2 hfz26_3 hfz26_4 hfz26_5 hfz26_6
       try clear hfz28_0 hfz28_1 hfz28_2 hfz28_3 hfz28_4 hfz28_5 hfz28_6
       try clear hfz44_0 hfz44_1 hfz44_2
       try clear hx516_0
       try clear hx517_0
       try clear hx517_1
       try clear hx517_2
       try clear hx517_3
       try clear hx517_4
       try clear hx517_5
       try clear hx517_6
       try clear hx529_0
       try clear hx529_1
       try clear hx529_2
       try clear p2
       try clear p5
       try clear p516
       try clear p517
       try clear p529
       try clear p6
       try clear q1
       try clear q18
       try clear q5
       try clear q516
       try clear q517
       try clear q529
       obtain ⟨kq, x70_41, rfl, HA, HJ41, HO_0, HO_1, HO_12, HO_52, BK530, HB⟩ := hcut
       cases kq with
       | zero => exact absurd HA.out (by simp [i_merge.j3])
       | succ kj41 =>
        have H := HA.out
        clear HA
        simp only [i_merge.j3] at H
        by_cases c50 : x70_41 = true
        rotate_left
        ·replace c50 := Bool.eq_false_iff.mpr c50
         subst c50
         rw [if_neg (show ¬ (false = true) by decide)] at H
         by_cases c71 : t533 = true
         rotate_left
         ·replace c71 := Bool.eq_false_iff.mpr c71
          subst c71
          rw [if_neg (show ¬ (false = true) by decide)] at H
          by_cases c72 : x13_2 = true
          rotate_left
          ·replace c72 := Bool.eq_false_iff.mpr c72
           subst c72
           rw [if_neg (show ¬ (false = true) by decide)] at H
           have H' := Aside0.mk H
           clear H
           go_wp2
           (try simp only [← hl0_2, ← hl1_2])
           go_roundg kj41
           case measure => have := HK1.out; have := HK2.out; have := HJ41.out; omega
           case rel => exact ⟨(x0_2), (x1_2), (x12_2), (false), (wrap64 (x54_2 + 1)), (by first | rfl | (simp; done) | (simp [*]; done)), (by first | rfl | (simp; done) | (simp [*]; done)), H', ⟨by have := HK1.out; have := HK2.out; have := HJ41.out; omega⟩, ⟨by (try simp only [hl0_2]); (try simp only [hl1_2]); (with_reducible repeat (first | apply Kd.V_alloc | apply Kd.V_drewN | apply Kd.V_drew)); exact Kd.V_mono HO_0.out (fun _ hk => ⟨hk.1, ⟨hk.2.1, hk.2.2.1⟩⟩)⟩, ⟨by (try simp only [hl0_2]); (try simp only [hl1_2]); (with_reducible repeat (first | apply Kd.V_alloc | apply Kd.V_drewN | apply Kd.V_drew)); exact Kd.V_mono HO_1.out (fun _ hk => ⟨hk.1, ⟨hk.2.1, hk.2.2.1⟩⟩)⟩, ⟨by (try simp only [hl0_2]); (try simp only [hl1_2]); (with_reducible repeat (first | apply Kd.R_alloc | apply Kd.R_drewN | apply Kd.R_drew)); exact HO_12.out⟩, ⟨by (try simp only [hl0_2]); (try simp only [hl1_2]); (with_reducible repeat (first | apply Kd.R_alloc | apply Kd.R_drewN | apply Kd.R_drew)); exact Kd.R_mono HO_52.out (fun _ hk => hk.1)⟩, ⟨bS GE530.out⟩⟩
          subst c72
          rw [if_pos rfl] at H
          obtain ⟨ji73, hji73⟩ : ∃ j_ : Int, (wrap64 ((x12_2.length : Int) - 1)) = j_ := ⟨_, rfl⟩
          replace H : (if 0 ≤ (ji73) then (if (ji73) < (x12_2.length : Int) then ((some (x12_2.set ((ji73) : Int).toNat (⟨(⟨(rd_T65 x12_2 (ji73)).f0.f0, (rd_T65 x12_2 (ji73)).f0.f1, (rd_T65 x12_2 (ji73)).f0.f2⟩ : S24), (⟨(rd_T65 x12_2 (ji73)).f1.f0, (rd_T65 x12_2 (ji73)).f1.f1, (rd_T65 x12_2 (ji73)).f1.f2⟩ : S24), false⟩ : S65) : List (S65))).bind fun y539 => (i_merge.l2 kp kj41 x0_2 x1_2 (y539.set ((ji73) : Int).toNat (⟨(⟨(rd_T65 y539 (ji73)).f0.f0, (rd_T65 y539 (ji73)).f0.f1, (rd_T65 y539 (ji73)).f0.f2⟩ : S24), (⟨((rd_T24 t526 x54_2).f0), ((rd_T24 t526 x54_2).f1), ((rd_T24 t526 x54_2).f2)⟩ : S24), (rd_T65 y539 (ji73)).f2⟩ : S65)) false t526 (t526.length : Int) (wrap64 (x54_2 + 1)))) else (none)) else (none)) = some r := by first | (rw [hji73] at H; exact H) | (simp only [hji73] at H ⊢; exact H)
          have hji73w : (IntKind.i64.wrap ((x12_2.length : Int) - 1)) = ji73 := (i64_w _).trans hji73
          by_cases c74 : 0 ≤ (ji73)
          rotate_left
          ·rw [if_neg c74] at H
           exact absurd H (by simp)
          rw [if_pos c74] at H
          have c74b0 : decide (0 ≤ (ji73)) = true := decide_eq_true c74
          clear c74
          by_cases c75 : (ji73) < (x12_2.length : Int)
          rotate_left
          ·rw [if_neg c75] at H
           exact absurd H (by simp)
          rw [if_pos c75] at H
          have c75b0 : decide ((ji73) < (x12_2.length : Int)) = true := decide_eq_true c75
          clear c75
          obtain ⟨y539, hy539⟩ : ∃ y_ : List (S65), y_ = (x12_2.set ((ji73) : Int).toNat (⟨(⟨(rd_T65 x12_2 (ji73)).f0.f0, (rd_T65 x12_2 (ji73)).f0.f1, (rd_T65 x12_2 (ji73)).f0.f2⟩ : S24), (⟨(rd_T65 x12_2 (ji73)).f1.f0, (rd_T65 x12_2 (ji73)).f1.f1, (rd_T65 x12_2 (ji73)).f1.f2⟩ : S24), false⟩ : S65)) := ⟨_, rfl⟩
          replace H : (i_merge.l2 kp kj41 x0_2 x1_2 (y539.set ((ji73) : Int).toNat (⟨(⟨(rd_T65 y539 (ji73)).f0.f0, (rd_T65 y539 (ji73)).f0.f1, (rd_T65 y539 (ji73)).f0.f2⟩ : S24), (⟨((rd_T24 t526 x54_2).f0), ((rd_T24 t526 x54_2).f1), ((rd_T24 t526 x54_2).f2)⟩ : S24), (rd_T65 y539 (ji73)).f2⟩ : S65)) false t526 (t526.length : Int) (wrap64 (x54_2 + 1))) = some r := by first | (rw [hy539]; with_reducible exact H) | (have H2_ := (Option.bind_some _ _).symm.trans H; rw [hy539]; with_reducible exact H2_) | (have H2_ := (Option.bind_some _ _).symm.trans H; with_reducible exact H2_) | with_reducible exact H | (rw [hy539]; exact H) | exact H
          have Ny539 := Aside0.mk hy539
          clear hy539
          obtain ⟨y540, hy540⟩ : ∃ y_ : List (S65), y_ = (y539.set ((ji73) : Int).toNat (⟨(⟨(rd_T65 y539 (ji73)).f0.f0, (rd_T65 y539 (ji73)).f0.f1, (rd_T65 y539 (ji73)).f0.f2⟩ : S24), (⟨((rd_T24 t526 x54_2).f0), ((rd_T24 t526 x54_2).f1), ((rd_T24 t526 x54_2).f2)⟩ : S24), (rd_T65 y539 (ji73)).f2⟩ : S65)) := ⟨_, rfl⟩
          replace H : (i_merge.l2 kp kj41 x0_2 x1_2 y540 false t526 (t526.length : Int) (wrap64 (x54_2 + 1))) = some r := by first | (rw [hy540]; with_reducible exact H) | (have H2_ := (Option.bind_some _ _).symm.trans H; rw [hy540]; with_reducible exact H2_) | (have H2_ := (Option.bind_some _ _).symm.trans H; with_reducible exact H2_) | with_reducible exact H | (rw [hy540]; exact H) | exact H
          have Ny540 := Aside0.mk hy540
          clear hy540
          have H' := Aside0.mk H
          clear H
          obtain ⟨Ao78, co78, eo78⟩ := Kd.R_slice HO_12.out
          subst eo78
          have p76 : 0 ≤ ((ji73) : Int) := of_decide_eq_true (aA)
          have q76 : ((ji73) : Int) < ((x12_2.length : Int) : Int) := of_decide_eq_true (aA)
          obtain ⟨go76, co76, eo76, gb76, gl76, cl76, HG76⟩ := Kd.R_form HO_12.out (by omega)
          (first | cases eo76 | (injection eo76 with ea_ en_ ec_; (first | subst ea_ | (injection ea_ with ea_; subst ea_)); subst ec_; clear en_))
          have GB76 := Aside0.mk gb76
          have GG76 := Aside0.mk HG76
          clear gb76 gl76 HG76
          obtain ⟨ce76, hcl76, hM76, hcc76, hfr76⟩ := Kd.R_elem HO_12.out z65 ((ji73) : Int) p76 q76
          obtain rfl := k65_openM hM76
          have hx76_0 : wc.cell? ⟨go76, ((ji73) : Int).toNat * 7, none⟩ = some (.int .i64 ((rd_T65 x12_2 (ji73)).f0.f0)) := hcc76 0 _ rfl
          have hx76_1 : wc.cell? ⟨go76, ((ji73) : Int).toNat * 7 + 1, none⟩ = some (.int .i64 ((rd_T65 x12_2 (ji73)).f0.f1)) := hcc76 1 _ rfl
          have hx76_2 : wc.cell? ⟨go76, ((ji73) : Int).toNat * 7 + 2, none⟩ = some (.string ((rd_T65 x12_2 (ji73)).f0.f2)) := hcc76 2 _ rfl
          have hx76_3 : wc.cell? ⟨go76, ((ji73) : Int).toNat * 7 + 3, none⟩ = some (.int .i64 ((rd_T65 x12_2 (ji73)).f1.f0)) := hcc76 3 _ rfl
          have hx76_4 : wc.cell? ⟨go76, ((ji73) : Int).toNat * 7 + 4, none⟩ = some (.int .i64 ((rd_T65 x12_2 (ji73)).f1.f1)) := hcc76 4 _ rfl
          have hx76_5 : wc.cell? ⟨go76, ((ji73) : Int).toNat * 7 + 5, none⟩ = some (.string ((rd_T65 x12_2 (ji73)).f1.f2)) := hcc76 5 _ rfl
          have hx76_6 : wc.cell? ⟨go76, ((ji73) : Int).toNat * 7 + 6, none⟩ = some (.bool ((rd_T65 x12_2 (ji73)).f2)) := hcc76 6 _ rfl
          have hf76_0 : wc.frozen? ⟨go76, ((ji73) : Int).toNat * 7, none⟩ = false := hfr76 0
          have hf76_1 : wc.frozen? ⟨go76, ((ji73) : Int).toNat * 7 + 1, none⟩ = false := hfr76 1
          have hf76_2 : wc.frozen? ⟨go76, ((ji73) : Int).toNat * 7 + 2, none⟩ = false := hfr76 2
          have hf76_3 : wc.frozen? ⟨go76, ((ji73) : Int).toNat * 7 + 3, none⟩ = false := hfr76 3
          have hf76_4 : wc.frozen? ⟨go76, ((ji73) : Int).toNat * 7 + 4, none⟩ = false := hfr76 4
          have hf76_5 : wc.frozen? ⟨go76, ((ji73) : Int).toNat * 7 + 5, none⟩ = false := hfr76 5
          have hf76_6 : wc.frozen? ⟨go76, ((ji73) : Int).toNat * 7 + 6, none⟩ = false := hfr76 6
          clear hcl76 hcc76 hfr76 hM76
          replace p76 := eq_true p76
          replace q76 := eq_true q76
          have HX79 := aK (show Kd.R k65 65 wc w.heap.size (fun k_ => (w.heap.size ≤ k_)) (.slice (some ⟨go76, 0, none⟩) x12_2.length co78) x12_2 from (rX HO_12.out))
          obtain ⟨ce79, hcl79, hM79, hcc79, hfr79⟩ := Kd.R_elem HX79.out z65 ((ji73) : Int) (of_decide_eq_true (aA)) (by have h_ : ((ji73) : Int) < ((x12_2.length : Int) : Int) := of_decide_eq_true (aA); first | exact h_ | (have e_ := (Kd.R_reads' HO_12.out).1; omega) | simpa using h_)
          obtain rfl := k65_openM hM79
          have HP79 := Kd.R_seg HX79.out ((ji73) : Int) (of_decide_eq_true (aA)) (by have h_ : ((ji73) : Int) < ((x12_2.length : Int) : Int) := of_decide_eq_true (aA); first | exact h_ | (have e_ := (Kd.R_reads' HO_12.out).1; omega) | simpa using h_) (seg := [.bool false]) (j := 6) hcl79 hcc79 (show 7 ≤ 7 from by decide) (x' := (⟨(⟨(rd_T65 x12_2 (ji73)).f0.f0, (rd_T65 x12_2 (ji73)).f0.f1, (rd_T65 x12_2 (ji73)).f0.f2⟩ : S24), (⟨(rd_T65 x12_2 (ji73)).f1.f0, (rd_T65 x12_2 (ji73)).f1.f1, (rd_T65 x12_2 (ji73)).f1.f2⟩ : S24), false⟩ : S65)) (k65_mkM _ _ _ (⟨(⟨(rd_T65 x12_2 (ji73)).f0.f0, (rd_T65 x12_2 (ji73)).f0.f1, (rd_T65 x12_2 (ji73)).f0.f2⟩ : S24), (⟨(rd_T65 x12_2 (ji73)).f1.f0, (rd_T65 x12_2 (ji73)).f1.f1, (rd_T65 x12_2 (ji73)).f1.f2⟩ : S24), false⟩ : S65) ) (fun _ hk => hk)
          have hx79_6 := hcc79 6 _ rfl
          (try simp only [show (k65).sz = 7 from rfl, Nat.mul_one, Nat.add_zero] at hx79_6)
          have hf79_6 := hfr79 6
          (try simp only [show (k65).sz = 7 from rfl, Nat.mul_one, Nat.add_zero] at hf79_6)
          clear hcl79 hcc79 hfr79 hM79
          go_wp2_with (first | ((with_reducible refine gate_store (t := 4) (p := 86) rfl ?_); refine store_event (t := 4) (p := 86) (v := ?vo_w80) (w1 := (wc.setCell ⟨go76, ((ji73) : Int).toNat * 7 + 6, none⟩ (.bool false))) ?hg ?ho ?hn ?hr ?_; (case ho => rfl); (case hg => rfl); (case hn => rfl); (case hr => first | (go_simp; done) | (go_simp; rfl)); intro w80 hw; have hg : wc.grownBy w80 (some go76) := (by rw [hw]; exact HP79.2); have hp_ : Kd.R k65 65 w80 w.heap.size (fun k_ => (w.heap.size ≤ k_)) (.slice (some ⟨go76, 0, none⟩) x12_2.length co78) y539 := (by rw [hw, Ny539.out]; exact HP79.1); clear HP79; have n0_ := aK (Kd.V_afterv (v := (.slice (some ⟨go76, 0, none⟩) x12_2.length co78)) (v1 := (.slice (some ⟨go76, 0, none⟩) x12_2.length co78)) (ok := (fun k_ => ((P0_ k_ ∨ P1_ k_) ∨ w.heap.size ≤ k_) ∧ some k_ ≠ (.slice (some ad529) t526.length co35 : Value).ownBlock ∧ k_ ≠ gb530)) (by (with_reducible repeat (first | apply Kd.V_alloc | apply Kd.V_drewN | apply Kd.V_drew)); exact Kd.V_mono HO_0.out (fun _ hk => ⟨⟨hk.1, ⟨hk.2.2.1, hk.2.2.2⟩⟩, hk.2.1⟩)) hg (.inl rfl)); have n1_ := aK (Kd.V_afterv (v := (.slice (some ⟨go76, 0, none⟩) x12_2.length co78)) (v1 := (.slice (some ⟨go76, 0, none⟩) x12_2.length co78)) (ok := (fun k_ => ((P0_ k_ ∨ P1_ k_) ∨ w.heap.size ≤ k_) ∧ some k_ ≠ (.slice (some ad529) t526.length co35 : Value).ownBlock ∧ k_ ≠ gb530)) (by (with_reducible repeat (first | apply Kd.V_alloc | apply Kd.V_drewN | apply Kd.V_drew)); exact Kd.V_mono HO_1.out (fun _ hk => ⟨⟨hk.1, ⟨hk.2.2.1, hk.2.2.2⟩⟩, hk.2.1⟩)) hg (.inl rfl)); have n2_ := aK (hp_); have n3_ := aK (Kd.R_over' (v := (.slice (some ⟨go76, 0, none⟩) x12_2.length co78)) (rX HO_52.out) (Kd.R_typed HO_12.out) (by decide) hg); have n4_ := aK (blk_grown (g := gb530) (o := .cells #[.int .i64 ((rd_T24 t526 x54_2).f0), .int .i64 ((rd_T24 t526 x54_2).f1), .string ((rd_T24 t526 x54_2).f2)] 24 (0, 0)) (bX BK530.out) hg (Kd.R_ne HO_12.out BK530.out (by decide))); have n5_ := aK ((by rw [hw]; exact below_set (HB.out) GB76.out : Below w.heap.size w w80)); clear HO_0 HO_1 HO_12 HO_52 BK530 HB; have HO_0 := n0_; have HO_1 := n1_; have HO_12 := n2_; have HO_52 := n3_; have BK530 := n4_; have HB := n5_; clear n0_ n1_ n2_ n3_ n4_ n5_ hg hw hp_; obtain ⟨hcz81_0, hcz81_1, hcz81_2⟩ := z3 BK530.out (.int .i64 ((rd_T24 t526 x54_2).f0)) (.int .i64 ((rd_T24 t526 x54_2).f1)) (.string ((rd_T24 t526 x54_2).f2)); obtain ⟨hfz81_0, hfz81_1, hfz81_2⟩ := f3 BK530.out; have p77 : 0 ≤ ((ji73) : Int) := of_decide_eq_true (aA); have q77 : ((ji73) : Int) < ((x12_2.length : Int) : Int) := of_decide_eq_true (aA); obtain ⟨ce77, hcl77, hM77, hcc77, hfr77⟩ := Kd.R_elem HO_12.out z65 ((ji73) : Int) p77 q77; obtain rfl := k65_openM hM77; have hx77_0 : w80.cell? ⟨go76, ((ji73) : Int).toNat * 7, none⟩ = some (.int .i64 ((rd_T65 y539 (ji73)).f0.f0)) := hcc77 0 _ rfl; have hx77_1 : w80.cell? ⟨go76, ((ji73) : Int).toNat * 7 + 1, none⟩ = some (.int .i64 ((rd_T65 y539 (ji73)).f0.f1)) := hcc77 1 _ rfl; have hx77_2 : w80.cell? ⟨go76, ((ji73) : Int).toNat * 7 + 2, none⟩ = some (.string ((rd_T65 y539 (ji73)).f0.f2)) := hcc77 2 _ rfl; have hx77_3 : w80.cell? ⟨go76, ((ji73) : Int).toNat * 7 + 3, none⟩ = some (.int .i64 ((rd_T65 y539 (ji73)).f1.f0)) := hcc77 3 _ rfl; have hx77_4 : w80.cell? ⟨go76, ((ji73) : Int).toNat * 7 + 4, none⟩ = some (.int .i64 ((rd_T65 y539 (ji73)).f1.f1)) := hcc77 4 _ rfl; have hx77_5 : w80.cell? ⟨go76, ((ji73) : Int).toNat * 7 + 5, none⟩ = some (.string ((rd_T65 y539 (ji73)).f1.f2)) := hcc77 5 _ rfl; have hx77_6 : w80.cell? ⟨go76, ((ji73) : Int).toNat * 7 + 6, none⟩ = some (.bool ((rd_T65 y539 (ji73)).f2)) := hcc77 6 _ rfl; have hf77_0 : w80.frozen? ⟨go76, ((ji73) : Int).toNat * 7, none⟩ = false := hfr77 0; have hf77_1 : w80.frozen? ⟨go76, ((ji73) : Int).toNat * 7 + 1, none⟩ = false := hfr77 1; have hf77_2 : w80.frozen? ⟨go76, ((ji73) : Int).toNat * 7 + 2, none⟩ = false := hfr77 2; have hf77_3 : w80.frozen? ⟨go76, ((ji73) : Int).toNat * 7 + 3, none⟩ = false := hfr77 3; have hf77_4 : w80.frozen? ⟨go76, ((ji73) : Int).toNat * 7 + 4, none⟩ = false := hfr77 4; have hf77_5 : w80.frozen? ⟨go76, ((ji73) : Int).toNat * 7 + 5, none⟩ = false := hfr77 5; have hf77_6 : w80.frozen? ⟨go76, ((ji73) : Int).toNat * 7 + 6, none⟩ = false := hfr77 6; clear hcl77 hcc77 hfr77 hM77; replace p77 := eq_true p77; replace q77 := eq_true q77; have HX82 := aK (show Kd.R k65 65 w80 w.heap.size (fun k_ => (w.heap.size ≤ k_)) (.slice (some ⟨go76, 0, none⟩) x12_2.length co78) y539 from (rX HO_12.out)); obtain ⟨ce82, hcl82, hM82, hcc82, hfr82⟩ := Kd.R_elem HX82.out z65 ((ji73) : Int) (of_decide_eq_true (aA)) (by have h_ : ((ji73) : Int) < ((x12_2.length : Int) : Int) := of_decide_eq_true (aA); first | exact h_ | (have e_ := (Kd.R_reads' HO_12.out).1; omega) | simpa using h_); obtain rfl := k65_openM hM82; have HP82 := Kd.R_seg HX82.out ((ji73) : Int) (of_decide_eq_true (aA)) (by have h_ : ((ji73) : Int) < ((x12_2.length : Int) : Int) := of_decide_eq_true (aA); first | exact h_ | (have e_ := (Kd.R_reads' HO_12.out).1; omega) | simpa using h_) (seg := [.int .i64 ((rd_T24 t526 x54_2).f0), .int .i64 ((rd_T24 t526 x54_2).f1), .string ((rd_T24 t526 x54_2).f2)]) (j := 3) hcl82 hcc82 (show 6 ≤ 7 from by decide) (x' := (⟨(⟨(rd_T65 y539 (ji73)).f0.f0, (rd_T65 y539 (ji73)).f0.f1, (rd_T65 y539 (ji73)).f0.f2⟩ : S24), (⟨((rd_T24 t526 x54_2).f0), ((rd_T24 t526 x54_2).f1), ((rd_T24 t526 x54_2).f2)⟩ : S24), (rd_T65 y539 (ji73)).f2⟩ : S65)) (k65_mkM _ _ _ (⟨(⟨(rd_T65 y539 (ji73)).f0.f0, (rd_T65 y539 (ji73)).f0.f1, (rd_T65 y539 (ji73)).f0.f2⟩ : S24), (⟨((rd_T24 t526 x54_2).f0), ((rd_T24 t526 x54_2).f1), ((rd_T24 t526 x54_2).f2)⟩ : S24), (rd_T65 y539 (ji73)).f2⟩ : S65) ) (fun _ hk => hk); have hx82_3 := hcc82 3 _ rfl; (try simp only [show (k65).sz = 7 from rfl, Nat.mul_one, Nat.add_zero] at hx82_3); have hf82_3 := hfr82 3; (try simp only [show (k65).sz = 7 from rfl, Nat.mul_one, Nat.add_zero] at hf82_3); have hx82_4 := hcc82 4 _ rfl; (try simp only [show (k65).sz = 7 from rfl, Nat.mul_one, Nat.add_zero] at hx82_4); have hf82_4 := hfr82 4; (try simp only [show (k65).sz = 7 from rfl, Nat.mul_one, Nat.add_zero] at hf82_4); have hx82_5 := hcc82 5 _ rfl; (try simp only [show (k65).sz = 7 from rfl, Nat.mul_one, Nat.add_zero] at hx82_5); have hf82_5 := hfr82 5; (try simp only [show (k65).sz = 7 from rfl, Nat.mul_one, Nat.add_zero] at hf82_5); clear hcl82 hcc82 hfr82 hM82) | ((with_reducible refine gate_store (t := 24) (p := 93) rfl ?_); refine store_event (t := 24) (p := 93) (v := ?vo_w83) (w1 := (((w80.setCell ⟨go76, ((ji73) : Int).toNat * 7 + 3, none⟩ (.int .i64 ((rd_T24 t526 x54_2).f0))).setCell ⟨go76, ((ji73) : Int).toNat * 7 + 4, none⟩ (.int .i64 ((rd_T24 t526 x54_2).f1))).setCell ⟨go76, ((ji73) : Int).toNat * 7 + 5, none⟩ (.string ((rd_T24 t526 x54_2).f2)))) ?hg ?ho ?hn ?hr ?_; (case ho => rfl); (case hg => rfl); (case hn => rfl); (case hr => first | (go_simp; done) | (go_simp; rfl)); intro w83 hw; have hg : w80.grownBy w83 (some go76) := (by rw [hw]; exact HP82.2); have hp_ : Kd.R k65 65 w83 w.heap.size (fun k_ => (w.heap.size ≤ k_)) (.slice (some ⟨go76, 0, none⟩) x12_2.length co78) y540 := (by rw [hw, Ny540.out]; exact HP82.1); clear HP82; have n0_ := aK (Kd.V_afterv (v := (.slice (some ⟨go76, 0, none⟩) x12_2.length co78)) (v1 := (.slice (some ⟨go76, 0, none⟩) x12_2.length co78)) (ok := (fun k_ => ((P0_ k_ ∨ P1_ k_) ∨ w.heap.size ≤ k_) ∧ some k_ ≠ (.slice (some ad529) t526.length co35 : Value).ownBlock ∧ k_ ≠ gb530)) (vX HO_0.out) hg (.inl rfl)); have n1_ := aK (Kd.V_afterv (v := (.slice (some ⟨go76, 0, none⟩) x12_2.length co78)) (v1 := (.slice (some ⟨go76, 0, none⟩) x12_2.length co78)) (ok := (fun k_ => ((P0_ k_ ∨ P1_ k_) ∨ w.heap.size ≤ k_) ∧ some k_ ≠ (.slice (some ad529) t526.length co35 : Value).ownBlock ∧ k_ ≠ gb530)) (vX HO_1.out) hg (.inl rfl)); have n2_ := aK (hp_); have n3_ := aK (Kd.R_over' (v := (.slice (some ⟨go76, 0, none⟩) x12_2.length co78)) (rX HO_52.out) (Kd.R_typed HO_12.out) (by decide) hg); have n4_ := aK (blk_grown (g := gb530) (o := .cells #[.int .i64 ((rd_T24 t526 x54_2).f0), .int .i64 ((rd_T24 t526 x54_2).f1), .string ((rd_T24 t526 x54_2).f2)] 24 (0, 0)) (bX BK530.out) hg (Kd.R_ne HO_12.out BK530.out (by decide))); have n5_ := aK ((by rw [hw]; exact below_set (below_set (below_set (HB.out) GB76.out) GB76.out) GB76.out : Below w.heap.size w w83)); clear HO_0 HO_1 HO_12 HO_52 BK530 HB; have HO_0 := n0_; have HO_1 := n1_; have HO_12 := n2_; have HO_52 := n3_; have BK530 := n4_; have HB := n5_; clear n0_ n1_ n2_ n3_ n4_ n5_ hg hw hp_))
          (try simp only [← hl0_2, ← hl1_2])
          go_roundg kj41
          case measure => have := HK1.out; have := HK2.out; have := HJ41.out; omega
          case rel => exact ⟨(x0_2), (x1_2), (y540), (false), (wrap64 (x54_2 + 1)), (by first | rfl | (simp; done) | (simp [*]; done)), (by first | rfl | (simp; done) | (simp [*]; done)), H', ⟨by have := HK1.out; have := HK2.out; have := HJ41.out; omega⟩, ⟨by (try simp only [hl0_2]); (try simp only [hl1_2]); (with_reducible repeat (first | apply Kd.V_alloc | apply Kd.V_drewN | apply Kd.V_drew)); exact Kd.V_mono HO_0.out (fun _ hk => ⟨hk.1.1, ⟨hk.2, hk.1.2.1⟩⟩)⟩, ⟨by (try simp only [hl0_2]); (try simp only [hl1_2]); (with_reducible repeat (first | apply Kd.V_alloc | apply Kd.V_drewN | apply Kd.V_drew)); exact Kd.V_mono HO_1.out (fun _ hk => ⟨hk.1.1, ⟨hk.2, hk.1.2.1⟩⟩)⟩, ⟨by (try simp only [hl0_2]); (try simp only [hl1_2]); (with_reducible repeat (first | apply Kd.R_alloc | apply Kd.R_drewN | apply Kd.R_drew)); exact HO_12.out⟩, ⟨by (try simp only [hl0_2]); (try simp only [hl1_2]); (with_reducible repeat (first | apply Kd.R_alloc | apply Kd.R_drewN | apply Kd.R_drew)); exact Kd.R_mono HO_52.out (fun _ hk => hk.1)⟩, ⟨bS GE530.out⟩⟩
         subst c71
         rw [if_pos rfl] at H
         have H' := Aside0.mk H
         clear H
         go_wp2
         (try simp only [← hl0_2, ← hl1_2])
         go_roundg kj41
         case measure => have := HK1.out; have := HK2.out; have := HJ41.out; omega
         case rel => exact ⟨(x0_2), (x1_2), (x12_2), (true), (wrap64 (x54_2 + 1)), (by first | rfl | (simp; done) | (simp [*]; done)), (by first | rfl | (simp; done) | (simp [*]; done)), H', ⟨by have := HK1.out; have := HK2.out; have := HJ41.out; omega⟩, ⟨by (try simp only [hl0_2]); (try simp only [hl1_2]); (with_reducible repeat (first | apply Kd.V_alloc | apply Kd.V_drewN | apply Kd.V_drew)); exact Kd.V_mono HO_0.out (fun _ hk => ⟨hk.1, ⟨hk.2.1, hk.2.2.1⟩⟩)⟩, ⟨by (try simp only [hl0_2]); (try simp only [hl1_2]); (with_reducible repeat (first | apply Kd.V_alloc | apply Kd.V_drewN | apply Kd.V_drew)); exact Kd.V_mono HO_1.out (fun _ hk => ⟨hk.1, ⟨hk.2.1, hk.2.2.1⟩⟩)⟩, ⟨by (try simp only [hl0_2]); (try simp only [hl1_2]); (with_reducible repeat (first | apply Kd.R_alloc | apply Kd.R_drewN | apply Kd.R_drew)); exact HO_12.out⟩, ⟨by (try simp only [hl0_2]); (try simp only [hl1_2]); (with_reducible repeat (first | apply Kd.R_alloc | apply Kd.R_drewN | apply Kd.R_drew)); exact Kd.R_mono HO_52.out (fun _ hk => hk.1)⟩, ⟨bS GE530.out⟩⟩
        subst c50
        rw [if_pos rfl] at H
        by_cases c51 : x12_2.length < 1954687338268
        rotate_left
        ·rw [if_neg c51] at H
         exact absurd H (by simp)
        rw [if_pos c51] at H
        have LMc51 := Aside0.mk c51
        clear c51
        obtain ⟨y534, hy534⟩ : ∃ y_ : List (S65), y_ = (x12_2 ++ [(⟨(⟨((rd_T24 t526 x54_2).f0), ((rd_T24 t526 x54_2).f1), ((rd_T24 t526 x54_2).f2)⟩ : S24), (⟨0, 0, (⟨#[]⟩ : ByteArray)⟩ : S24), true⟩ : S65)]) := ⟨_, rfl⟩
        replace H : (if t533 = true then (i_merge.l2 kp kj41 x0_2 x1_2 y534 t533 t526 (t526.length : Int) (wrap64 (x54_2 + 1))) else (if x13_2 = true then (if 0 ≤ (wrap64 ((y534.length : Int) - 1)) then (if (wrap64 ((y534.length : Int) - 1)) < (y534.length : Int) then ((some (y534.set ((wrap64 ((y534.length : Int) - 1)) : Int).toNat (⟨(⟨(rd_T65 y534 (wrap64 ((y534.length : Int) - 1))).f0.f0, (rd_T65 y534 (wrap64 ((y534.length : Int) - 1))).f0.f1, (rd_T65 y534 (wrap64 ((y534.length : Int) - 1))).f0.f2⟩ : S24), (⟨(rd_T65 y534 (wrap64 ((y534.length : Int) - 1))).f1.f0, (rd_T65 y534 (wrap64 ((y534.length : Int) - 1))).f1.f1, (rd_T65 y534 (wrap64 ((y534.length : Int) - 1))).f1.f2⟩ : S24), false⟩ : S65) : List (S65))).bind fun y537 => (i_merge.l2 kp kj41 x0_2 x1_2 (y537.set ((wrap64 ((y534.length : Int) - 1)) : Int).toNat (⟨(⟨(rd_T65 y537 (wrap64 ((y534.length : Int) - 1))).f0.f0, (rd_T65 y537 (wrap64 ((y534.length : Int) - 1))).f0.f1, (rd_T65 y537 (wrap64 ((y534.length : Int) - 1))).f0.f2⟩ : S24), (⟨((rd_T24 t526 x54_2).f0), ((rd_T24 t526 x54_2).f1), ((rd_T24 t526 x54_2).f2)⟩ : S24), (rd_T65 y537 (wrap64 ((y534.length : Int) - 1))).f2⟩ : S65)) t533 t526 (t526.length : Int) (wrap64 (x54_2 + 1)))) else (none)) else (none)) else (i_merge.l2 kp kj41 x0_2 x1_2 y534 t533 t526 (t526.length : Int) (wrap64 (x54_2 + 1))))) = some r := by first | (rw [hy534]; with_reducible exact H) | (have H2_ := (Option.bind_some _ _).symm.trans H; rw [hy534]; with_reducible exact H2_) | (have H2_ := (Option.bind_some _ _).symm.trans H; with_reducible exact H2_) | with_reducible exact H | (rw [hy534]; exact H) | exact H
        have Ny534 := Aside0.mk hy534
        clear hy534
        by_cases c52 : t533 = true
        rotate_left
        ·replace c52 := Bool.eq_false_iff.mpr c52
         subst c52
         rw [if_neg (show ¬ (false = true) by decide)] at H
         by_cases c55 : x13_2 = true
         rotate_left
         ·replace c55 := Bool.eq_false_iff.mpr c55
          subst c55
          rw [if_neg (show ¬ (false = true) by decide)] at H
          have H' := Aside0.mk H
          clear H
          obtain ⟨hcz69_0, hcz69_1, hcz69_2⟩ := z3 BK530.out (.int .i64 ((rd_T24 t526 x54_2).f0)) (.int .i64 ((rd_T24 t526 x54_2).f1)) (.string ((rd_T24 t526 x54_2).f2))
          obtain ⟨hfz69_0, hfz69_1, hfz69_2⟩ := f3 BK530.out
          go_wp2_with (first | ((with_reducible refine gate_builtin (b := .append) (xs := #[.tmp 71, .tmp 74]) rfl ?_); at_builtin; refine Kd.R_append k65 (w0 := w) w.heap.size rfl (.tmp 71) (.tmp 74) 36 65 (.agg #[(.int .i64 0), (.int .i64 0), (.string ⟨#[]⟩), (.int .i64 0), (.int .i64 0), (.string ⟨#[]⟩), (.bool false)]) 72 rfl Try.underlying36 info65 rfl (by decide) (by omega) u12 x12_2 (⟨(⟨((rd_T24 t526 x54_2).f0), ((rd_T24 t526 x54_2).f1), ((rd_T24 t526 x54_2).f2)⟩ : S24), (⟨0, 0, (⟨#[]⟩ : ByteArray)⟩ : S24), true⟩ : S65) [.int .i64 ((rd_T24 t526 x54_2).f0), .int .i64 ((rd_T24 t526 x54_2).f1), .string ((rd_T24 t526 x54_2).f2), .int .i64 0, .int .i64 0, .string (⟨#[]⟩ : ByteArray), .bool true] (fun k_ => (w.heap.size ≤ k_)) (fun _ => False) rfl rfl ?aP (fun _ hk => hk.elim) ?aF ?aO ?aB ?aS ?aL ?_; (case aP => exact k65_mkM _ _ _ (⟨(⟨((rd_T24 t526 x54_2).f0), ((rd_T24 t526 x54_2).f1), ((rd_T24 t526 x54_2).f2)⟩ : S24), (⟨0, 0, (⟨#[]⟩ : ByteArray)⟩ : S24), true⟩ : S65)); (case aB => exact (bS GE530.out)); (case aF => exact (fun k_ hk => (Nat.le_trans (below_size (bS GE530.out)) hk))); (case aO => exact (rX HO_12.out)); (case aS => exact (below_size (bS GE530.out))); (case aL => have := LMc51.out; omega); intro v535 w70 ho hb hg hat; rw [← Ny534.out] at ho; have n0_ := aK (Kd.V_afterv (ok := (fun k_ => ((P0_ k_ ∨ P1_ k_) ∨ w.heap.size ≤ k_) ∧ some k_ ≠ (.slice (some ad529) t526.length co35 : Value).ownBlock ∧ k_ ≠ gb530)) (by (with_reducible repeat (first | apply Kd.V_alloc | apply Kd.V_drewN | apply Kd.V_drew)); exact Kd.V_mono HO_0.out (fun _ hk => ⟨⟨hk.1, ⟨hk.2.2.1, hk.2.2.2⟩⟩, hk.2.1⟩)) hg hat); have n1_ := aK (Kd.V_afterv (ok := (fun k_ => ((P0_ k_ ∨ P1_ k_) ∨ w.heap.size ≤ k_) ∧ some k_ ≠ (.slice (some ad529) t526.length co35 : Value).ownBlock ∧ k_ ≠ gb530)) (by (with_reducible repeat (first | apply Kd.V_alloc | apply Kd.V_drewN | apply Kd.V_drew)); exact Kd.V_mono HO_1.out (fun _ hk => ⟨⟨hk.1, ⟨hk.2.2.1, hk.2.2.2⟩⟩, hk.2.1⟩)) hg hat); have n2_ := aK (Kd.R_over' (rX HO_52.out) (Kd.R_typed (rX HO_12.out)) (by decide) hg); have n3_ := aK (blk_grown (g := gb530) (o := .cells #[.int .i64 ((rd_T24 t526 x54_2).f0), .int .i64 ((rd_T24 t526 x54_2).f1), .string ((rd_T24 t526 x54_2).f2)] 24 (0, 0)) (bX BK530.out) hg (Kd.R_ne HO_12.out BK530.out (by decide))); have n4_ := aK (hb); have n5_ := aK (ho); clear HO_0 HO_1 HO_52 BK530 HB HO_12; have HO_0 := n0_; have HO_1 := n1_; have HO_52 := n2_; have BK530 := n3_; have HB := n4_; have HO536 := n5_; clear n0_ n1_ n2_ n3_ n4_ n5_ ho hb hg hat))
          (try simp only [← hl0_2, ← hl1_2])
          go_roundg kj41
          case measure => have := HK1.out; have := HK2.out; have := HJ41.out; omega
          case rel => exact ⟨(x0_2), (x1_2), (y534), (false), (wrap64 (x54_2 + 1)), (by first | rfl | (simp; done) | (simp [*]; done)), (by first | rfl | (simp; done) | (simp [*]; done)), H', ⟨by have := HK1.out; have := HK2.out; have := HJ41.out; omega⟩, ⟨by (try simp only [hl0_2]); (try simp only [hl1_2]); (with_reducible repeat (first | apply Kd.V_alloc | apply Kd.V_drewN | apply Kd.V_drew)); exact Kd.V_mono HO_0.out (fun _ hk => ⟨hk.1.1, ⟨hk.2, hk.1.2.1⟩⟩)⟩, ⟨by (try simp only [hl0_2]); (try simp only [hl1_2]); (with_reducible repeat (first | apply Kd.V_alloc | apply Kd.V_drewN | apply Kd.V_drew)); exact Kd.V_mono HO_1.out (fun _ hk => ⟨hk.1.1, ⟨hk.2, hk.1.2.1⟩⟩)⟩, ⟨by (try simp only [hl0_2]); (try simp only [hl1_2]); (with_reducible repeat (first | apply Kd.R_alloc | apply Kd.R_drewN | apply Kd.R_drew)); exact HO536.out⟩, ⟨by (try simp only [hl0_2]); (try simp only [hl1_2]); (with_reducible repeat (first | apply Kd.R_alloc | apply Kd.R_drewN | apply Kd.R_drew)); exact Kd.R_mono HO_52.out (fun _ hk => hk.1)⟩, ⟨bS GE530.out⟩⟩
         subst c55
         rw [if_pos rfl] at H
         obtain ⟨ji56, hji56⟩ : ∃ j_ : Int, (wrap64 ((y534.length : Int) - 1)) = j_ := ⟨_, rfl⟩
         replace H : (if 0 ≤ (ji56) then (if (ji56) < (y534.length : Int) then ((some (y534.set ((ji56) : Int).toNat (⟨(⟨(rd_T65 y534 (ji56)).f0.f0, (rd_T65 y534 (ji56)).f0.f1, (rd_T65 y534 (ji56)).f0.f2⟩ : S24), (⟨(rd_T65 y534 (ji56)).f1.f0, (rd_T65 y534 (ji56)).f1.f1, (rd_T65 y534 (ji56)).f1.f2⟩ : S24), false⟩ : S65) : List (S65))).bind fun y537 => (i_merge.l2 kp kj41 x0_2 x1_2 (y537.set ((ji56) : Int).toNat (⟨(⟨(rd_T65 y537 (ji56)).f0.f0, (rd_T65 y537 (ji56)).f0.f1, (rd_T65 y537 (ji56)).f0.f2⟩ : S24), (⟨((rd_T24 t526 x54_2).f0), ((rd_T24 t526 x54_2).f1), ((rd_T24 t526 x54_2).f2)⟩ : S24), (rd_T65 y537 (ji56)).f2⟩ : S65)) false t526 (t526.length : Int) (wrap64 (x54_2 + 1)))) else (none)) else (none)) = some r := by first | (rw [hji56] at H; exact H) | (simp only [hji56] at H ⊢; exact H)
         have hji56w : (IntKind.i64.wrap ((y534.length : Int) - 1)) = ji56 := (i64_w _).trans hji56
         by_cases c57 : 0 ≤ (ji56)
         rotate_left
         ·rw [if_neg c57] at H
          exact absurd H (by simp)
         rw [if_pos c57] at H
         have c57b0 : decide (0 ≤ (ji56)) = true := decide_eq_true c57
         clear c57
         by_cases c58 : (ji56) < (y534.length : Int)
         rotate_left
         ·rw [if_neg c58] at H
          exact absurd H (by simp)
         rw [if_pos c58] at H
         have c58b0 : decide ((ji56) < (y534.length : Int)) = true := decide_eq_true c58
         clear c58
         obtain ⟨y537, hy537⟩ : ∃ y_ : List (S65), y_ = (y534.set ((ji56) : Int).toNat (⟨(⟨(rd_T65 y534 (ji56)).f0.f0, (rd_T65 y534 (ji56)).f0.f1, (rd_T65 y534 (ji56)).f0.f2⟩ : S24), (⟨(rd_T65 y534 (ji56)).f1.f0, (rd_T65 y534 (ji56)).f1.f1, (rd_T65 y534 (ji56)).f1.f2⟩ : S24), false⟩ : S65)) := ⟨_, rfl⟩
         replace H : (i_merge.l2 kp kj41 x0_2 x1_2 (y537.set ((ji56) : Int).toNat (⟨(⟨(rd_T65 y537 (ji56)).f0.f0, (rd_T65 y537 (ji56)).f0.f1, (rd_T65 y537 (ji56)).f0.f2⟩ : S24), (⟨((rd_T24 t526 x54_2).f0), ((rd_T24 t526 x54_2).f1), ((rd_T24 t526 x54_2).f2)⟩ : S24), (rd_T65 y537 (ji56)).f2⟩ : S65)) false t526 (t526.length : Int) (wrap64 (x54_2 + 1))) = some r := by first | (rw [hy537]; with_reducible exact H) | (have H2_ := (Option.bind_some _ _).symm.trans H; rw [hy537]; with_reducible exact H2_) | (have H2_ := (Option.bind_some _ _).symm.trans H; with_reducible exact H2_) | with_reducible exact H | (rw [hy537]; exact H) | exact H
         have Ny537 := Aside0.mk hy537
         clear hy537
         obtain ⟨y538, hy538⟩ : ∃ y_ : List (S65), y_ = (y537.set ((ji56) : Int).toNat (⟨(⟨(rd_T65 y537 (ji56)).f0.f0, (rd_T65 y537 (ji56)).f0.f1, (rd_T65 y537 (ji56)).f0.f2⟩ : S24), (⟨((rd_T24 t526 x54_2).f0), ((rd_T24 t526 x54_2).f1), ((rd_T24 t526 x54_2).f2)⟩ : S24), (rd_T65 y537 (ji56)).f2⟩ : S65)) := ⟨_, rfl⟩
         replace H : (i_merge.l2 kp kj41 x0_2 x1_2 y538 false t526 (t526.length : Int) (wrap64 (x54_2 + 1))) = some r := by first | (rw [hy538]; with_reducible exact H) | (have H2_ := (Option.bind_some _ _).symm.trans H; rw [hy538]; with_reducible exact H2_) | (have H2_ := (Option.bind_some _ _).symm.trans H; with_reducible exact H2_) | with_reducible exact H | (rw [hy538]; exact H) | exact H
         have Ny538 := Aside0.mk hy538
         clear hy538
         have H' := Aside0.mk H
         clear H
         obtain ⟨hcz61_0, hcz61_1, hcz61_2⟩ := z3 BK530.out (.int .i64 ((rd_T24 t526 x54_2).f0)) (.int .i64 ((rd_T24 t526 x54_2).f1)) (.string ((rd_T24 t526 x54_2).f2))
         obtain ⟨hfz61_0, hfz61_1, hfz61_2⟩ := f3 BK530.out
         go_wp2_with (first | ((with_reducible refine gate_builtin (b := .append) (xs := #[.tmp 71, .tmp 74]) rfl ?_); at_builtin; refine Kd.R_append k65 (w0 := w) w.heap.size rfl (.tmp 71) (.tmp 74) 36 65 (.agg #[(.int .i64 0), (.int .i64 0), (.string ⟨#[]⟩), (.int .i64 0), (.int .i64 0), (.string ⟨#[]⟩), (.bool false)]) 72 rfl Try.underlying36 info65 rfl (by decide) (by omega) u12 x12_2 (⟨(⟨((rd_T24 t526 x54_2).f0), ((rd_T24 t526 x54_2).f1), ((rd_T24 t526 x54_2).f2)⟩ : S24), (⟨0, 0, (⟨#[]⟩ : ByteArray)⟩ : S24), true⟩ : S65) [.int .i64 ((rd_T24 t526 x54_2).f0), .int .i64 ((rd_T24 t526 x54_2).f1), .string ((rd_T24 t526 x54_2).f2), .int .i64 0, .int .i64 0, .string (⟨#[]⟩ : ByteArray), .bool true] (fun k_ => (w.heap.size ≤ k_)) (fun _ => False) rfl rfl ?aP (fun _ hk => hk.elim) ?aF ?aO ?aB ?aS ?aL ?_; (case aP => exact k65_mkM _ _ _ (⟨(⟨((rd_T24 t526 x54_2).f0), ((rd_T24 t526 x54_2).f1), ((rd_T24 t526 x54_2).f2)⟩ : S24), (⟨0, 0, (⟨#[]⟩ : ByteArray)⟩ : S24), true⟩ : S65)); (case aB => exact (bS GE530.out)); (case aF => exact (fun k_ hk => (Nat.le_trans (below_size (bS GE530.out)) hk))); (case aO => exact (rX HO_12.out)); (case aS => exact (below_size (bS GE530.out))); (case aL => have := LMc51.out; omega); intro v535 w62 ho hb hg hat; rw [← Ny534.out] at ho; have n0_ := aK (Kd.V_afterv (ok := (fun k_ => ((P0_ k_ ∨ P1_ k_) ∨ w.heap.size ≤ k_) ∧ some k_ ≠ (.slice (some ad529) t526.length co35 : Value).ownBlock ∧ k_ ≠ gb530)) (by (with_reducible repeat (first | apply Kd.V_alloc | apply Kd.V_drewN | apply Kd.V_drew)); exact Kd.V_mono HO_0.out (fun _ hk => ⟨⟨hk.1, ⟨hk.2.2.1, hk.2.2.2⟩⟩, hk.2.1⟩)) hg hat); have n1_ := aK (Kd.V_afterv (ok := (fun k_ => ((P0_ k_ ∨ P1_ k_) ∨ w.heap.size ≤ k_) ∧ some k_ ≠ (.slice (some ad529) t526.length co35 : Value).ownBlock ∧ k_ ≠ gb530)) (by (with_reducible repeat (first | apply Kd.V_alloc | apply Kd.V_drewN | apply Kd.V_drew)); exact Kd.V_mono HO_1.out (fun _ hk => ⟨⟨hk.1, ⟨hk.2.2.1, hk.2.2.2⟩⟩, hk.2.1⟩)) hg hat); have n2_ := aK (Kd.R_over' (rX HO_52.out) (Kd.R_typed (rX HO_12.out)) (by decide) hg); have n3_ := aK (blk_grown (g := gb530) (o := .cells #[.int .i64 ((rd_T24 t526 x54_2).f0), .int .i64 ((rd_T24 t526 x54_2).f1), .string ((rd_T24 t526 x54_2).f2)] 24 (0, 0)) (bX BK530.out) hg (Kd.R_ne HO_12.out BK530.out (by decide))); have n4_ := aK (hb); have n5_ := aK (ho); clear HO_0 HO_1 HO_52 BK530 HB HO_12; have HO_0 := n0_; have HO_1 := n1_; have HO_52 := n2_; have BK530 := n3_; have HB := n4_; have HO536 := n5_; clear n0_ n1_ n2_ n3_ n4_ n5_ ho hb hg hat; obtain ⟨Ao63, co63, eo63⟩ := Kd.R_slice HO536.out; subst eo63; have p59 : 0 ≤ ((ji56) : Int) := of_decide_eq_true (aA); have q59 : ((ji56) : Int) < ((y534.length : Int) : Int) := of_decide_eq_true (aA); obtain ⟨go59, co59, eo59, gb59, gl59, cl59, HG59⟩ := Kd.R_form HO536.out (by omega); (first | cases eo59 | (injection eo59 with ea_ en_ ec_; (first | subst ea_ | (injection ea_ with ea_; subst ea_)); subst ec_; clear en_)); have GB59 := Aside0.mk gb59; have GG59 := Aside0.mk HG59; clear gb59 gl59 HG59; obtain ⟨ce59, hcl59, hM59, hcc59, hfr59⟩ := Kd.R_elem HO536.out z65 ((ji56) : Int) p59 q59; obtain rfl := k65_openM hM59; have hx59_0 : w62.cell? ⟨go59, ((ji56) : Int).toNat * 7, none⟩ = some (.int .i64 ((rd_T65 y534 (ji56)).f0.f0)) := hcc59 0 _ rfl; have hx59_1 : w62.cell? ⟨go59, ((ji56) : Int).toNat * 7 + 1, none⟩ = some (.int .i64 ((rd_T65 y534 (ji56)).f0.f1)) := hcc59 1 _ rfl; have hx59_2 : w62.cell? ⟨go59, ((ji56) : Int).toNat * 7 + 2, none⟩ = some (.string ((rd_T65 y534 (ji56)).f0.f2)) := hcc59 2 _ rfl; have hx59_3 : w62.cell? ⟨go59, ((ji56) : Int).toNat * 7 + 3, none⟩ = some (.int .i64 ((rd_T65 y534 (ji56)).f1.f0)) := hcc59 3 _ rfl; have hx59_4 : w62.cell? ⟨go59, ((ji56) : Int).toNat * 7 + 4, none⟩ = some (.int .i64 ((rd_T65 y534 (ji56)).f1.f1)) := hcc59 4 _ rfl; have hx59_5 : w62.cell? ⟨go59, ((ji56) : Int).toNat * 7 + 5, none⟩ = some (.string ((rd_T65 y534 (ji56)).f1.f2)) := hcc59 5 _ rfl; have hx59_6 : w62.cell? ⟨go59, ((ji56) : Int).toNat * 7 + 6, none⟩ = some (.bool ((rd_T65 y534 (ji56)).f2)) := hcc59 6 _ rfl; have hf59_0 : w62.frozen? ⟨go59, ((ji56) : Int).toNat * 7, none⟩ = false := hfr59 0; have hf59_1 : w62.frozen? ⟨go59, ((ji56) : Int).toNat * 7 + 1, none⟩ = false := hfr59 1; have hf59_2 : w62.frozen? ⟨go59, ((ji56) : Int).toNat * 7 + 2, none⟩ = false := hfr59 2; have hf59_3 : w62.frozen? ⟨go59, ((ji56) : Int).toNat * 7 + 3, none⟩ = false := hfr59 3; have hf59_4 : w62.frozen? ⟨go59, ((ji56) : Int).toNat * 7 + 4, none⟩ = false := hfr59 4; have hf59_5 : w62.frozen? ⟨go59, ((ji56) : Int).toNat * 7 + 5, none⟩ = false := hfr59 5; have hf59_6 : w62.frozen? ⟨go59, ((ji56) : Int).toNat * 7 + 6, none⟩ = false := hfr59 6; clear hcl59 hcc59 hfr59 hM59; replace p59 := eq_true p59; replace q59 := eq_true q59; have HX64 := aK (show Kd.R k65 65 w62 w.heap.size (fun k_ => (w.heap.size ≤ k_)) (.slice (some ⟨go59, 0, none⟩) y534.length co63) y534 from (rX HO536.out)); obtain ⟨ce64, hcl64, hM64, hcc64, hfr64⟩ := Kd.R_elem HX64.out z65 ((ji56) : Int) (of_decide_eq_true (aA)) (by have h_ : ((ji56) : Int) < ((y534.length : Int) : Int) := of_decide_eq_true (aA); first | exact h_ | (have e_ := (Kd.R_reads' HO536.out).1; omega) | simpa using h_); obtain rfl := k65_openM hM64; have HP64 := Kd.R_seg HX64.out ((ji56) : Int) (of_decide_eq_true (aA)) (by have h_ : ((ji56) : Int) < ((y534.length : Int) : Int) := of_decide_eq_true (aA); first | exact h_ | (have e_ := (Kd.R_reads' HO536.out).1; omega) | simpa using h_) (seg := [.bool false]) (j := 6) hcl64 hcc64 (show 7 ≤ 7 from by decide) (x' := (⟨(⟨(rd_T65 y534 (ji56)).f0.f0, (rd_T65 y534 (ji56)).f0.f1, (rd_T65 y534 (ji56)).f0.f2⟩ : S24), (⟨(rd_T65 y534 (ji56)).f1.f0, (rd_T65 y534 (ji56)).f1.f1, (rd_T65 y534 (ji56)).f1.f2⟩ : S24), false⟩ : S65)) (k65_mkM _ _ _ (⟨(⟨(rd_T65 y534 (ji56)).f0.f0, (rd_T65 y534 (ji56)).f0.f1, (rd_T65 y534 (ji56)).f0.f2⟩ : S24), (⟨(rd_T65 y534 (ji56)).f1.f0, (rd_T65 y534 (ji56)).f1.f1, (rd_T65 y534 (ji56)).f1.f2⟩ : S24), false⟩ : S65) ) (fun _ hk => hk); have hx64_6 := hcc64 6 _ rfl; (try simp only [show (k65).sz = 7 from rfl, Nat.mul_one, Nat.add_zero] at hx64_6); have hf64_6 := hfr64 6; (try simp only [show (k65).sz = 7 from rfl, Nat.mul_one, Nat.add_zero] at hf64_6); clear hcl64 hcc64 hfr64 hM64) | ((with_reducible refine gate_store (t := 4) (p := 86) rfl ?_); refine store_event (t := 4) (p := 86) (v := ?vo_w65) (w1 := (w62.setCell ⟨go59, ((ji56) : Int).toNat * 7 + 6, none⟩ (.bool false))) ?hg ?ho ?hn ?hr ?_; (case ho => rfl); (case hg => rfl); (case hn => rfl); (case hr => first | (go_simp; done) | (go_simp; rfl)); intro w65 hw; have hg : w62.grownBy w65 (some go59) := (by rw [hw]; exact HP64.2); have hp_ : Kd.R k65 65 w65 w.heap.size (fun k_ => (w.heap.size ≤ k_)) (.slice (some ⟨go59, 0, none⟩) y534.length co63) y537 := (by rw [hw, Ny537.out]; exact HP64.1); clear HP64; have n0_ := aK (Kd.V_afterv (v := (.slice (some ⟨go59, 0, none⟩) y534.length co63)) (v1 := (.slice (some ⟨go59, 0, none⟩) y534.length co63)) (ok := (fun k_ => ((P0_ k_ ∨ P1_ k_) ∨ w.heap.size ≤ k_) ∧ some k_ ≠ (.slice (some ad529) t526.length co35 : Value).ownBlock ∧ k_ ≠ gb530)) (vX HO_0.out) hg (.inl rfl)); have n1_ := aK (Kd.V_afterv (v := (.slice (some ⟨go59, 0, none⟩) y534.length co63)) (v1 := (.slice (some ⟨go59, 0, none⟩) y534.length co63)) (ok := (fun k_ => ((P0_ k_ ∨ P1_ k_) ∨ w.heap.size ≤ k_) ∧ some k_ ≠ (.slice (some ad529) t526.length co35 : Value).ownBlock ∧ k_ ≠ gb530)) (vX HO_1.out) hg (.inl rfl)); have n2_ := aK (Kd.R_over' (v := (.slice (some ⟨go59, 0, none⟩) y534.length co63)) (rX HO_52.out) (Kd.R_typed HO536.out) (by decide) hg); have n3_ := aK (blk_grown (g := gb530) (o := .cells #[.int .i64 ((rd_T24 t526 x54_2).f0), .int .i64 ((rd_T24 t526 x54_2).f1), .string ((rd_T24 t526 x54_2).f2)] 24 (0, 0)) (bX BK530.out) hg (Kd.R_ne HO536.out BK530.out (by decide))); have n4_ := aK (hp_); have n5_ := aK ((by rw [hw]; exact below_set (HB.out) GB59.out : Below w.heap.size w w65)); clear HO_0 HO_1 HO_52 BK530 HO536 HB; have HO_0 := n0_; have HO_1 := n1_; have HO_52 := n2_; have BK530 := n3_; have HO536 := n4_; have HB := n5_; clear n0_ n1_ n2_ n3_ n4_ n5_ hg hw hp_; obtain ⟨hcz66_0, hcz66_1, hcz66_2⟩ := z3 BK530.out (.int .i64 ((rd_T24 t526 x54_2).f0)) (.int .i64 ((rd_T24 t526 x54_2).f1)) (.string ((rd_T24 t526 x54_2).f2)); obtain ⟨hfz66_0, hfz66_1, hfz66_2⟩ := f3 BK530.out; have p60 : 0 ≤ ((ji56) : Int) := of_decide_eq_true (aA); have q60 : ((ji56) : Int) < ((y534.length : Int) : Int) := of_decide_eq_true (aA); obtain ⟨ce60, hcl60, hM60, hcc60, hfr60⟩ := Kd.R_elem HO536.out z65 ((ji56) : Int) p60 q60; obtain rfl := k65_openM hM60; have hx60_0 : w65.cell? ⟨go59, ((ji56) : Int).toNat * 7, none⟩ = some (.int .i64 ((rd_T65 y537 (ji56)).f0.f0)) := hcc60 0 _ rfl; have hx60_1 : w65.cell? ⟨go59, ((ji56) : Int).toNat * 7 + 1, none⟩ = some (.int .i64 ((rd_T65 y537 (ji56)).f0.f1)) := hcc60 1 _ rfl; have hx60_2 : w65.cell? ⟨go59, ((ji56) : Int).toNat * 7 + 2, none⟩ = some (.string ((rd_T65 y537 (ji56)).f0.f2)) := hcc60 2 _ rfl; have hx60_3 : w65.cell? ⟨go59, ((ji56) : Int).toNat * 7 + 3, none⟩ = some (.int .i64 ((rd_T65 y537 (ji56)).f1.f0)) := hcc60 3 _ rfl; have hx60_4 : w65.cell? ⟨go59, ((ji56) : Int).toNat * 7 + 4, none⟩ = some (.int .i64 ((rd_T65 y537 (ji56)).f1.f1)) := hcc60 4 _ rfl; have hx60_5 : w65.cell? ⟨go59, ((ji56) : Int).toNat * 7 + 5, none⟩ = some (.string ((rd_T65 y537 (ji56)).f1.f2)) := hcc60 5 _ rfl; have hx60_6 : w65.cell? ⟨go59, ((ji56) : Int).toNat * 7 + 6, none⟩ = some (.bool ((rd_T65 y537 (ji56)).f2)) := hcc60 6 _ rfl; have hf60_0 : w65.frozen? ⟨go59, ((ji56) : Int).toNat * 7, none⟩ = false := hfr60 0; have hf60_1 : w65.frozen? ⟨go59, ((ji56) : Int).toNat * 7 + 1, none⟩ = false := hfr60 1; have hf60_2 : w65.frozen? ⟨go59, ((ji56) : Int).toNat * 7 + 2, none⟩ = false := hfr60 2; have hf60_3 : w65.frozen? ⟨go59, ((ji56) : Int).toNat * 7 + 3, none⟩ = false := hfr60 3; have hf60_4 : w65.frozen? ⟨go59, ((ji56) : Int).toNat * 7 + 4, none⟩ = false := hfr60 4; have hf60_5 : w65.frozen? ⟨go59, ((ji56) : Int).toNat * 7 + 5, none⟩ = false := hfr60 5; have hf60_6 : w65.frozen? ⟨go59, ((ji56) : Int).toNat * 7 + 6, none⟩ = false := hfr60 6; clear hcl60 hcc60 hfr60 hM60; replace p60 := eq_true p60; replace q60 := eq_true q60; have HX67 := aK (show Kd.R k65 65 w65 w.heap.size (fun k_ => (w.heap.size ≤ k_)) (.slice (some ⟨go59, 0, none⟩) y534.length co63) y537 from (rX HO536.out)); obtain ⟨ce67, hcl67, hM67, hcc67, hfr67⟩ := Kd.R_elem HX67.out z65 ((ji56) : Int) (of_decide_eq_true (aA)) (by have h_ : ((ji56) : Int) < ((y534.length : Int) : Int) := of_decide_eq_true (aA); first | exact h_ | (have e_ := (Kd.R_reads' HO536.out).1; omega) | simpa using h_); obtain rfl := k65_openM hM67; have HP67 := Kd.R_seg HX67.out ((ji56) : Int) (of_decide_eq_true (aA)) (by have h_ : ((ji56) : Int) < ((y534.length : Int) : Int) := of_decide_eq_true (aA); first | exact h_ | (have e_ := (Kd.R_reads' HO536.out).1; omega) | simpa using h_) (seg := [.int .i64 ((rd_T24 t526 x54_2).f0), .int .i64 ((rd_T24 t526 x54_2).f1), .string ((rd_T24 t526 x54_2).f2)]) (j := 3) hcl67 hcc67 (show 6 ≤ 7 from by decide) (x' := (⟨(⟨(rd_T65 y537 (ji56)).f0.f0, (rd_T65 y537 (ji56)).f0.f1, (rd_T65 y537 (ji56)).f0.f2⟩ : S24), (⟨((rd_T24 t526 x54_2).f0), ((rd_T24 t526 x54_2).f1), ((rd_T24 t526 x54_2).f2)⟩ : S24), (rd_T65 y537 (ji56)).f2⟩ : S65)) (k65_mkM _ _ _ (⟨(⟨(rd_T65 y537 (ji56)).f0.f0, (rd_T65 y537 (ji56)).f0.f1, (rd_T65 y537 (ji56)).f0.f2⟩ : S24), (⟨((rd_T24 t526 x54_2).f0), ((rd_T24 t526 x54_2).f1), ((rd_T24 t526 x54_2).f2)⟩ : S24), (rd_T65 y537 (ji56)).f2⟩ : S65) ) (fun _ hk => hk); have hx67_3 := hcc67 3 _ rfl; (try simp only [show (k65).sz = 7 from rfl, Nat.mul_one, Nat.add_zero] at hx67_3); have hf67_3 := hfr67 3; (try simp only [show (k65).sz = 7 from rfl, Nat.mul_one, Nat.add_zero] at hf67_3); have hx67_4 := hcc67 4 _ rfl; (try simp only [show (k65).sz = 7 from rfl, Nat.mul_one, Nat.add_zero] at hx67_4); have hf67_4 := hfr67 4; (try simp only [show (k65).sz = 7 from rfl, Nat.mul_one, Nat.add_zero] at hf67_4); have hx67_5 := hcc67 5 _ rfl; (try simp only [show (k65).sz = 7 from rfl, Nat.mul_one, Nat.add_zero] at hx67_5); have hf67_5 := hfr67 5; (try simp only [show (k65).sz = 7 from rfl, Nat.mul_one, Nat.add_zero] at hf67_5); clear hcl67 hcc67 hfr67 hM67) | ((with_reducible refine gate_store (t := 24) (p := 93) rfl ?_); refine store_event (t := 24) (p := 93) (v := ?vo_w68) (w1 := (((w65.setCell ⟨go59, ((ji56) : Int).toNat * 7 + 3, none⟩ (.int .i64 ((rd_T24 t526 x54_2).f0))).setCell ⟨go59, ((ji56) : Int).toNat * 7 + 4, none⟩ (.int .i64 ((rd_T24 t526 x54_2).f1))).setCell ⟨go59, ((ji56) : Int).toNat * 7 + 5, none⟩ (.string ((rd_T24 t526 x54_2).f2)))) ?hg ?ho ?hn ?hr ?_; (case ho => rfl); (case hg => rfl); (case hn => rfl); (case hr => first | (go_simp; done) | (go_simp; rfl)); intro w68 hw; have hg : w65.grownBy w68 (some go59) := (by rw [hw]; exact HP67.2); have hp_ : Kd.R k65 65 w68 w.heap.size (fun k_ => (w.heap.size ≤ k_)) (.slice (some ⟨go59, 0, none⟩) y534.length co63) y538 := (by rw [hw, Ny538.out]; exact HP67.1); clear HP67; have n0_ := aK (Kd.V_afterv (v := (.slice (some ⟨go59, 0, none⟩) y534.length co63)) (v1 := (.slice (some ⟨go59, 0, none⟩) y534.length co63)) (ok := (fun k_ => ((P0_ k_ ∨ P1_ k_) ∨ w.heap.size ≤ k_) ∧ some k_ ≠ (.slice (some ad529) t526.length co35 : Value).ownBlock ∧ k_ ≠ gb530)) (vX HO_0.out) hg (.inl rfl)); have n1_ := aK (Kd.V_afterv (v := (.slice (some ⟨go59, 0, none⟩) y534.length co63)) (v1 := (.slice (some ⟨go59, 0, none⟩) y534.length co63)) (ok := (fun k_ => ((P0_ k_ ∨ P1_ k_) ∨ w.heap.size ≤ k_) ∧ some k_ ≠ (.slice (some ad529) t526.length co35 : Value).ownBlock ∧ k_ ≠ gb530)) (vX HO_1.out) hg (.inl rfl)); have n2_ := aK (Kd.R_over' (v := (.slice (some ⟨go59, 0, none⟩) y534.length co63)) (rX HO_52.out) (Kd.R_typed HO536.out) (by decide) hg); have n3_ := aK (blk_grown (g := gb530) (o := .cells #[.int .i64 ((rd_T24 t526 x54_2).f0), .int .i64 ((rd_T24 t526 x54_2).f1), .string ((rd_T24 t526 x54_2).f2)] 24 (0, 0)) (bX BK530.out) hg (Kd.R_ne HO536.out BK530.out (by decide))); have n4_ := aK (hp_); have n5_ := aK ((by rw [hw]; exact below_set (below_set (below_set (HB.out) GB59.out) GB59.out) GB59.out : Below w.heap.size w w68)); clear HO_0 HO_1 HO_52 BK530 HO536 HB; have HO_0 := n0_; have HO_1 := n1_; have HO_52 := n2_; have BK530 := n3_; have HO536 := n4_; have HB := n5_; clear n0_ n1_ n2_ n3_ n4_ n5_ hg hw hp_))
         (try simp only [← hl0_2, ← hl1_2])
         go_roundg kj41
         case measure => have := HK1.out; have := HK2.out; have := HJ41.out; omega
         case rel => exact ⟨(x0_2), (x1_2), (y538), (false), (wrap64 (x54_2 + 1)), (by first | rfl | (simp; done) | (simp [*]; done)), (by first | rfl | (simp; done) | (simp [*]; done)), H', ⟨by have := HK1.out; have := HK2.out; have := HJ41.out; omega⟩, ⟨by (try simp only [hl0_2]); (try simp only [hl1_2]); (with_reducible repeat (first | apply Kd.V_alloc | apply Kd.V_drewN | apply Kd.V_drew)); exact Kd.V_mono HO_0.out (fun _ hk => ⟨hk.1.1, ⟨hk.2, hk.1.2.1⟩⟩)⟩, ⟨by (try simp only [hl0_2]); (try simp only [hl1_2]); (with_reducible repeat (first | apply Kd.V_alloc | apply Kd.V_drewN | apply Kd.V_drew)); exact Kd.V_mono HO_1.out (fun _ hk => ⟨hk.1.1, ⟨hk.2, hk.1.2.1⟩⟩)⟩, ⟨by (try simp only [hl0_2]); (try simp only [hl1_2]); (with_reducible repeat (first | apply Kd.R_alloc | apply Kd.R_drewN | apply Kd.R_drew)); exact HO536.out⟩, ⟨by (try simp only [hl0_2]); (try simp only [hl1_2]); (with_reducible repeat (first | apply Kd.R_alloc | apply Kd.R_drewN | apply Kd.R_drew)); exact Kd.R_mono HO_52.out (fun _ hk => hk.1)⟩, ⟨bS GE530.out⟩⟩
        subst c52
        rw [if_pos rfl] at H
        have H' := Aside0.mk H
        clear H
        obtain ⟨hcz53_0, hcz53_1, hcz53_2⟩ := z3 BK530.out (.int .i64 ((rd_T24 t526 x54_2).f0)) (.int .i64 ((rd_T24 t526 x54_2).f1)) (.string ((rd_T24 t526 x54_2).f2))
        obtain ⟨hfz53_0, hfz53_1, hfz53_2⟩ := f3 BK530.out
        go_wp2_with (first | ((with_reducible refine gate_builtin (b := .append) (xs := #[.tmp 71, .tmp 74]) rfl ?_); at_builtin; refine Kd.R_append k65 (w0 := w) w.heap.size rfl (.tmp 71) (.tmp 74) 36 65 (.agg #[(.int .i64 0), (.int .i64 0), (.string ⟨#[]⟩), (.int .i64 0), (.int .i64 0), (.string ⟨#[]⟩), (.bool false)]) 72 rfl Try.underlying36 info65 rfl (by decide) (by omega) u12 x12_2 (⟨(⟨((rd_T24 t526 x54_2).f0), ((rd_T24 t526 x54_2).f1), ((rd_T24 t526 x54_2).f2)⟩ : S24), (⟨0, 0, (⟨#[]⟩ : ByteArray)⟩ : S24), true⟩ : S65) [.int .i64 ((rd_T24 t526 x54_2).f0), .int .i64 ((rd_T24 t526 x54_2).f1), .string ((rd_T24 t526 x54_2).f2), .int .i64 0, .int .i64 0, .string (⟨#[]⟩ : ByteArray), .bool true] (fun k_ => (w.heap.size ≤ k_)) (fun _ => False) rfl rfl ?aP (fun _ hk => hk.elim) ?aF ?aO ?aB ?aS ?aL ?_; (case aP => exact k65_mkM _ _ _ (⟨(⟨((rd_T24 t526 x54_2).f0), ((rd_T24 t526 x54_2).f1), ((rd_T24 t526 x54_2).f2)⟩ : S24), (⟨0, 0, (⟨#[]⟩ : ByteArray)⟩ : S24), true⟩ : S65)); (case aB => exact (bS GE530.out)); (case aF => exact (fun k_ hk => (Nat.le_trans (below_size (bS GE530.out)) hk))); (case aO => exact (rX HO_12.out)); (case aS => exact (below_size (bS GE530.out))); (case aL => have := LMc51.out; omega); intro v535 w54 ho hb hg hat; rw [← Ny534.out] at ho; have n0_ := aK (Kd.V_afterv (ok := (fun k_ => ((P0_ k_ ∨ P1_ k_) ∨ w.heap.size ≤ k_) ∧ some k_ ≠ (.slice (some ad529) t526.length co35 : Value).ownBlock ∧ k_ ≠ gb530)) (by (with_reducible repeat (first | apply Kd.V_alloc | apply Kd.V_drewN | apply Kd.V_drew)); exact Kd.V_mono HO_0.out (fun _ hk => ⟨⟨hk.1, ⟨hk.2.2.1, hk.2.2.2⟩⟩, hk.2.1⟩)) hg hat); have n1_ := aK (Kd.V_afterv (ok := (fun k_ => ((P0_ k_ ∨ P1_ k_) ∨ w.heap.size ≤ k_) ∧ some k_ ≠ (.slice (some ad529) t526.length co35 : Value).ownBlock ∧ k_ ≠ gb530)) (by (with_reducible repeat (first | apply Kd.V_alloc | apply Kd.V_drewN | apply Kd.V_drew)); exact Kd.V_mono HO_1.out (fun _ hk => ⟨⟨hk.1, ⟨hk.2.2.1, hk.2.2.2⟩⟩, hk.2.1⟩)) hg hat); have n2_ := aK (Kd.R_over' (rX HO_52.out) (Kd.R_typed (rX HO_12.out)) (by decide) hg); have n3_ := aK (blk_grown (g := gb530) (o := .cells #[.int .i64 ((rd_T24 t526 x54_2).f0), .int .i64 ((rd_T24 t526 x54_2).f1), .string ((rd_T24 t526 x54_2).f2)] 24 (0, 0)) (bX BK530.out) hg (Kd.R_ne HO_12.out BK530.out (by decide))); have n4_ := aK (hb); have n5_ := aK (ho); clear HO_0 HO_1 HO_52 BK530 HB HO_12; have HO_0 := n0_; have HO_1 := n1_; have HO_52 := n2_; have BK530 := n3_; have HB := n4_; have HO536 := n5_; clear n0_ n1_ n2_ n3_ n4_ n5_ ho hb hg hat))
        (try simp only [← hl0_2, ← hl1_2])
        go_roundg kj41
        case measure => have := HK1.out; have := HK2.out; have := HJ41.out; omega
        case rel => exact ⟨(x0_2), (x1_2), (y534), (true), (wrap64 (x54_2 + 1)), (by first | rfl | (simp; done) | (simp [*]; done)), (by first | rfl | (simp; done) | (simp [*]; done)), H', ⟨by have := HK1.out; have := HK2.out; have := HJ41.out; omega⟩, ⟨by (try simp only [hl0_2]); (try simp only [hl1_2]); (with_reducible repeat (first | apply Kd.V_alloc | apply Kd.V_drewN | apply Kd.V_drew)); exact Kd.V_mono HO_0.out (fun _ hk => ⟨hk.1.1, ⟨hk.2, hk.1.2.1⟩⟩)⟩, ⟨by (try simp only [hl0_2]); (try simp only [hl1_2]); (with_reducible repeat (first | apply Kd.V_alloc | apply Kd.V_drewN | apply Kd.V_drew)); exact Kd.V_mono HO_1.out (fun _ hk => ⟨hk.1.1, ⟨hk.2, hk.1.2.1⟩⟩)⟩, ⟨by (try simp only [hl0_2]); (try simp only [hl1_2]); (with_reducible repeat (first | apply Kd.R_alloc | apply Kd.R_drewN | apply Kd.R_drew)); exact HO536.out⟩, ⟨by (try simp only [hl0_2]); (try simp only [hl1_2]); (with_reducible repeat (first | apply Kd.R_alloc | apply Kd.R_drewN | apply Kd.R_drew)); exact Kd.R_mono HO_52.out (fun _ hk => hk.1)⟩, ⟨bS GE530.out⟩⟩
   rw [if_pos c11] at H
   have c11b0 : decide (x23_1 < (y513.length : Int)) = true := decide_eq_true c11
   clear c11
   by_cases c12 : 0 ≤ x23_1
   rotate_left
   ·rw [if_neg c12] at H
    exact absurd H (by simp)
   rw [if_pos c12] at H
   have c12b0 : decide (0 ≤ x23_1) = true := decide_eq_true c12
   clear c12
   by_cases c13 : x23_1 < (y513.length : Int)
   rotate_left
   ·rw [if_neg c13] at H
    exact absurd H (by simp)
   rw [if_pos c13] at H
   have c13b0 : decide (x23_1 < (y513.length : Int)) = true := decide_eq_true c13
   clear c13
   have H' := Aside0.mk H
   clear H
   have p516 : 0 ≤ (x23_1 : Int) := of_decide_eq_true (aA)
   have q516 : x23_1 < (y513.length : Int) := of_decide_eq_true (aA)
   obtain ⟨ad516, A516_0, c516_0, e516, hx516_0, hl516_0, hi516_0⟩ := at_L7 (Kd.N_reads' HO_21.out).2.2 x23_1 p516 q516
   cases e516
   obtain ⟨ce516, hce516, hMe516, hcc516⟩ := Kd.N_get HO_21.out [] x23_1 p516 (by first | exact q516 | exact of_decide_eq_true (aA) | (have e_ := (Kd.N_reads' HO_21.out).1; omega))
   obtain ⟨ua516_0, uc516_0, rfl, ul516_0, ge516_0⟩ := Kd.FK_slice_open hMe516
   have hv516_0 := hcc516 0 _ rfl
   rw [Nat.add_zero, show ((Kd.slice 65 k65)).sz = 1 from rfl, Nat.mul_one] at hv516_0
   replace hv516_0 := Option.some.inj (hv516_0.symm.trans hx516_0)
   injection hv516_0 with hva_ hvn_ hvc_
   rw [hva_] at ge516_0
   rw [hvc_] at ul516_0
   have HL516_0 := aK (show Kd.V k65 65 _ w.heap.size _ _ (rd_L7 y513 x23_1) from Kd.V_mk ul516_0 ge516_0)
   clear hva_ hvn_ hvc_ ge516_0 ul516_0
   clear hcc516 hce516
   have HR516_0 := Aside0.mk hi516_0
   have HC516_0 := Aside0.mk hl516_0
   clear hi516_0 hl516_0
   replace p516 := eq_true p516
   replace q516 := eq_true q516
   go_wp2
   go_loopg [7, 29] k1 (fun kq v7 v29 w' => ∃ (x7_2 : List (S24)) (x29_2 : Int), v29 = .int .i64 x29_2 ∧ Aside0 (i_merge.l1 kp kq l0 l1 x7_2 y513 (y513.length : Int) x23_1 (rd_L7 y513 x23_1) ((rd_L7 y513 x23_1).length : Int) x29_2 = some r) ∧ Aside0 (kq ≤ k1) ∧ Aside0 (Kd.V k65 65 w' w.heap.size (fun k_ => ((P0_ k_ ∨ P1_ k_) ∨ w.heap.size ≤ k_) ∧ some k_ ≠ (v7 : Value).ownBlock ∧ some k_ ≠ ((.slice (some ad516) y513.length co10) : Value).ownBlock) (.slice A0 l0.length c0) l0) ∧ Aside0 (Kd.V k65 65 w' w.heap.size (fun k_ => ((P0_ k_ ∨ P1_ k_) ∨ w.heap.size ≤ k_) ∧ some k_ ≠ (v7 : Value).ownBlock ∧ some k_ ≠ ((.slice (some ad516) y513.length co10) : Value).ownBlock) (.slice A516_0 (rd_L7 y513 x23_1).length c516_0) (rd_L7 y513 x23_1)) ∧ Aside0 (Kd.V k65 65 w' w.heap.size (fun k_ => ((P0_ k_ ∨ P1_ k_) ∨ w.heap.size ≤ k_) ∧ some k_ ≠ (v7 : Value).ownBlock ∧ some k_ ≠ ((.slice (some ad516) y513.length co10) : Value).ownBlock) (.slice A1 l1.length c1) l1) ∧ Aside0 (Kd.R k24 24 w' w.heap.size (fun k_ => (w.heap.size ≤ k_)) v7 x7_2) ∧ Aside0 (Kd.N (Kd.slice 65 k65) 36 w' w.heap.size (fun k_ => ((P0_ k_ ∨ P1_ k_) ∨ w.heap.size ≤ k_) ∧ some k_ ≠ (v7 : Value).ownBlock) (.slice (some ad516) y513.length co10) y513) ∧ Aside0 (Below w.heap.size w w'))
   case atStart => exact ⟨(x7_1), (0), (by first | rfl | (simp; done) | (simp [*]; done)), H', ⟨Nat.le_refl _⟩, ⟨vX HO_0.out⟩, ⟨Kd.V_mono HL516_0.out (fun _ hk => ⟨hk.1.1, hk.1.2, hk.2⟩)⟩, ⟨vX HO_1.out⟩, ⟨rX HO_7.out⟩, ⟨by (with_reducible repeat (first | apply Kd.N_alloc | apply Kd.N_drewN | apply Kd.N_drew)); exact HO_21.out⟩, ⟨bO⟩⟩
   case round =>
    clear H'
    try clear c1
    try clear p2
    try clear c3
    try clear c5
    try clear p5
    try clear q5
    try clear hx5
    try clear c8
    try clear c11
    try clear c11b0
    try clear c12
    try clear c12b0
    try clear c13
    try clear c13b0
    try clear hx516_0
    try clear p2
    try clear p516
    try clear q516
    obtain ⟨x7_2, x29_2, rfl, HA, HK2, HO_0, HL_, HO_1, HO_7, HO_21, HB⟩ := hrel
    cases gk with
    | zero => exact absurd HA.out (by simp [i_merge.l1])
    | succ k2 =>
     have H := HA.out
     clear HA
     simp only [i_merge.l1] at H
     by_cases c14 : x29_2 < ((rd_L7 y513 x23_1).length : Int)
     rotate_left
     ·rw [if_neg c14] at H
      have c14b0 : decide (x29_2 < ((rd_L7 y513 x23_1).length : Int)) = false := decide_eq_false c14
      clear c14
      have H' := Aside0.mk H
      clear H
      go_wp2
      go_roundg k2
      case measure => have := HK1.out; have := HK2.out; omega
      case rel => exact ⟨(x7_2), (wrap64 (x23_1 + 1)), (by first | rfl | (simp; done) | (simp [*]; done)), H', ⟨by have := HK1.out; have := HK2.out; omega⟩, ⟨vX HO_0.out⟩, ⟨vX HO_1.out⟩, ⟨rX HO_7.out⟩, ⟨by (with_reducible repeat (first | apply Kd.N_alloc | apply Kd.N_drewN | apply Kd.N_drew)); exact HO_21.out⟩, ⟨bO⟩⟩
     rw [if_pos c14] at H
     have c14b0 : decide (x29_2 < ((rd_L7 y513 x23_1).length : Int)) = true := decide_eq_true c14
     clear c14
     by_cases c15 : 0 ≤ x29_2
     rotate_left
     ·rw [if_neg c15] at H
      exact absurd H (by simp)
     rw [if_pos c15] at H
     have c15b0 : decide (0 ≤ x29_2) = true := decide_eq_true c15
     clear c15
     by_cases c16 : x29_2 < ((rd_L7 y513 x23_1).length : Int)
     rotate_left
     ·rw [if_neg c16] at H
      exact absurd H (by simp)
     rw [if_pos c16] at H
     have c16b0 : decide (x29_2 < ((rd_L7 y513 x23_1).length : Int)) = true := decide_eq_true c16
     clear c16
     by_cases c17 : x7_2.length < 4398046511104
     rotate_left
     ·rw [if_neg c17] at H
      exact absurd H (by simp)
     rw [if_pos c17] at H
     have LMc17 := Aside0.mk c17
     clear c17
     obtain ⟨y519, hy519⟩ : ∃ y_ : List (S24), y_ = (x7_2 ++ [(⟨(rd_T65 (rd_L7 y513 x23_1) x29_2).f0.f0, (rd_T65 (rd_L7 y513 x23_1) x29_2).f0.f1, (rd_T65 (rd_L7 y513 x23_1) x29_2).f0.f2⟩ : S24)]) := ⟨_, rfl⟩
     replace H : (if ((rd_T65 (rd_L7 y513 x23_1) x29_2).f2 = true) then (i_merge.l1 kp k2 l0 l1 y519 y513 (y513.length : Int) x23_1 (rd_L7 y513 x23_1) ((rd_L7 y513 x23_1).length : Int) (wrap64 (x29_2 + 1))) else (if y519.length < 4398046511104 then (i_merge.l1 kp k2 l0 l1 (y519 ++ [(⟨(rd_T65 (rd_L7 y513 x23_1) x29_2).f1.f0, (rd_T65 (rd_L7 y513 x23_1) x29_2).f1.f1, (rd_T65 (rd_L7 y513 x23_1) x29_2).f1.f2⟩ : S24)]) y513 (y513.length : Int) x23_1 (rd_L7 y513 x23_1) ((rd_L7 y513 x23_1).length : Int) (wrap64 (x29_2 + 1))) else (none))) = some r := by first | (rw [hy519]; with_reducible exact H) | (have H2_ := (Option.bind_some _ _).symm.trans H; rw [hy519]; with_reducible exact H2_) | (have H2_ := (Option.bind_some _ _).symm.trans H; with_reducible exact H2_) | with_reducible exact H | (rw [hy519]; exact H) | exact H
     have Ny519 := Aside0.mk hy519
     clear hy519
     obtain ⟨bq18, hbq18⟩ : ∃ b_ : Bool, b_ = ((rd_T65 (rd_L7 y513 x23_1) x29_2).f2) := ⟨_, rfl⟩
     replace H : (if (bq18 = true) then (i_merge.l1 kp k2 l0 l1 y519 y513 (y513.length : Int) x23_1 (rd_L7 y513 x23_1) ((rd_L7 y513 x23_1).length : Int) (wrap64 (x29_2 + 1))) else (if y519.length < 4398046511104 then (i_merge.l1 kp k2 l0 l1 (y519 ++ [(⟨(rd_T65 (rd_L7 y513 x23_1) x29_2).f1.f0, (rd_T65 (rd_L7 y513 x23_1) x29_2).f1.f1, (rd_T65 (rd_L7 y513 x23_1) x29_2).f1.f2⟩ : S24)]) y513 (y513.length : Int) x23_1 (rd_L7 y513 x23_1) ((rd_L7 y513 x23_1).length : Int) (wrap64 (x29_2 + 1))) else (none))) = some r := by rw [← hbq18] at H; exact H
     have Nbq18 := Aside0.mk hbq18
     clear hbq18
     by_cases c19 : (bq18 = true)
     rotate_left
     ·replace c19 := Bool.eq_false_iff.mpr c19
      subst c19
      rw [if_neg (show ¬ (false = true) by decide)] at H
      by_cases c24 : y519.length < 4398046511104
      rotate_left
      ·rw [if_neg c24] at H
       exact absurd H (by simp)
      rw [if_pos c24] at H
      have LMc24 := Aside0.mk c24
      clear c24
      obtain ⟨y522, hy522⟩ : ∃ y_ : List (S24), y_ = (y519 ++ [(⟨(rd_T65 (rd_L7 y513 x23_1) x29_2).f1.f0, (rd_T65 (rd_L7 y513 x23_1) x29_2).f1.f1, (rd_T65 (rd_L7 y513 x23_1) x29_2).f1.f2⟩ : S24)]) := ⟨_, rfl⟩
      replace H : (i_merge.l1 kp k2 l0 l1 y522 y513 (y513.length : Int) x23_1 (rd_L7 y513 x23_1) ((rd_L7 y513 x23_1).length : Int) (wrap64 (x29_2 + 1))) = some r := by first | (rw [hy522]; with_reducible exact H) | (have H2_ := (Option.bind_some _ _).symm.trans H; rw [hy522]; with_reducible exact H2_) | (have H2_ := (Option.bind_some _ _).symm.trans H; with_reducible exact H2_) | with_reducible exact H | (rw [hy522]; exact H) | exact H
      have Ny522 := Aside0.mk hy522
      clear hy522
      have H' := Aside0.mk H
      clear H
      have p517 : 0 ≤ (x29_2 : Int) := of_decide_eq_true (aA)
      have q517 : x29_2 < ((rd_L7 y513 x23_1).length : Int) := of_decide_eq_true (aA)
      obtain ⟨ad517, e517, hx517_0, hx517_1, hx517_2, hx517_3, hx517_4, hx517_5, hx517_6⟩ := at_T65 (Kd.V_reads' HL_.out).2.2 x29_2 p517 q517
      (try rw [← Nbq18.out] at hx517_6)
      cases e517
      replace p517 := eq_true p517
      replace q517 := eq_true q517
      go_wp2_with (first | ((with_reducible refine gate_dst (N := 11) rfl ?_); refine box_event ?hg (N := 11) ?hd (cs := #[.int .i64 0, .int .i64 0, .string (⟨#[]⟩ : ByteArray), .int .i64 0, .int .i64 0, .string (⟨#[]⟩ : ByteArray), .bool false]) (t := 65) ?hr ?_; (case hd => rfl); (case hg => rfl); (case hr => exact hR); intro gb518 hg w25 hbox hb; have n0_ := aK (Kd.V_below (Kd.V_elderB (vX HO_0.out) gb518 (Nat.le_of_eq hg.symm)) hb); have nL_ := aK (Kd.V_below (Kd.V_elderB (vX HL_.out) gb518 (Nat.le_of_eq hg.symm)) hb); have n1_ := aK (Kd.V_below (Kd.V_elderB (vX HO_1.out) gb518 (Nat.le_of_eq hg.symm)) hb); have n2_ := aK (Kd.R_below (rX HO_7.out) hb); have n3_ := aK (Kd.N_below (Kd.N_elderB (by (with_reducible repeat (first | apply Kd.N_alloc | apply Kd.N_drewN | apply Kd.N_drew)); exact HO_21.out) gb518 (Nat.le_of_eq hg.symm)) hb); have n4_ := aK (below_step bO hb); have n5_ := aK (hbox); have n6_ := aK ((by rw [hg]; exact (below_size bO) : w.heap.size ≤ gb518)); have n7_ := aK ((by rw [hg]; exact (below_size bO) : w.heap.size ≤ gb518)); clear HO_0 HL_ HO_1 HO_7 HO_21 HB; have HO_0 := n0_; have HL_ := nL_; have HO_1 := n1_; have HO_7 := n2_; have HO_21 := n3_; have HB := n4_; have BK518 := n5_; have GW518 := n6_; have GE518 := n7_; clear nL_ n0_ n1_ n2_ n3_ n4_ n5_ n6_ n7_ hb hbox hg; obtain ⟨hcz26_0, hcz26_1, hcz26_2, hcz26_3, hcz26_4, hcz26_5, hcz26_6⟩ := z7 BK518.out (.int .i64 0) (.int .i64 0) (.string (⟨#[]⟩ : ByteArray)) (.int .i64 0) (.int .i64 0) (.string (⟨#[]⟩ : ByteArray)) (.bool false); obtain ⟨hfz26_0, hfz26_1, hfz26_2, hfz26_3, hfz26_4, hfz26_5, hfz26_6⟩ := f7 BK518.out) | ((with_reducible refine gate_builtin (b := .append) (xs := #[.tmp 33, .tmp 36]) rfl ?_); at_builtin; refine Kd.R_append k24 (w0 := w) w.heap.size rfl (.tmp 33) (.tmp 36) 31 24 (.agg #[(.int .i64 0), (.int .i64 0), (.string ⟨#[]⟩)]) 32 rfl Try.underlying31 info24 rfl (by decide) (by omega) u7 x7_2 (⟨(rd_T65 (rd_L7 y513 x23_1) x29_2).f0.f0, (rd_T65 (rd_L7 y513 x23_1) x29_2).f0.f1, (rd_T65 (rd_L7 y513 x23_1) x29_2).f0.f2⟩ : S24) [.int .i64 ((rd_T65 (rd_L7 y513 x23_1) x29_2).f0.f0), .int .i64 ((rd_T65 (rd_L7 y513 x23_1) x29_2).f0.f1), .string ((rd_T65 (rd_L7 y513 x23_1) x29_2).f0.f2)] (fun k_ => (w.heap.size ≤ k_)) (fun _ => False) rfl (by first | (go_simp; done) | (go_simp; rfl)) ?aP (fun _ hk => hk.elim) ?aF ?aO ?aB ?aS ?aL ?_; (case aP => exact k24_mkM _ _ _ (⟨(rd_T65 (rd_L7 y513 x23_1) x29_2).f0.f0, (rd_T65 (rd_L7 y513 x23_1) x29_2).f0.f1, (rd_T65 (rd_L7 y513 x23_1) x29_2).f0.f2⟩ : S24)); (case aB => exact (bS GE518.out)); (case aF => exact (fun k_ hk => (Nat.le_trans (below_size (bS GE518.out)) hk))); (case aO => exact (by (with_reducible repeat (first | apply Kd.R_alloc | apply Kd.R_drewN | apply Kd.R_drew)); exact Kd.R_mono (Kd.R_far (p := ⟨gb518, 6, none⟩) (Kd.R_far (p := ⟨gb518, 5, none⟩) (Kd.R_far (p := ⟨gb518, 4, none⟩) (Kd.R_far (p := ⟨gb518, 3, none⟩) (Kd.R_far (p := ⟨gb518, 2, none⟩) (Kd.R_far (p := ⟨gb518, 1, none⟩) (Kd.R_far (p := ⟨gb518, 0, none⟩) (Kd.R_types HO_7.out BK518.out (by decide)) (fun _ hk => hk.2) (.int .i64 ((rd_T65 (rd_L7 y513 x23_1) x29_2).f0.f0))) (fun _ hk => hk.2) (.int .i64 ((rd_T65 (rd_L7 y513 x23_1) x29_2).f0.f1))) (fun _ hk => hk.2) (.string ((rd_T65 (rd_L7 y513 x23_1) x29_2).f0.f2))) (fun _ hk => hk.2) (.int .i64 ((rd_T65 (rd_L7 y513 x23_1) x29_2).f1.f0))) (fun _ hk => hk.2) (.int .i64 ((rd_T65 (rd_L7 y513 x23_1) x29_2).f1.f1))) (fun _ hk => hk.2) (.string ((rd_T65 (rd_L7 y513 x23_1) x29_2).f1.f2))) (fun _ hk => hk.2) (.bool false)) (fun _ hk => hk.1))); (case aS => exact (below_size (bS GE518.out))); (case aL => have := LMc17.out; omega); intro v520 w27 ho hb hg hat; rw [← Ny519.out] at ho; have n0_ := aK (Kd.V_afterv (ok := (fun k_ => ((P0_ k_ ∨ P1_ k_) ∨ w.heap.size ≤ k_) ∧ some k_ ≠ (.slice (some ad516) y513.length co10 : Value).ownBlock ∧ k_ ≠ gb518)) (by (with_reducible repeat (first | apply Kd.V_alloc | apply Kd.V_drewN | apply Kd.V_drew)); exact Kd.V_mono (Kd.V_far (p := ⟨gb518, 6, none⟩) (Kd.V_far (p := ⟨gb518, 5, none⟩) (Kd.V_far (p := ⟨gb518, 4, none⟩) (Kd.V_far (p := ⟨gb518, 3, none⟩) (Kd.V_far (p := ⟨gb518, 2, none⟩) (Kd.V_far (p := ⟨gb518, 1, none⟩) (Kd.V_far (p := ⟨gb518, 0, none⟩) (Kd.V_mono HO_0.out (fun k_ hk => (⟨hk, hk.2⟩ : _ ∧ k_ ≠ gb518))) (fun _ hk => hk.2) (.int .i64 ((rd_T65 (rd_L7 y513 x23_1) x29_2).f0.f0))) (fun _ hk => hk.2) (.int .i64 ((rd_T65 (rd_L7 y513 x23_1) x29_2).f0.f1))) (fun _ hk => hk.2) (.string ((rd_T65 (rd_L7 y513 x23_1) x29_2).f0.f2))) (fun _ hk => hk.2) (.int .i64 ((rd_T65 (rd_L7 y513 x23_1) x29_2).f1.f0))) (fun _ hk => hk.2) (.int .i64 ((rd_T65 (rd_L7 y513 x23_1) x29_2).f1.f1))) (fun _ hk => hk.2) (.string ((rd_T65 (rd_L7 y513 x23_1) x29_2).f1.f2))) (fun _ hk => hk.2) (.bool false)) (fun _ hk => ⟨⟨hk.1.1.1, ⟨hk.1.1.2.2, hk.1.2⟩⟩, hk.1.1.2.1⟩)) hg hat); have nL_ := aK (Kd.V_afterv (ok := (fun k_ => ((P0_ k_ ∨ P1_ k_) ∨ w.heap.size ≤ k_) ∧ some k_ ≠ (.slice (some ad516) y513.length co10 : Value).ownBlock ∧ k_ ≠ gb518)) (by (with_reducible repeat (first | apply Kd.V_alloc | apply Kd.V_drewN | apply Kd.V_drew)); exact Kd.V_mono (Kd.V_far (p := ⟨gb518, 6, none⟩) (Kd.V_far (p := ⟨gb518, 5, none⟩) (Kd.V_far (p := ⟨gb518, 4, none⟩) (Kd.V_far (p := ⟨gb518, 3, none⟩) (Kd.V_far (p := ⟨gb518, 2, none⟩) (Kd.V_far (p := ⟨gb518, 1, none⟩) (Kd.V_far (p := ⟨gb518, 0, none⟩) (Kd.V_mono HL_.out (fun k_ hk => (⟨hk, hk.2⟩ : _ ∧ k_ ≠ gb518))) (fun _ hk => hk.2) (.int .i64 ((rd_T65 (rd_L7 y513 x23_1) x29_2).f0.f0))) (fun _ hk => hk.2) (.int .i64 ((rd_T65 (rd_L7 y513 x23_1) x29_2).f0.f1))) (fun _ hk => hk.2) (.string ((rd_T65 (rd_L7 y513 x23_1) x29_2).f0.f2))) (fun _ hk => hk.2) (.int .i64 ((rd_T65 (rd_L7 y513 x23_1) x29_2).f1.f0))) (fun _ hk => hk.2) (.int .i64 ((rd_T65 (rd_L7 y513 x23_1) x29_2).f1.f1))) (fun _ hk => hk.2) (.string ((rd_T65 (rd_L7 y513 x23_1) x29_2).f1.f2))) (fun _ hk => hk.2) (.bool false)) (fun _ hk => ⟨⟨hk.1.1.1, ⟨hk.1.1.2.2, hk.1.2⟩⟩, hk.1.1.2.1⟩)) hg hat); have n1_ := aK (Kd.V_afterv (ok := (fun k_ => ((P0_ k_ ∨ P1_ k_) ∨ w.heap.size ≤ k_) ∧ some k_ ≠ (.slice (some ad516) y513.length co10 : Value).ownBlock ∧ k_ ≠ gb518)) (by (with_reducible repeat (first | apply Kd.V_alloc | apply Kd.V_drewN | apply Kd.V_drew)); exact Kd.V_mono (Kd.V_far (p := ⟨gb518, 6, none⟩) (Kd.V_far (p := ⟨gb518, 5, none⟩) (Kd.V_far (p := ⟨gb518, 4, none⟩) (Kd.V_far (p := ⟨gb518, 3, none⟩) (Kd.V_far (p := ⟨gb518, 2, none⟩) (Kd.V_far (p := ⟨gb518, 1, none⟩) (Kd.V_far (p := ⟨gb518, 0, none⟩) (Kd.V_mono HO_1.out (fun k_ hk => (⟨hk, hk.2⟩ : _ ∧ k_ ≠ gb518))) (fun _ hk => hk.2) (.int .i64 ((rd_T65 (rd_L7 y513 x23_1) x29_2).f0.f0))) (fun _ hk => hk.2) (.int .i64 ((rd_T65 (rd_L7 y513 x23_1) x29_2).f0.f1))) (fun _ hk => hk.2) (.string ((rd_T65 (rd_L7 y513 x23_1) x29_2).f0.f2))) (fun _ hk => hk.2) (.int .i64 ((rd_T65 (rd_L7 y513 x23_1) x29_2).f1.f0))) (fun _ hk => hk.2) (.int .i64 ((rd_T65 (rd_L7 y513 x23_1) x29_2).f1.f1))) (fun _ hk => hk.2) (.string ((rd_T65 (rd_L7 y513 x23_1) x29_2).f1.f2))) (fun _ hk => hk.2) (.bool false)) (fun _ hk => ⟨⟨hk.1.1.1, ⟨hk.1.1.2.2, hk.1.2⟩⟩, hk.1.1.2.1⟩)) hg hat); have n2_ := aK (Kd.N_afterv (ok := (fun k_ => ((P0_ k_ ∨ P1_ k_) ∨ w.heap.size ≤ k_) ∧ k_ ≠ gb518)) (by (with_reducible repeat (first | apply Kd.N_alloc | apply Kd.N_drewN | apply Kd.N_drew)); exact Kd.N_mono (Kd.N_far (p := ⟨gb518, 6, none⟩) (Kd.N_far (p := ⟨gb518, 5, none⟩) (Kd.N_far (p := ⟨gb518, 4, none⟩) (Kd.N_far (p := ⟨gb518, 3, none⟩) (Kd.N_far (p := ⟨gb518, 2, none⟩) (Kd.N_far (p := ⟨gb518, 1, none⟩) (Kd.N_far (p := ⟨gb518, 0, none⟩) (Kd.N_mono HO_21.out (fun k_ hk => (⟨hk, hk.2⟩ : _ ∧ k_ ≠ gb518))) (fun _ hk => hk.2) (.int .i64 ((rd_T65 (rd_L7 y513 x23_1) x29_2).f0.f0))) (fun _ hk => hk.2) (.int .i64 ((rd_T65 (rd_L7 y513 x23_1) x29_2).f0.f1))) (fun _ hk => hk.2) (.string ((rd_T65 (rd_L7 y513 x23_1) x29_2).f0.f2))) (fun _ hk => hk.2) (.int .i64 ((rd_T65 (rd_L7 y513 x23_1) x29_2).f1.f0))) (fun _ hk => hk.2) (.int .i64 ((rd_T65 (rd_L7 y513 x23_1) x29_2).f1.f1))) (fun _ hk => hk.2) (.string ((rd_T65 (rd_L7 y513 x23_1) x29_2).f1.f2))) (fun _ hk => hk.2) (.bool false)) (fun _ hk => ⟨⟨hk.1.1.1, hk.1.2⟩, hk.1.1.2⟩)) hg hat); have n3_ := aK (blk_grown (g := gb518) (o := .cells #[.int .i64 ((rd_T65 (rd_L7 y513 x23_1) x29_2).f0.f0), .int .i64 ((rd_T65 (rd_L7 y513 x23_1) x29_2).f0.f1), .string ((rd_T65 (rd_L7 y513 x23_1) x29_2).f0.f2), .int .i64 ((rd_T65 (rd_L7 y513 x23_1) x29_2).f1.f0), .int .i64 ((rd_T65 (rd_L7 y513 x23_1) x29_2).f1.f1), .string ((rd_T65 (rd_L7 y513 x23_1) x29_2).f1.f2), .bool false] 65 (0, 0)) (put7 BK518.out) hg (Kd.R_ne HO_7.out BK518.out (by decide))); have n4_ := aK (hb); have n5_ := aK (ho); clear HO_0 HL_ HO_1 HO_21 BK518 HB HO_7; have HO_0 := n0_; have HL_ := nL_; have HO_1 := n1_; have HO_21 := n2_; have BK518 := n3_; have HB := n4_; have HO521 := n5_; clear nL_ n0_ n1_ n2_ n3_ n4_ n5_ ho hb hg hat; obtain ⟨hcz28_0, hcz28_1, hcz28_2, hcz28_3, hcz28_4, hcz28_5, hcz28_6⟩ := z7 BK518.out (.int .i64 ((rd_T65 (rd_L7 y513 x23_1) x29_2).f0.f0)) (.int .i64 ((rd_T65 (rd_L7 y513 x23_1) x29_2).f0.f1)) (.string ((rd_T65 (rd_L7 y513 x23_1) x29_2).f0.f2)) (.int .i64 ((rd_T65 (rd_L7 y513 x23_1) x29_2).f1.f0)) (.int .i64 ((rd_T65 (rd_L7 y513 x23_1) x29_2).f1.f1)) (.string ((rd_T65 (rd_L7 y513 x23_1) x29_2).f1.f2)) (.bool false); obtain ⟨hfz28_0, hfz28_1, hfz28_2, hfz28_3, hfz28_4, hfz28_5, hfz28_6⟩ := f7 BK518.out) | ((with_reducible refine gate_builtin (b := .append) (xs := #[.tmp 41, .tmp 44]) rfl ?_); at_builtin; refine Kd.R_append k24 (w0 := w) w.heap.size rfl (.tmp 41) (.tmp 44) 31 24 (.agg #[(.int .i64 0), (.int .i64 0), (.string ⟨#[]⟩)]) 32 rfl Try.underlying31 info24 rfl (by decide) (by omega) v520 y519 (⟨(rd_T65 (rd_L7 y513 x23_1) x29_2).f1.f0, (rd_T65 (rd_L7 y513 x23_1) x29_2).f1.f1, (rd_T65 (rd_L7 y513 x23_1) x29_2).f1.f2⟩ : S24) [.int .i64 ((rd_T65 (rd_L7 y513 x23_1) x29_2).f1.f0), .int .i64 ((rd_T65 (rd_L7 y513 x23_1) x29_2).f1.f1), .string ((rd_T65 (rd_L7 y513 x23_1) x29_2).f1.f2)] (fun k_ => (w.heap.size ≤ k_)) (fun _ => False) rfl rfl ?aP (fun _ hk => hk.elim) ?aF ?aO ?aB ?aS ?aL ?_; (case aP => exact k24_mkM _ _ _ (⟨(rd_T65 (rd_L7 y513 x23_1) x29_2).f1.f0, (rd_T65 (rd_L7 y513 x23_1) x29_2).f1.f1, (rd_T65 (rd_L7 y513 x23_1) x29_2).f1.f2⟩ : S24)); (case aB => exact (bS GE518.out)); (case aF => exact (fun k_ hk => (Nat.le_trans (below_size (bS GE518.out)) hk))); (case aO => exact (rX HO521.out)); (case aS => exact (below_size (bS GE518.out))); (case aL => have := LMc24.out; omega); intro v523 w29 ho hb hg hat; rw [← Ny522.out] at ho; have n0_ := aK (Kd.V_afterv (ok := (fun k_ => ((P0_ k_ ∨ P1_ k_) ∨ w.heap.size ≤ k_) ∧ some k_ ≠ (.slice (some ad516) y513.length co10 : Value).ownBlock ∧ k_ ≠ gb518)) (vX HO_0.out) hg hat); have nL_ := aK (Kd.V_afterv (ok := (fun k_ => ((P0_ k_ ∨ P1_ k_) ∨ w.heap.size ≤ k_) ∧ some k_ ≠ (.slice (some ad516) y513.length co10 : Value).ownBlock ∧ k_ ≠ gb518)) (vX HL_.out) hg hat); have n1_ := aK (Kd.V_afterv (ok := (fun k_ => ((P0_ k_ ∨ P1_ k_) ∨ w.heap.size ≤ k_) ∧ some k_ ≠ (.slice (some ad516) y513.length co10 : Value).ownBlock ∧ k_ ≠ gb518)) (vX HO_1.out) hg hat); have n2_ := aK (Kd.N_afterv (ok := (fun k_ => ((P0_ k_ ∨ P1_ k_) ∨ w.heap.size ≤ k_) ∧ k_ ≠ gb518)) (by (with_reducible repeat (first | apply Kd.N_alloc | apply Kd.N_drewN | apply Kd.N_drew)); exact HO_21.out) hg hat); have n3_ := aK (blk_grown (g := gb518) (o := .cells #[.int .i64 ((rd_T65 (rd_L7 y513 x23_1) x29_2).f0.f0), .int .i64 ((rd_T65 (rd_L7 y513 x23_1) x29_2).f0.f1), .string ((rd_T65 (rd_L7 y513 x23_1) x29_2).f0.f2), .int .i64 ((rd_T65 (rd_L7 y513 x23_1) x29_2).f1.f0), .int .i64 ((rd_T65 (rd_L7 y513 x23_1) x29_2).f1.f1), .string ((rd_T65 (rd_L7 y513 x23_1) x29_2).f1.f2), .bool false] 65 (0, 0)) (bX BK518.out) hg (Kd.R_ne HO521.out BK518.out (by decide))); have n4_ := aK (hb); have n5_ := aK (ho); clear HO_0 HL_ HO_1 HO_21 BK518 HB HO521; have HO_0 := n0_; have HL_ := nL_; have HO_1 := n1_; have HO_21 := n2_; have BK518 := n3_; have HB := n4_; have HO524 := n5_; clear nL_ n0_ n1_ n2_ n3_ n4_ n5_ ho hb hg hat))
      go_roundg k2
      case measure => have := HK1.out; have := HK2.out; omega
      case rel => exact ⟨(y522), (wrap64 (x29_2 + 1)), (by first | rfl | (simp; done) | (simp [*]; done)), H', ⟨by have := HK1.out; have := HK2.out; omega⟩, ⟨by (with_reducible repeat (first | apply Kd.V_alloc | apply Kd.V_drewN | apply Kd.V_drew)); exact Kd.V_mono HO_0.out (fun _ hk => ⟨hk.1.1, ⟨hk.2, hk.1.2.1⟩⟩)⟩, ⟨by (with_reducible repeat (first | apply Kd.V_alloc | apply Kd.V_drewN | apply Kd.V_drew)); exact Kd.V_mono HL_.out (fun _ hk => ⟨hk.1.1, ⟨hk.2, hk.1.2.1⟩⟩)⟩, ⟨by (with_reducible repeat (first | apply Kd.V_alloc | apply Kd.V_drewN | apply Kd.V_drew)); exact Kd.V_mono HO_1.out (fun _ hk => ⟨hk.1.1, ⟨hk.2, hk.1.2.1⟩⟩)⟩, ⟨rX HO524.out⟩, ⟨by (with_reducible repeat (first | apply Kd.N_alloc | apply Kd.N_drewN | apply Kd.N_drew)); exact Kd.N_mono HO_21.out (fun _ hk => ⟨hk.1.1, hk.2⟩)⟩, ⟨bS GE518.out⟩⟩
     subst c19
     rw [if_pos rfl] at H
     have H' := Aside0.mk H
     clear H
     have p517 : 0 ≤ (x29_2 : Int) := of_decide_eq_true (aA)
     have q517 : x29_2 < ((rd_L7 y513 x23_1).length : Int) := of_decide_eq_true (aA)
     obtain ⟨ad517, e517, hx517_0, hx517_1, hx517_2, hx517_3, hx517_4, hx517_5, hx517_6⟩ := at_T65 (Kd.V_reads' HL_.out).2.2 x29_2 p517 q517
     (try rw [← Nbq18.out] at hx517_6)
     cases e517
     replace p517 := eq_true p517
     replace q517 := eq_true q517
     go_wp2_with (first | ((with_reducible refine gate_dst (N := 11) rfl ?_); refine box_event ?hg (N := 11) ?hd (cs := #[.int .i64 0, .int .i64 0, .string (⟨#[]⟩ : ByteArray), .int .i64 0, .int .i64 0, .string (⟨#[]⟩ : ByteArray), .bool false]) (t := 65) ?hr ?_; (case hd => rfl); (case hg => rfl); (case hr => exact hR); intro gb518 hg w20 hbox hb; have n0_ := aK (Kd.V_below (Kd.V_elderB (vX HO_0.out) gb518 (Nat.le_of_eq hg.symm)) hb); have nL_ := aK (Kd.V_below (Kd.V_elderB (vX HL_.out) gb518 (Nat.le_of_eq hg.symm)) hb); have n1_ := aK (Kd.V_below (Kd.V_elderB (vX HO_1.out) gb518 (Nat.le_of_eq hg.symm)) hb); have n2_ := aK (Kd.R_below (rX HO_7.out) hb); have n3_ := aK (Kd.N_below (Kd.N_elderB (by (with_reducible repeat (first | apply Kd.N_alloc | apply Kd.N_drewN | apply Kd.N_drew)); exact HO_21.out) gb518 (Nat.le_of_eq hg.symm)) hb); have n4_ := aK (below_step bO hb); have n5_ := aK (hbox); have n6_ := aK ((by rw [hg]; exact (below_size bO) : w.heap.size ≤ gb518)); have n7_ := aK ((by rw [hg]; exact (below_size bO) : w.heap.size ≤ gb518)); clear HO_0 HL_ HO_1 HO_7 HO_21 HB; have HO_0 := n0_; have HL_ := nL_; have HO_1 := n1_; have HO_7 := n2_; have HO_21 := n3_; have HB := n4_; have BK518 := n5_; have GW518 := n6_; have GE518 := n7_; clear nL_ n0_ n1_ n2_ n3_ n4_ n5_ n6_ n7_ hb hbox hg; obtain ⟨hcz21_0, hcz21_1, hcz21_2, hcz21_3, hcz21_4, hcz21_5, hcz21_6⟩ := z7 BK518.out (.int .i64 0) (.int .i64 0) (.string (⟨#[]⟩ : ByteArray)) (.int .i64 0) (.int .i64 0) (.string (⟨#[]⟩ : ByteArray)) (.bool false); obtain ⟨hfz21_0, hfz21_1, hfz21_2, hfz21_3, hfz21_4, hfz21_5, hfz21_6⟩ := f7 BK518.out) | ((with_reducible refine gate_builtin (b := .append) (xs := #[.tmp 33, .tmp 36]) rfl ?_); at_builtin; refine Kd.R_append k24 (w0 := w) w.heap.size rfl (.tmp 33) (.tmp 36) 31 24 (.agg #[(.int .i64 0), (.int .i64 0), (.string ⟨#[]⟩)]) 32 rfl Try.underlying31 info24 rfl (by decide) (by omega) u7 x7_2 (⟨(rd_T65 (rd_L7 y513 x23_1) x29_2).f0.f0, (rd_T65 (rd_L7 y513 x23_1) x29_2).f0.f1, (rd_T65 (rd_L7 y513 x23_1) x29_2).f0.f2⟩ : S24) [.int .i64 ((rd_T65 (rd_L7 y513 x23_1) x29_2).f0.f0), .int .i64 ((rd_T65 (rd_L7 y513 x23_1) x29_2).f0.f1), .string ((rd_T65 (rd_L7 y513 x23_1) x29_2).f0.f2)] (fun k_ => (w.heap.size ≤ k_)) (fun _ => False) rfl (by first | (go_simp; done) | (go_simp; rfl)) ?aP (fun _ hk => hk.elim) ?aF ?aO ?aB ?aS ?aL ?_; (case aP => exact k24_mkM _ _ _ (⟨(rd_T65 (rd_L7 y513 x23_1) x29_2).f0.f0, (rd_T65 (rd_L7 y513 x23_1) x29_2).f0.f1, (rd_T65 (rd_L7 y513 x23_1) x29_2).f0.f2⟩ : S24)); (case aB => exact (bS GE518.out)); (case aF => exact (fun k_ hk => (Nat.le_trans (below_size (bS GE518.out)) hk))); (case aO => exact (by (with_reducible repeat (first | apply Kd.R_alloc | apply Kd.R_drewN | apply Kd.R_drew)); exact Kd.R_mono (Kd.R_far (p := ⟨gb518, 6, none⟩) (Kd.R_far (p := ⟨gb518, 5, none⟩) (Kd.R_far (p := ⟨gb518, 4, none⟩) (Kd.R_far (p := ⟨gb518, 3, none⟩) (Kd.R_far (p := ⟨gb518, 2, none⟩) (Kd.R_far (p := ⟨gb518, 1, none⟩) (Kd.R_far (p := ⟨gb518, 0, none⟩) (Kd.R_types HO_7.out BK518.out (by decide)) (fun _ hk => hk.2) (.int .i64 ((rd_T65 (rd_L7 y513 x23_1) x29_2).f0.f0))) (fun _ hk => hk.2) (.int .i64 ((rd_T65 (rd_L7 y513 x23_1) x29_2).f0.f1))) (fun _ hk => hk.2) (.string ((rd_T65 (rd_L7 y513 x23_1) x29_2).f0.f2))) (fun _ hk => hk.2) (.int .i64 ((rd_T65 (rd_L7 y513 x23_1) x29_2).f1.f0))) (fun _ hk => hk.2) (.int .i64 ((rd_T65 (rd_L7 y513 x23_1) x29_2).f1.f1))) (fun _ hk => hk.2) (.string ((rd_T65 (rd_L7 y513 x23_1) x29_2).f1.f2))) (fun _ hk => hk.2) (.bool true)) (fun _ hk => hk.1))); (case aS => exact (below_size (bS GE518.out))); (case aL => have := LMc17.out; omega); intro v520 w22 ho hb hg hat; rw [← Ny519.out] at ho; have n0_ := aK (Kd.V_afterv (ok := (fun k_ => ((P0_ k_ ∨ P1_ k_) ∨ w.heap.size ≤ k_) ∧ some k_ ≠ (.slice (some ad516) y513.length co10 : Value).ownBlock ∧ k_ ≠ gb518)) (by (with_reducible repeat (first | apply Kd.V_alloc | apply Kd.V_drewN | apply Kd.V_drew)); exact Kd.V_mono (Kd.V_far (p := ⟨gb518, 6, none⟩) (Kd.V_far (p := ⟨gb518, 5, none⟩) (Kd.V_far (p := ⟨gb518, 4, none⟩) (Kd.V_far (p := ⟨gb518, 3, none⟩) (Kd.V_far (p := ⟨gb518, 2, none⟩) (Kd.V_far (p := ⟨gb518, 1, none⟩) (Kd.V_far (p := ⟨gb518, 0, none⟩) (Kd.V_mono HO_0.out (fun k_ hk => (⟨hk, hk.2⟩ : _ ∧ k_ ≠ gb518))) (fun _ hk => hk.2) (.int .i64 ((rd_T65 (rd_L7 y513 x23_1) x29_2).f0.f0))) (fun _ hk => hk.2) (.int .i64 ((rd_T65 (rd_L7 y513 x23_1) x29_2).f0.f1))) (fun _ hk => hk.2) (.string ((rd_T65 (rd_L7 y513 x23_1) x29_2).f0.f2))) (fun _ hk => hk.2) (.int .i64 ((rd_T65 (rd_L7 y513 x23_1) x29_2).f1.f0))) (fun _ hk => hk.2) (.int .i64 ((rd_T65 (rd_L7 y513 x23_1) x29_2).f1.f1))) (fun _ hk => hk.2) (.string ((rd_T65 (rd_L7 y513 x23_1) x29_2).f1.f2))) (fun _ hk => hk.2) (.bool true)) (fun _ hk => ⟨⟨hk.1.1.1, ⟨hk.1.1.2.2, hk.1.2⟩⟩, hk.1.1.2.1⟩)) hg hat); have nL_ := aK (Kd.V_afterv (ok := (fun k_ => ((P0_ k_ ∨ P1_ k_) ∨ w.heap.size ≤ k_) ∧ some k_ ≠ (.slice (some ad516) y513.length co10 : Value).ownBlock ∧ k_ ≠ gb518)) (by (with_reducible repeat (first | apply Kd.V_alloc | apply Kd.V_drewN | apply Kd.V_drew)); exact Kd.V_mono (Kd.V_far (p := ⟨gb518, 6, none⟩) (Kd.V_far (p := ⟨gb518, 5, none⟩) (Kd.V_far (p := ⟨gb518, 4, none⟩) (Kd.V_far (p := ⟨gb518, 3, none⟩) (Kd.V_far (p := ⟨gb518, 2, none⟩) (Kd.V_far (p := ⟨gb518, 1, none⟩) (Kd.V_far (p := ⟨gb518, 0, none⟩) (Kd.V_mono HL_.out (fun k_ hk => (⟨hk, hk.2⟩ : _ ∧ k_ ≠ gb518))) (fun _ hk => hk.2) (.int .i64 ((rd_T65 (rd_L7 y513 x23_1) x29_2).f0.f0))) (fun _ hk => hk.2) (.int .i64 ((rd_T65 (rd_L7 y513 x23_1) x29_2).f0.f1))) (fun _ hk => hk.2) (.string ((rd_T65 (rd_L7 y513 x23_1) x29_2).f0.f2))) (fun _ hk => hk.2) (.int .i64 ((rd_T65 (rd_L7 y513 x23_1) x29_2).f1.f0))) (fun _ hk => hk.2) (.int .i64 ((rd_T65 (rd_L7 y513 x23_1) x29_2).f1.f1))) (fun _ hk => hk.2) (.string ((rd_T65 (rd_L7 y513 x23_1) x29_2).f1.f2))) (fun _ hk => hk.2) (.bool true)) (fun _ hk => ⟨⟨hk.1.1.1, ⟨hk.1.1.2.2, hk.1.2⟩⟩, hk.1.1.2.1⟩)) hg hat); have n1_ := aK (Kd.V_afterv (ok := (fun k_ => ((P0_ k_ ∨ P1_ k_) ∨ w.heap.size ≤ k_) ∧ some k_ ≠ (.slice (some ad516) y513.length co10 : Value).ownBlock ∧ k_ ≠ gb518)) (by (with_reducible repeat (first | apply Kd.V_alloc | apply Kd.V_drewN | apply Kd.V_drew)); exact Kd.V_mono (Kd.V_far (p := ⟨gb518, 6, none⟩) (Kd.V_far (p := ⟨gb518, 5, none⟩) (Kd.V_far (p := ⟨gb518, 4, none⟩) (Kd.V_far (p := ⟨gb518, 3, none⟩) (Kd.V_far (p := ⟨gb518, 2, none⟩) (Kd.V_far (p := ⟨gb518, 1, none⟩) (Kd.V_far (p := ⟨gb518, 0, none⟩) (Kd.V_mono HO_1.out (fun k_ hk => (⟨hk, hk.2⟩ : _ ∧ k_ ≠ gb518))) (fun _ hk => hk.2) (.int .i64 ((rd_T65 (rd_L7 y513 x23_1) x29_2).f0.f0))) (fun _ hk => hk.2) (.int .i64 ((rd_T65 (rd_L7 y513 x23_1) x29_2).f0.f1))) (fun _ hk => hk.2) (.string ((rd_T65 (rd_L7 y513 x23_1) x29_2).f0.f2))) (fun _ hk => hk.2) (.int .i64 ((rd_T65 (rd_L7 y513 x23_1) x29_2).f1.f0))) (fun _ hk => hk.2) (.int .i64 ((rd_T65 (rd_L7 y513 x23_1) x29_2).f1.f1))) (fun _ hk => hk.2) (.string ((rd_T65 (rd_L7 y513 x23_1) x29_2).f1.f2))) (fun _ hk => hk.2) (.bool true)) (fun _ hk => ⟨⟨hk.1.1.1, ⟨hk.1.1.2.2, hk.1.2⟩⟩, hk.1.1.2.1⟩)) hg hat); have n2_ := aK (Kd.N_afterv (ok := (fun k_ => ((P0_ k_ ∨ P1_ k_) ∨ w.heap.size ≤ k_) ∧ k_ ≠ gb518)) (by (with_reducible repeat (first | apply Kd.N_alloc | apply Kd.N_drewN | apply Kd.N_drew)); exact Kd.N_mono (Kd.N_far (p := ⟨gb518, 6, none⟩) (Kd.N_far (p := ⟨gb518, 5, none⟩) (Kd.N_far (p := ⟨gb518, 4, none⟩) (Kd.N_far (p := ⟨gb518, 3, none⟩) (Kd.N_far (p := ⟨gb518, 2, none⟩) (Kd.N_far (p := ⟨gb518, 1, none⟩) (Kd.N_far (p := ⟨gb518, 0, none⟩) (Kd.N_mono HO_21.out (fun k_ hk => (⟨hk, hk.2⟩ : _ ∧ k_ ≠ gb518))) (fun _ hk => hk.2) (.int .i64 ((rd_T65 (rd_L7 y513 x23_1) x29_2).f0.f0))) (fun _ hk => hk.2) (.int .i64 ((rd_T65 (rd_L7 y513 x23_1) x29_2).f0.f1))) (fun _ hk => hk.2) (.string ((rd_T65 (rd_L7 y513 x23_1) x29_2).f0.f2))) (fun _ hk => hk.2) (.int .i64 ((rd_T65 (rd_L7 y513 x23_1) x29_2).f1.f0))) (fun _ hk => hk.2) (.int .i64 ((rd_T65 (rd_L7 y513 x23_1) x29_2).f1.f1))) (fun _ hk => hk.2) (.string ((rd_T65 (rd_L7 y513 x23_1) x29_2).f1.f2))) (fun _ hk => hk.2) (.bool true)) (fun _ hk => ⟨⟨hk.1.1.1, hk.1.2⟩, hk.1.1.2⟩)) hg hat); have n3_ := aK (blk_grown (g := gb518) (o := .cells #[.int .i64 ((rd_T65 (rd_L7 y513 x23_1) x29_2).f0.f0), .int .i64 ((rd_T65 (rd_L7 y513 x23_1) x29_2).f0.f1), .string ((rd_T65 (rd_L7 y513 x23_1) x29_2).f0.f2), .int .i64 ((rd_T65 (rd_L7 y513 x23_1) x29_2).f1.f0), .int .i64 ((rd_T65 (rd_L7 y513 x23_1) x29_2).f1.f1), .string ((rd_T65 (rd_L7 y513 x23_1) x29_2).f1.f2), .bool true] 65 (0, 0)) (put7 BK518.out) hg (Kd.R_ne HO_7.out BK518.out (by decide))); have n4_ := aK (hb); have n5_ := aK (ho); clear HO_0 HL_ HO_1 HO_21 BK518 HB HO_7; have HO_0 := n0_; have HL_ := nL_; have HO_1 := n1_; have HO_21 := n2_; have BK518 := n3_; have HB := n4_; have HO521 := n5_; clear nL_ n0_ n1_ n2_ n3_ n4_ n5_ ho hb hg hat; obtain ⟨hcz23_0, hcz23_1, hcz23_2, hcz23_3, hcz23_4, hcz23_5, hcz23_6⟩ := z7 BK518.out (.int .i64 ((rd_T65 (rd_L7 y513 x23_1) x29_2).f0.f0)) (.int .i64 ((rd_T65 (rd_L7 y513 x23_1) x29_2).f0.f1)) (.string ((rd_T65 (rd_L7 y513 x23_1) x29_2).f0.f2)) (.int .i64 ((rd_T65 (rd_L7 y513 x23_1) x29_2).f1.f0)) (.int .i64 ((rd_T65 (rd_L7 y513 x23_1) x29_2).f1.f1)) (.string ((rd_T65 (rd_L7 y513 x23_1) x29_2).f1.f2)) (.bool true); obtain ⟨hfz23_0, hfz23_1, hfz23_2, hfz23_3, hfz23_4, hfz23_5, hfz23_6⟩ := f7 BK518.out))
     go_roundg k2
     case measure => have := HK1.out; have := HK2.out; omega
     case rel => exact ⟨(y519), (wrap64 (x29_2 + 1)), (by first | rfl | (simp; done) | (simp [*]; done)), H', ⟨by have := HK1.out; have := HK2.out; omega⟩, ⟨by (with_reducible repeat (first | apply Kd.V_alloc | apply Kd.V_drewN | apply Kd.V_drew)); exact Kd.V_mono HO_0.out (fun _ hk => ⟨hk.1.1, ⟨hk.2, hk.1.2.1⟩⟩)⟩, ⟨by (with_reducible repeat (first | apply Kd.V_alloc | apply Kd.V_drewN | apply Kd.V_drew)); exact Kd.V_mono HL_.out (fun _ hk => ⟨hk.1.1, ⟨hk.2, hk.1.2.1⟩⟩)⟩, ⟨by (with_reducible repeat (first | apply Kd.V_alloc | apply Kd.V_drewN | apply Kd.V_drew)); exact Kd.V_mono HO_1.out (fun _ hk => ⟨hk.1.1, ⟨hk.2, hk.1.2.1⟩⟩)⟩, ⟨rX HO521.out⟩, ⟨by (with_reducible repeat (first | apply Kd.N_alloc | apply Kd.N_drewN | apply Kd.N_drew)); exact Kd.N_mono HO_21.out (fun _ hk => ⟨hk.1.1, hk.2⟩)⟩, ⟨bS GE518.out⟩⟩
end Go.Proofs.Ytpjcdacnhalclaa.Q
