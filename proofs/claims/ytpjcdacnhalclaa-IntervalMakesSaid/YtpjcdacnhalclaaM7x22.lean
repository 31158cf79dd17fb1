/- A part of the proof of the law that the last part names: facts of the functions that the law calls. No condition beyond those that stand in them. -/
import Derived.Test.YtpjcdacnhalclaaM7x3
import Derived.Test.YtpjcdacnhalclaaM7x20
import Derived.Test.YtpjcdacnhalclaaM7x12
import Derived.Test.YtpjcdacnhalclaaM7x13
import Derived.Test.YtpjcdacnhalclaaM7x11
import Derived.Test.YtpjcdacnhalclaaM7x10
import Derived.Test.YtpjcdacnhalclaaM7x14
import Derived.Test.YtpjcdacnhalclaaM7x16
import Derived.Test.YtpjcdacnhalclaaM7x18
import Derived.Test.YtpjcdacnhalclaaM7x21
namespace Go.Proofs.Ytpjcdacnhalclaa.Q
open Go.RowKit Go.Proofs.YtpjcdacnhalclaaW.PrintWords Go.Proofs.YtpjcdacnhalclaaW.PrintLast Go.Proofs.YtpjcdacnhalclaaW.PrintMore
attribute [local go_sem] max2_int min2_int max_two min_two max_three min_three max_four min_four
set_option linter.unusedVariables false
set_option linter.unusedSimpArgs false
mutual
def partsynclaw03_IntervalMakes.l0 : Nat → Int → List (S24) → Int → Int → Int → Int → ByteArray → List Int → Int → Option (Bool)
 | 0, _, _, _, _, _, _, _, _, _ => none
 | k + 1, x2, x33, x34, x35, x725000, x725001, x725002, x728000, x728001 => if x35 < x34 then (if 0 ≤ x35 then (if x35 < (x33.length : Int) then ((partsynccase_Case_Any.f k x728000 x728001).bind fun bt737 => ((some (([(⟨x725000, x725001, x725002⟩ : S24), (⟨bt737.1, bt737.2.1, bt737.2.2.1⟩ : S24), (⟨(rd_T24 x33 x35).f0, (rd_T24 x33 x35).f1, (rd_T24 x33 x35).f2⟩ : S24)] : List (S24)) : List (S24))).bind fun y741 => (partsynclaw03_IntervalMakes.l1 k x2 x33 x34 x35 y741 (y741.length : Int) 0 x725000 x725001 x725002 x728000 bt737.2.2.2 ((rd_T24 x33 x35).f0) ((rd_T24 x33 x35).f1) ((rd_T24 x33 x35).f2)))) else (none)) else (none)) else ((interval_OfKind.f k x2).bind fun bt773 => ((partsyncref03_OfKind.f k x2).bind fun bt777 => ((partsynclaw03_begun.f k).bind fun t781 => (if t781 = true then (if bt773.2 = bt777.2 then ((partsyncref03_Same.f k bt773.1 bt777.1).bind fun t782 => (if t782 = true then ((interval_All.f).bind fun t783 => ((partsyncref03_All.f).bind fun t786 => ((partsyncref03_Same.f k t783 t786).bind fun t789 => (some t789)))) else (some false))) else (some false)) else (some false)))))
def partsynclaw03_IntervalMakes.l1 : Nat → Int → List (S24) → Int → Int → List (S24) → Int → Int → Int → Int → ByteArray → List Int → Int → Int → Int → ByteArray → Option (Bool)
 | 0, _, _, _, _, _, _, _, _, _, _, _, _, _, _, _ => none
 | k + 1, x2, x33, x34, x35, x43, x44, x45, x725000, x725001, x725002, x728000, x728001, x737000, x737001, x737002 => if x45 < x44 then (if 0 ≤ x45 then (if x45 < (x43.length : Int) then ((interval_Between.f k x737000 x737001 x737002 ((rd_T24 x43 x45).f0) ((rd_T24 x43 x45).f1) ((rd_T24 x43 x45).f2)).bind fun bt746 => ((partsyncref03_Between.f k x737000 x737001 x737002 ((rd_T24 x43 x45).f0) ((rd_T24 x43 x45).f1) ((rd_T24 x43 x45).f2)).bind fun bt750 => (if bt746.2 = bt750.2 then ((partsyncref03_Same.f k bt746.1 bt750.1).bind fun t754 => (if t754 = true then (partsynclaw03_IntervalMakes.l1 k x2 x33 x34 x35 x43 x44 (wrap64 (x45 + 1)) x725000 x725001 x725002 x728000 x728001 x737000 x737001 x737002) else (some false))) else (some false)))) else (none)) else (none)) else ((interval_One.f k x737000 x737001 x737002).bind fun bt755 => ((partsyncref03_One.f k x737000 x737001 x737002).bind fun bt759 => ((interval_From.f k x737000 x737001 x737002).bind fun bt763 => ((partsyncref03_From.f k x737000 x737001 x737002).bind fun bt767 => (if bt755.2 = bt759.2 then (if bt763.2 = bt767.2 then ((partsyncref03_Same.f k bt755.1 bt759.1).bind fun t771 => (if t771 = true then ((partsyncref03_Same.f k bt763.1 bt767.1).bind fun t772 => (if t772 = true then (partsynclaw03_IntervalMakes.l0 k x2 x33 x34 (wrap64 (x35 + 1)) x725000 x725001 x725002 x728000 x728001) else (some false))) else (some false))) else (some false)) else (some false))))))
end
def partsynclaw03_IntervalMakes.f (k : Nat) (l0 : List Int) (a1_0 : Int) (a1_1 : Int) (a1_2 : ByteArray) (a2 : Int) : Option (Bool) := (partsynccase_New.f l0 90).bind fun bt725 => ((partsynccase_Case_Any.f k bt725.1 bt725.2).bind fun bt728 => ((some (([(⟨a1_0, a1_1, a1_2⟩ : S24), (⟨bt728.1, bt728.2.1, bt728.2.2.1⟩ : S24)] : List (S24)) : List (S24))).bind fun y732 => (partsynclaw03_IntervalMakes.l0 k a2 y732 (y732.length : Int) 0 a1_0 a1_1 a1_2 bt725.1 bt728.2.2.2)))
set_option maxHeartbeats 8000000 in
set_option maxRecDepth 100000 in
theorem partsynclaw03_IntervalMakes.callsN (k : Nat) (A0 : Option Addr) (c0 : Nat) (l0 : List Int) (a1_0 : Int) (a1_1 : Int) (a1_2 : ByteArray) (a2 : Int) (r : Bool) (w : World) (hr0 : Kd.C (Kd.int .u8) w A0 l0.length l0) (hc0 : l0.length ≤ c0) (h : partsynclaw03_IntervalMakes.f k l0 a1_0 a1_1 a1_2 a2 = some r) (HRT : Aside0 (r = true)) :
  Calls Try.prog 7 #[.slice A0 l0.length c0, .agg #[.int .i64 a1_0, .int .i64 a1_1, .string a1_2], .int .i64 a2] w fun e w' => e = .returned (.bool r) ∧ ∃ wb, Below w.heap.size w wb ∧ Below wb.heap.size wb w' := by
 have hu24 := Try.underlying24
 have HR0 := Aside0.mk hr0
 have HC0 := Aside0.mk hc0
 clear hr0 hc0
 have HB := Aside0.mk (Below.refl w.heap.size w)
 have H : ((partsynccase_New.f l0 90).bind fun bt725 => ((partsynccase_Case_Any.f k bt725.1 bt725.2).bind fun bt728 => ((some (([(⟨a1_0, a1_1, a1_2⟩ : S24), (⟨bt728.1, bt728.2.1, bt728.2.2.1⟩ : S24)] : List (S24)) : List (S24))).bind fun y732 => (partsynclaw03_IntervalMakes.l0 k a2 y732 (y732.length : Int) 0 a1_0 a1_1 a1_2 bt725.1 bt728.2.2.2)))) = some r := h
 clear h
 replace H := Option.bind_eq_some_iff.mp H
 obtain ⟨⟨t725, t726⟩, A40, H⟩ := H
 replace H : ((partsynccase_Case_Any.f k t725 t726).bind fun bt728 => ((some (([(⟨a1_0, a1_1, a1_2⟩ : S24), (⟨bt728.1, bt728.2.1, bt728.2.2.1⟩ : S24)] : List (S24)) : List (S24))).bind fun y732 => (partsynclaw03_IntervalMakes.l0 k a2 y732 (y732.length : Int) 0 a1_0 a1_1 a1_2 t725 bt728.2.2.2))) = some r := H
 have A4 := Aside0.mk A40
 clear A40
 go_enter Try.func7, Try.ntmps7
 go_wp2_with (first | ((with_reducible refine gate_dst (N := 4) rfl ?_); refine box_event ?hg (N := 4) ?hd (cs := #[.int .i64 a1_0, .int .i64 a1_1, .string a1_2]) (t := 24) ?hr ?_; (case hd => rfl); (case hg => rfl); (case hr => first | (go_simp; done) | (go_simp; rfl)); intro gb724 hg w5 hbox hb; have n0_ := Aside0.mk (below_step bO hb); have n1_ := Aside0.mk (hbox); have n2_ := Aside0.mk ((by rw [hg]; exact (below_size bO) : w.heap.size ≤ gb724)); have n3_ := Aside0.mk ((by rw [hg]; exact (below_size bO) : w.heap.size ≤ gb724)); clear HB; have HB := n0_; have BK724 := n1_; have GW724 := n2_; have GE724 := n3_; clear n0_ n1_ n2_ n3_; clear hb hbox hg) | ((with_reducible refine gate_callee (f := 18) rfl ?_); refine gL (some 29) rfl Try.func18 #[.slice A0 l0.length c0, .int .i64 90] rfl ?_; (with_reducible refine (partsynccase_New.calls _ _ l0 90 t725 t726 w _ ?side1 ?side2 ?side3 A4.out).mono ?_); (case side1 => exact bS GE724.out); (case side2 => exact HR0.out); (case side3 => exact HC0.out); rintro e w6 ⟨g727, rfl, hi, hb, hb2⟩; refine ⟨_, rfl, ?_⟩; have n0_ := Aside0.mk (blk_below (g := gb724) (o := .cells #[.int .i64 a1_0, .int .i64 a1_1, .string a1_2] 24 (0, 0)) (bX BK724.out) hb2); have n1_ := Aside0.mk (hb); have n2_ := Aside0.mk (hi); have n3_ := Aside0.mk (NewS75.ne_blk hi (blk_below (g := gb724) (o := .cells #[.int .i64 a1_0, .int .i64 a1_1, .string a1_2] 24 (0, 0)) (bX BK724.out) hb2) (by decide)); have n4_ := Aside0.mk (Ne.symm (NewS75.ne_blk hi (blk_below (g := gb724) (o := .cells #[.int .i64 a1_0, .int .i64 a1_1, .string a1_2] 24 (0, 0)) (bX BK724.out) hb2) (by decide))); clear BK724; clear HB; have BK724 := n0_; have HB := n1_; have HI727 := n2_; have NB727_724 := n3_; have NB724_727 := n4_; clear n0_ n1_ n2_ n3_ n4_; (try clear hb); (try clear hb2); (try clear hk); (try clear hi)))
 have HNS := HI727.out
 clear HI727 HB
 obtain ⟨w, BWN, BNW, hIN⟩ := HNS
 have HI727 := Aside0.mk hIN
 have HB := Aside0.mk BNW
 have HBWN := Aside0.mk BWN
 clear hIN BNW BWN
 replace H := Option.bind_eq_some_iff.mp H
 obtain ⟨⟨t728, t729, t730, t731⟩, A70, H⟩ := H
 replace H : ((some (([(⟨a1_0, a1_1, a1_2⟩ : S24), (⟨t728, t729, t730⟩ : S24)] : List (S24)) : List (S24))).bind fun y732 => (partsynclaw03_IntervalMakes.l0 k a2 y732 (y732.length : Int) 0 a1_0 a1_1 a1_2 t725 t731)) = some r := H
 have A7 := Aside0.mk A70
 clear A70
 obtain ⟨y732, hy732⟩ : ∃ y_ : List (S24), y_ = (([(⟨a1_0, a1_1, a1_2⟩ : S24), (⟨t728, t729, t730⟩ : S24)] : List (S24))) := ⟨_, rfl⟩
 replace H : (partsynclaw03_IntervalMakes.l0 k a2 y732 (y732.length : Int) 0 a1_0 a1_1 a1_2 t725 t731) = some r := by first | (rw [hy732]; with_reducible exact H) | (have H2_ := (Option.bind_some _ _).symm.trans H; rw [hy732]; with_reducible exact H2_) | (have H2_ := (Option.bind_some _ _).symm.trans H; with_reducible exact H2_) | with_reducible exact H | (rw [hy732]; exact H) | exact H
 have Ny732 := Aside0.mk hy732
 clear hy732
 have H' := Aside0.mk H
 clear H
 try go_wp2
 have n0_ := Aside0.mk (blk_drew BK724.out)
 have n1_ := Aside0.mk (IsS75.drew HI727.out)
 have n2_ := Aside0.mk (below_drew1 HB.out)
 clear BK724
 clear HI727
 clear HB
 have BK724 := n0_
 have HI727 := n1_
 have HB := n2_
 clear n0_ n1_ n2_
 refine start_ (n := 6) (S := fun w' => w'.cell? ⟨gb724, 0, none⟩ = some (.int .i64 a1_0) ∧ w'.cell? ⟨gb724, 1, none⟩ = some (.int .i64 a1_1) ∧ w'.cell? ⟨gb724, 2, none⟩ = some (.string a1_2)) (ds := []) #[false, false, false, false, false, false] (by kernel_rfl) rfl rfl ⟨(blk_cell BK724.out 0).trans rfl, (blk_cell BK724.out 1).trans rfl, (blk_cell BK724.out 2).trans rfl⟩ (fun hHeld => ?_)
 generalize w6.drew = w8 at BK724 HI727 HB hHeld ⊢
 refine pure_ (i := 1) (N := some 31) (v := ?_) (a' := ?_) #[false, true, false, false, false, false] rfl rfl (by kernel_rfl) (fun _ _ _ h => h) (Or.inl ⟨by rfl, ?_⟩) ?_ ?_
 rotate_left
 ·intro w'
  go_simp
  with_reducible rfl
 rotate_left
 ·simp only [Act.put, List.setIfInBounds_toArray, List.set_cons_zero, List.set_cons_succ, i64_w, i32_w]
  rfl
 refine pure_ (i := 5) (N := some 35) (v := ?_) (a' := ?_) #[false, true, false, false, false, true] rfl rfl (by kernel_rfl) (fun _ _ _ h => h) (Or.inl ⟨by rfl, ?_⟩) ?_ ?_
 rotate_left
 ·intro w'
  go_simp
  with_reducible rfl
 rotate_left
 ·simp only [Act.put, List.setIfInBounds_toArray, List.set_cons_zero, List.set_cons_succ, i64_w, i32_w]
  rfl
 refine take_ (i := 0) (N := some 30) (v := ?_) (a' := ?_) #[true, true, false, false, false, true] rfl rfl (by kernel_rfl) (fun _ _ _ h => h) (Or.inl ⟨by rfl, ?_⟩) hHeld ?_ ?_
 rotate_left
 ·rintro w' ⟨s0, s1, s2⟩
  go_simp
  with_reducible rfl
 rotate_left
 ·simp only [Act.put, List.setIfInBounds_toArray, List.set_cons_zero, List.set_cons_succ, i64_w, i32_w]
  rfl
 refine one_ (i := 2) (N := some 32) #[true, true, true, false, false, true] rfl rfl (by kernel_rfl) (by decide) (fun K hK => ?_)
 refine goes_ Try.func19 (by kernel_rfl) rfl #[.pointer (some ⟨g727, 0, none⟩)] (by rfl) rfl rfl (by (try simp only [List.map_toArray, List.map_cons, List.map_nil]); first | done | rfl | (simp only [List.length_drop, List.length_take]; rfl)) ?_
 with_reducible refine (partsynccase_Case_Any.calls k g727 t725 t726 t728 t729 t730 t731 w _ ?side1 ?side2 A7.out).mono ?_
 (case side1 => repeat (first | (with_reducible first | exact HI727.out | apply IsS75.alloc | apply IsS75.drewN | apply IsS75.drew | apply IsS75.set_1 | refine IsS75.far ?_ NB727_724.out _) | exact HI727.out))
 (case side2 => exact bT (IsS75.ge HI727.out) GE724.out)
 rintro e w9 ⟨rfl, hi, hb, hk⟩
 refine ⟨_, rfl, ?_⟩
 have n0_ := Aside0.mk (KeepBut.blk hk (g' := gb724) (o := .cells #[.int .i64 a1_0, .int .i64 a1_1, .string a1_2] 24 (0, 0)) (bX BK724.out) NB724_727.out (by simp))
 have n1_ := Aside0.mk (hb)
 have n2_ := Aside0.mk (hi)
 clear BK724
 clear HB
 clear HI727
 have BK724 := n0_
 have HB := n1_
 have HI727 := n2_
 clear n0_ n1_ n2_
 (try clear hb)
 (try clear hb2)
 (try clear hk)
 (try clear hi)
 refine hK.out _ _ ⟨(blk_cell BK724.out 0).trans rfl, (blk_cell BK724.out 1).trans rfl, (blk_cell BK724.out 2).trans rfl⟩ (fun hHeld => ?_)
 clear hK K
 refine norm_ (a' := ?_) ?_ ?_
 rotate_left
 ·show Act.put _ (some 32) _ = _
  simp only [Act.put, List.setIfInBounds_toArray, List.set_cons_zero, List.set_cons_succ, i64_w, i32_w]
  rfl
 refine one_ (i := 3) (N := some 33) #[true, true, true, true, false, true] rfl rfl (by kernel_rfl) (by decide) (fun K hK => ?_)
 refine Kd.R_lit_step k24 _ 24 ?hg (N := 33) ?hd (xs := ([(⟨a1_0, a1_1, a1_2⟩ : S24), (⟨t728, t729, t730⟩ : S24)] : List (S24))) (inner := [.int .i64 a1_0, .int .i64 a1_1, .string a1_2, .int .i64 t728, .int .i64 t729, .string t730]) (ok := fun _ => True) (okp := fun _ => True) ?hr ?hp (fun _ hk => hk) trivial (Below.refl _ _) (Nat.le_refl _) (by simp) ?_; (case hd => rfl); (case hg => rfl); (case hr => first | (go_simp; done) | (go_simp; rfl)); (case hp => exact (Reps.c3 (show Kd.M k24 _ _ _ (⟨a1_0, a1_1, a1_2⟩ : S24) [.int .i64 a1_0, .int .i64 a1_1, .string a1_2] from (k24_mkM _ _ _ (⟨a1_0, a1_1, a1_2⟩ : S24) )) (Reps.c3 (show Kd.M k24 _ _ _ (⟨t728, t729, t730⟩ : S24) [.int .i64 t728, .int .i64 t729, .string t730] from (k24_mkM _ _ _ (⟨t728, t729, t730⟩ : S24) )) (Reps.none _ _))))
 intro v733 w10 ho11 hb hg_ hnew_
 clear hg_ hnew_
 (first | rw [← Ny732.out] at ho11 | (simp only [Int.reduceToNat] at ho11; rw [← Ny732.out] at ho11))
 have n0_ := Aside0.mk (Kd.R_lower (Kd.R_newB ho11 (g := gb724) (o := .cells #[.int .i64 a1_0, .int .i64 a1_1, .string a1_2] 24 (0, 0)) (bX BK724.out)) (below_size (bT (IsS75.ge HI727.out) GE724.out)))
 have n1_ := Aside0.mk (blk_below (g := gb724) (o := .cells #[.int .i64 a1_0, .int .i64 a1_1, .string a1_2] 24 (0, 0)) (bX BK724.out) hb)
 have n2_ := Aside0.mk (IsS75.below (by repeat (first | (with_reducible first | exact HI727.out | apply IsS75.alloc | apply IsS75.drewN | apply IsS75.drew | apply IsS75.set_1 | refine IsS75.far ?_ NB727_724.out _) | exact HI727.out)) hb)
 have n3_ := Aside0.mk (below_step (bT (IsS75.ge HI727.out) GE724.out) hb)
 clear BK724
 clear HI727
 clear HB
 have HO734 := n0_
 have BK724 := n1_
 have HI727 := n2_
 have HB := n3_
 clear n0_ n1_ n2_ n3_
 clear hb ho11
 obtain ⟨Ao12, co12, eo12⟩ := Kd.R_slice HO734.out
 (first | subst eo12 | (injection eo12 with f1_ f2_ f3_; have f4_ := f1_.symm; have f5_ := f3_.symm; clear f1_ f2_ f3_; subst f4_; subst f5_))
 refine hK.out _ _ ⟨(blk_cell BK724.out 0).trans rfl, (blk_cell BK724.out 1).trans rfl, (blk_cell BK724.out 2).trans rfl⟩ (fun hHeld => ?_)
 clear hK K
 refine norm_ (a' := ?_) ?_ ?_
 rotate_left
 ·show Act.put _ (some 33) _ = _
  simp only [Act.put, List.setIfInBounds_toArray, List.set_cons_zero, List.set_cons_succ, i64_w, i32_w]
  rfl
 refine pure_ (i := 4) (N := some 34) (v := ?_) (a' := ?_) #[true, true, true, true, true, true] rfl rfl (by kernel_rfl) (fun _ _ _ h => h) (Or.inl ⟨by rfl, ?_⟩) ?_ ?_
 rotate_left
 ·intro w'
  go_simp
  with_reducible rfl
 rotate_left
 ·simp only [Act.put, List.setIfInBounds_toArray, List.set_cons_zero, List.set_cons_succ, i64_w, i32_w]
  rfl
 refine done_ (by kernel_rfl) ?_
 try go_wp2
 go_loopg [35] k (fun kq v35 w' => ∃ (x35_1 : Int) (x728001_1 : Int), v35 = .int .i64 x35_1 ∧ Aside0 (partsynclaw03_IntervalMakes.l0 kq a2 y732 (y732.length : Int) x35_1 a1_0 a1_1 a1_2 t725 x728001_1 = some r) ∧ Aside0 (kq ≤ k) ∧ Aside0 (Kd.R k24 24 w' w.heap.size (fun k_ => k_ ≠ gb724) (.slice Ao12 y732.length co12) y732) ∧ Aside0 (w'.heap[gb724]? = some (.cells #[.int .i64 a1_0, .int .i64 a1_1, .string a1_2] 24 (0, 0))) ∧ Aside0 (IsS75 w w' g727 t725 x728001_1) ∧ Aside0 (Below w.heap.size w w'))
 case atStart => exact ⟨(0), (t731), (by first | rfl | (simp; done) | (simp [*]; done)), H', ⟨Nat.le_refl _⟩, ⟨by (with_reducible repeat (first | apply Kd.R_alloc | apply Kd.R_drewN | apply Kd.R_drew)); exact Kd.R_mono HO734.out (fun _ hk => hk.2)⟩, ⟨by (with_reducible repeat (first | refine blk_drewN ?_ _ | refine blk_drew ?_ | refine blk_alloc ?_ _)); exact BK724.out⟩, ⟨by repeat (first | (with_reducible first | exact HI727.out | apply IsS75.alloc | apply IsS75.drewN | apply IsS75.drew | apply IsS75.set_1 | refine IsS75.far ?_ NB727_724.out _) | exact HI727.out)⟩, ⟨bT (IsS75.ge HI727.out) GE724.out⟩⟩
 case round =>
  clear H'
  try clear c1
  try clear p2
  try clear c3
  try clear c7
  obtain ⟨x35_1, x728001_1, rfl, HA, HK1, HO_33, BK724, HI727, HB⟩ := hrel
  cases gk with
  | zero => exact absurd HA.out (by simp [partsynclaw03_IntervalMakes.l0])
  | succ k1 =>
   have H := HA.out
   clear HA
   simp only [partsynclaw03_IntervalMakes.l0] at H
   by_cases c13 : x35_1 < (y732.length : Int)
   ·rw [if_pos c13] at H
    have c13b0 : decide (x35_1 < (y732.length : Int)) = true := decide_eq_true c13
    clear c13
    by_cases c14 : 0 ≤ x35_1
    ·rw [if_pos c14] at H
     have c14b0 : decide (0 ≤ x35_1) = true := decide_eq_true c14
     clear c14
     by_cases c15 : x35_1 < (y732.length : Int)
     ·rw [if_pos c15] at H
      have c15b0 : decide (x35_1 < (y732.length : Int)) = true := decide_eq_true c15
      clear c15
      replace H := Option.bind_eq_some_iff.mp H
      obtain ⟨⟨t737, t738, t739, t740⟩, A160, H⟩ := H
      replace H : ((some (([(⟨a1_0, a1_1, a1_2⟩ : S24), (⟨t737, t738, t739⟩ : S24), (⟨(rd_T24 y732 x35_1).f0, (rd_T24 y732 x35_1).f1, (rd_T24 y732 x35_1).f2⟩ : S24)] : List (S24)) : List (S24))).bind fun y741 => (partsynclaw03_IntervalMakes.l1 k1 a2 y732 (y732.length : Int) x35_1 y741 (y741.length : Int) 0 a1_0 a1_1 a1_2 t725 t740 ((rd_T24 y732 x35_1).f0) ((rd_T24 y732 x35_1).f1) ((rd_T24 y732 x35_1).f2))) = some r := H
      have A16 := Aside0.mk A160
      clear A160
      obtain ⟨y741, hy741⟩ : ∃ y_ : List (S24), y_ = (([(⟨a1_0, a1_1, a1_2⟩ : S24), (⟨t737, t738, t739⟩ : S24), (⟨(rd_T24 y732 x35_1).f0, (rd_T24 y732 x35_1).f1, (rd_T24 y732 x35_1).f2⟩ : S24)] : List (S24))) := ⟨_, rfl⟩
      replace H : (partsynclaw03_IntervalMakes.l1 k1 a2 y732 (y732.length : Int) x35_1 y741 (y741.length : Int) 0 a1_0 a1_1 a1_2 t725 t740 ((rd_T24 y732 x35_1).f0) ((rd_T24 y732 x35_1).f1) ((rd_T24 y732 x35_1).f2)) = some r := by first | (rw [hy741]; with_reducible exact H) | (have H2_ := (Option.bind_some _ _).symm.trans H; rw [hy741]; with_reducible exact H2_) | (have H2_ := (Option.bind_some _ _).symm.trans H; with_reducible exact H2_) | with_reducible exact H | (rw [hy741]; exact H) | exact H
      have Ny741 := Aside0.mk hy741
      clear hy741
      have H' := Aside0.mk H
      clear H
      have p735 : 0 ≤ (x35_1 : Int) := of_decide_eq_true (by first | (with_reducible assumption) | assumption)
      have q735 : x35_1 < (y732.length : Int) := of_decide_eq_true (by first | (with_reducible assumption) | assumption)
      obtain ⟨ad735, e735, hx735_0, hx735_1, hx735_2⟩ := at_T24 (Kd.R_reads' HO_33.out).2.2 x35_1 p735 q735
      cases e735
      replace p735 := eq_true p735
      replace q735 := eq_true q735
      try go_wp2_with (first | ((with_reducible refine gate_dst (N := 9) rfl ?_); refine box_event ?hg (N := 9) ?hd (cs := #[.int .i64 0, .int .i64 0, .string (⟨#[]⟩ : ByteArray)]) (t := 24) ?hr ?_; (case hd => rfl); (case hg => rfl); (case hr => first | (go_simp; done) | (go_simp; rfl)); intro gb736 hg w17 hbox hb; have n0_ := Aside0.mk (Kd.R_below (Kd.R_elderB (rX HO_33.out) gb736 (Nat.le_of_eq hg.symm)) hb); have n1_ := Aside0.mk (blk_below (g := gb724) (o := .cells #[.int .i64 a1_0, .int .i64 a1_1, .string a1_2] 24 (0, 0)) (bX BK724.out) hb); have n2_ := Aside0.mk (IsS75.below (by repeat (first | (with_reducible first | exact HI727.out | apply IsS75.alloc | apply IsS75.drewN | apply IsS75.drew | apply IsS75.set_1 | refine IsS75.far ?_ NB727_724.out _) | exact HI727.out)) hb); have n3_ := Aside0.mk (below_step (bT (IsS75.ge HI727.out) GE724.out) hb); have n4_ := Aside0.mk (hbox); have n5_ := Aside0.mk ((by rw [hg]; exact (below_size (bT (IsS75.ge HI727.out) GE724.out)) : w.heap.size ≤ gb736)); have n6_ := Aside0.mk ((by rw [hg]; exact (below_size (bT (IsS75.ge HI727.out) GE724.out)) : w.heap.size ≤ gb736)); have n7_ := Aside0.mk ((by rw [hg]; exact Nat.ne_of_lt (blk_lt (g := gb724) (o := .cells #[.int .i64 a1_0, .int .i64 a1_1, .string a1_2] 24 (0, 0)) (bX BK724.out)) : gb724 ≠ gb736)); have n8_ := Aside0.mk ((by rw [hg]; exact Nat.ne_of_gt (blk_lt (g := gb724) (o := .cells #[.int .i64 a1_0, .int .i64 a1_1, .string a1_2] 24 (0, 0)) (bX BK724.out)) : gb736 ≠ gb724)); have n9_ := Aside0.mk ((by rw [hg]; exact Nat.ne_of_lt (IsS75.lt (show IsS75 w _ g727 t725 x728001_1 from by repeat (first | (with_reducible first | exact HI727.out | apply IsS75.alloc | apply IsS75.drewN | apply IsS75.drew | apply IsS75.set_1 | refine IsS75.far ?_ NB727_724.out _) | exact HI727.out))) : g727 ≠ gb736)); have n10_ := Aside0.mk ((by rw [hg]; exact Nat.ne_of_gt (IsS75.lt (show IsS75 w _ g727 t725 x728001_1 from by repeat (first | (with_reducible first | exact HI727.out | apply IsS75.alloc | apply IsS75.drewN | apply IsS75.drew | apply IsS75.set_1 | refine IsS75.far ?_ NB727_724.out _) | exact HI727.out))) : gb736 ≠ g727)); clear HO_33; clear BK724; clear HI727; clear HB; have HO_33 := n0_; have BK724 := n1_; have HI727 := n2_; have HB := n3_; have BK736 := n4_; have GW736 := n5_; have GE736 := n6_; have NB724_736 := n7_; have NB736_724 := n8_; have NB727_736 := n9_; have NB736_727 := n10_; clear n0_ n1_ n2_ n3_ n4_ n5_ n6_ n7_ n8_ n9_ n10_; clear hb hbox hg; have hnb18 := NB736_724.out; have hnc18 := NB724_736.out; have hnb19 := NB736_727.out; have hnc19 := NB727_736.out; have hcz20_0 : w17.cell? ⟨gb736, 0, none⟩ = some (.int .i64 0) := (blk_cell BK736.out 0).trans rfl; have hcz20_1 : w17.cell? ⟨gb736, 1, none⟩ = some (.int .i64 0) := (blk_cell BK736.out 1).trans rfl; have hcz20_2 : w17.cell? ⟨gb736, 2, none⟩ = some (.string (⟨#[]⟩ : ByteArray)) := (blk_cell BK736.out 2).trans rfl; have hfz20_0 := blk_frozen BK736.out 0; have hfz20_1 := blk_frozen BK736.out 1; have hfz20_2 := blk_frozen BK736.out 2))
      have n0_ : Aside0 (Kd.R k24 24 (((w17.setCell ⟨gb736, 0, none⟩ (.int .i64 ((rd_T24 y732 x35_1).f0))).setCell ⟨gb736, 1, none⟩ (.int .i64 ((rd_T24 y732 x35_1).f1))).setCell ⟨gb736, 2, none⟩ (.string ((rd_T24 y732 x35_1).f2))) w.heap.size (fun k_ => k_ ≠ gb724 ∧ k_ ≠ gb736) (.slice (some ad735) y732.length co12) y732) := ⟨by (with_reducible repeat (first | apply Kd.R_alloc | apply Kd.R_drewN | apply Kd.R_drew)); exact Kd.R_mono (Kd.R_far (p := ⟨gb736, 2, none⟩) (Kd.R_far (p := ⟨gb736, 1, none⟩) (Kd.R_far (p := ⟨gb736, 0, none⟩) (Kd.R_mono HO_33.out (fun k_ hk => (⟨hk, hk.2⟩ : _ ∧ k_ ≠ gb736))) (fun _ hk => hk.2) (.int .i64 ((rd_T24 y732 x35_1).f0))) (fun _ hk => hk.2) (.int .i64 ((rd_T24 y732 x35_1).f1))) (fun _ hk => hk.2) (.string ((rd_T24 y732 x35_1).f2))) (fun _ hk => ⟨hk.1.1, hk.1.2⟩)⟩
      have n1_ : Aside0 ((((w17.setCell ⟨gb736, 0, none⟩ (.int .i64 ((rd_T24 y732 x35_1).f0))).setCell ⟨gb736, 1, none⟩ (.int .i64 ((rd_T24 y732 x35_1).f1))).setCell ⟨gb736, 2, none⟩ (.string ((rd_T24 y732 x35_1).f2))).heap[gb724]? = some (.cells #[.int .i64 a1_0, .int .i64 a1_1, .string a1_2] 24 (0, 0))) := ⟨by (with_reducible repeat (first | refine blk_drewN ?_ _ | refine blk_drew ?_ | refine blk_alloc ?_ _)); refine blk_far ?_ NB724_736.out _; (with_reducible repeat (first | refine blk_drewN ?_ _ | refine blk_drew ?_ | refine blk_alloc ?_ _)); refine blk_far ?_ NB724_736.out _; (with_reducible repeat (first | refine blk_drewN ?_ _ | refine blk_drew ?_ | refine blk_alloc ?_ _)); refine blk_far ?_ NB724_736.out _; (with_reducible repeat (first | refine blk_drewN ?_ _ | refine blk_drew ?_ | refine blk_alloc ?_ _)); exact BK724.out⟩
      have n2_ : Aside0 ((((w17.setCell ⟨gb736, 0, none⟩ (.int .i64 ((rd_T24 y732 x35_1).f0))).setCell ⟨gb736, 1, none⟩ (.int .i64 ((rd_T24 y732 x35_1).f1))).setCell ⟨gb736, 2, none⟩ (.string ((rd_T24 y732 x35_1).f2))).heap[gb736]? = some (.cells #[.int .i64 ((rd_T24 y732 x35_1).f0), .int .i64 ((rd_T24 y732 x35_1).f1), .string ((rd_T24 y732 x35_1).f2)] 24 (0, 0))) := ⟨by (with_reducible repeat (first | refine blk_drewN ?_ _ | refine blk_drew ?_ | refine blk_alloc ?_ _)); refine blk_put (cs := #[.int .i64 ((rd_T24 y732 x35_1).f0), .int .i64 ((rd_T24 y732 x35_1).f1), .string (⟨#[]⟩ : ByteArray)]) ?_ 2 _ rfl; (with_reducible repeat (first | refine blk_drewN ?_ _ | refine blk_drew ?_ | refine blk_alloc ?_ _)); refine blk_put (cs := #[.int .i64 ((rd_T24 y732 x35_1).f0), .int .i64 0, .string (⟨#[]⟩ : ByteArray)]) ?_ 1 _ rfl; (with_reducible repeat (first | refine blk_drewN ?_ _ | refine blk_drew ?_ | refine blk_alloc ?_ _)); refine blk_put (cs := #[.int .i64 0, .int .i64 0, .string (⟨#[]⟩ : ByteArray)]) ?_ 0 _ rfl; (with_reducible repeat (first | refine blk_drewN ?_ _ | refine blk_drew ?_ | refine blk_alloc ?_ _)); exact BK736.out⟩
      have n3_ : Aside0 (IsS75 w (((w17.setCell ⟨gb736, 0, none⟩ (.int .i64 ((rd_T24 y732 x35_1).f0))).setCell ⟨gb736, 1, none⟩ (.int .i64 ((rd_T24 y732 x35_1).f1))).setCell ⟨gb736, 2, none⟩ (.string ((rd_T24 y732 x35_1).f2))) g727 t725 x728001_1) := ⟨by repeat (first | (with_reducible first | exact HI727.out | apply IsS75.alloc | apply IsS75.drewN | apply IsS75.drew | apply IsS75.set_1 | refine IsS75.far ?_ NB727_724.out _ | refine IsS75.far ?_ NB727_736.out _) | exact HI727.out)⟩
      have n4_ : Aside0 (Below w.heap.size w (((w17.setCell ⟨gb736, 0, none⟩ (.int .i64 ((rd_T24 y732 x35_1).f0))).setCell ⟨gb736, 1, none⟩ (.int .i64 ((rd_T24 y732 x35_1).f1))).setCell ⟨gb736, 2, none⟩ (.string ((rd_T24 y732 x35_1).f2)))) := ⟨by repeat (first | (with_reducible first | exact HB.out | apply below_alloc | apply pw_below_drewN | apply below_drew1 | refine below_set ?_ (IsS75.ge HI727.out) | refine below_set ?_ GE724.out | refine below_set ?_ GE736.out) | exact HB.out)⟩
      (try clear HO_33)
      (try clear BK724)
      (try clear BK736)
      (try clear HI727)
      (try clear HB)
      generalize (((w17.setCell ⟨gb736, 0, none⟩ (.int .i64 ((rd_T24 y732 x35_1).f0))).setCell ⟨gb736, 1, none⟩ (.int .i64 ((rd_T24 y732 x35_1).f1))).setCell ⟨gb736, 2, none⟩ (.string ((rd_T24 y732 x35_1).f2))) = w21 at n0_ n1_ n2_ n3_ n4_ ⊢
      have HO_33 := n0_
      have BK724 := n1_
      have BK736 := n2_
      have HI727 := n3_
      have HB := n4_
      clear n0_ n1_ n2_ n3_ n4_
      have n0_ := Aside0.mk (Kd.R_drew HO_33.out)
      have n1_ := Aside0.mk (blk_drew BK724.out)
      have n2_ := Aside0.mk (blk_drew BK736.out)
      have n3_ := Aside0.mk (IsS75.drew HI727.out)
      have n4_ := Aside0.mk (below_drew1 HB.out)
      clear HO_33
      clear BK724
      clear BK736
      clear HI727
      clear HB
      have HO_33 := n0_
      have BK724 := n1_
      have BK736 := n2_
      have HI727 := n3_
      have HB := n4_
      clear n0_ n1_ n2_ n3_ n4_
      refine start_ (n := 7) (S := fun w' => w'.cell? ⟨gb724, 0, none⟩ = some (.int .i64 a1_0) ∧ w'.cell? ⟨gb724, 1, none⟩ = some (.int .i64 a1_1) ∧ w'.cell? ⟨gb724, 2, none⟩ = some (.string a1_2) ∧ w'.cell? ⟨gb736, 0, none⟩ = some (.int .i64 ((rd_T24 y732 x35_1).f0)) ∧ w'.cell? ⟨gb736, 1, none⟩ = some (.int .i64 ((rd_T24 y732 x35_1).f1)) ∧ w'.cell? ⟨gb736, 2, none⟩ = some (.string ((rd_T24 y732 x35_1).f2))) (ds := []) #[false, false, false, false, false, false, false] (by kernel_rfl) rfl rfl ⟨(blk_cell BK724.out 0).trans rfl, (blk_cell BK724.out 1).trans rfl, (blk_cell BK724.out 2).trans rfl, (blk_cell BK736.out 0).trans rfl, (blk_cell BK736.out 1).trans rfl, (blk_cell BK736.out 2).trans rfl⟩ (fun hHeld => ?_)
      generalize w21.drew = w22 at HO_33 BK724 BK736 HI727 HB hHeld ⊢
      refine pure_ (i := 1) (N := some 40) (v := ?_) (a' := ?_) #[false, true, false, false, false, false, false] rfl rfl (by kernel_rfl) (fun _ _ _ h => h) (Or.inl ⟨by rfl, ?_⟩) ?_ ?_
      rotate_left
      ·intro w'
       go_simp
       with_reducible rfl
      rotate_left
      ·simp only [Act.put, List.setIfInBounds_toArray, List.set_cons_zero, List.set_cons_succ, i64_w, i32_w]
       rfl
      refine pure_ (i := 6) (N := some 45) (v := ?_) (a' := ?_) #[false, true, false, false, false, false, true] rfl rfl (by kernel_rfl) (fun _ _ _ h => h) (Or.inl ⟨by rfl, ?_⟩) ?_ ?_
      rotate_left
      ·intro w'
       go_simp
       with_reducible rfl
      rotate_left
      ·simp only [Act.put, List.setIfInBounds_toArray, List.set_cons_zero, List.set_cons_succ, i64_w, i32_w]
       rfl
      refine take_ (i := 0) (N := some 39) (v := ?_) (a' := ?_) #[true, true, false, false, false, false, true] rfl rfl (by kernel_rfl) (fun _ _ _ h => h) (Or.inl ⟨by rfl, ?_⟩) hHeld ?_ ?_
      rotate_left
      ·rintro w' ⟨s0, s1, s2, s3, s4, s5⟩
       go_simp
       with_reducible rfl
      rotate_left
      ·simp only [Act.put, List.setIfInBounds_toArray, List.set_cons_zero, List.set_cons_succ, i64_w, i32_w]
       rfl
      refine take_ (i := 3) (N := some 42) (v := ?_) (a' := ?_) #[true, true, false, true, false, false, true] rfl rfl (by kernel_rfl) (fun _ _ _ h => h) (Or.inl ⟨by rfl, ?_⟩) hHeld ?_ ?_
      rotate_left
      ·rintro w' ⟨s0, s1, s2, s3, s4, s5⟩
       go_simp
       with_reducible rfl
      rotate_left
      ·simp only [Act.put, List.setIfInBounds_toArray, List.set_cons_zero, List.set_cons_succ, i64_w, i32_w]
       rfl
      refine one_ (i := 2) (N := some 41) #[true, true, true, true, false, false, true] rfl rfl (by kernel_rfl) (by decide) (fun K hK => ?_)
      refine goes_ Try.func19 (by kernel_rfl) rfl #[.pointer (some ⟨g727, 0, none⟩)] (by rfl) rfl rfl (by (try simp only [List.map_toArray, List.map_cons, List.map_nil]); first | done | rfl | (simp only [List.length_drop, List.length_take]; rfl)) ?_
      with_reducible refine (partsynccase_Case_Any.calls k1 g727 t725 x728001_1 t737 t738 t739 t740 w _ ?side1 ?side2 A16.out).mono ?_
      (case side1 => repeat (first | (with_reducible first | exact HI727.out | apply IsS75.alloc | apply IsS75.drewN | apply IsS75.drew | apply IsS75.set_1 | refine IsS75.far ?_ NB727_724.out _ | refine IsS75.far ?_ NB727_736.out _) | exact HI727.out))
      (case side2 => repeat (first | (with_reducible first | exact HB.out | apply below_alloc | apply pw_below_drewN | apply below_drew1 | refine below_set ?_ (IsS75.ge HI727.out) | refine below_set ?_ GE724.out | refine below_set ?_ GE736.out) | exact HB.out))
      rintro e w23 ⟨rfl, hi, hb, hk⟩
      refine ⟨_, rfl, ?_⟩
      have n0_ := Aside0.mk (Kd.R_mono (Kd.R_keep (IsS75.apart (show IsS75 w _ g727 t725 x728001_1 from by repeat (first | (with_reducible first | exact HI727.out | apply IsS75.alloc | apply IsS75.drewN | apply IsS75.drew | apply IsS75.set_1 | refine IsS75.far ?_ NB727_724.out _ | refine IsS75.far ?_ NB727_736.out _) | exact HI727.out)) (rX HO_33.out) (by decide)) hk (fun _ h => h.2)) (fun _ h => h.1))
      have n1_ := Aside0.mk (KeepBut.blk hk (g' := gb724) (o := .cells #[.int .i64 a1_0, .int .i64 a1_1, .string a1_2] 24 (0, 0)) (bX BK724.out) NB724_727.out (by simp))
      have n2_ := Aside0.mk (KeepBut.blk hk (g' := gb736) (o := .cells #[.int .i64 ((rd_T24 y732 x35_1).f0), .int .i64 ((rd_T24 y732 x35_1).f1), .string ((rd_T24 y732 x35_1).f2)] 24 (0, 0)) (bX BK736.out) NB736_727.out (by simp))
      have n3_ := Aside0.mk (hb)
      have n4_ := Aside0.mk (hi)
      clear HO_33
      clear BK724
      clear BK736
      clear HB
      clear HI727
      have HO_33 := n0_
      have BK724 := n1_
      have BK736 := n2_
      have HB := n3_
      have HI727 := n4_
      clear n0_ n1_ n2_ n3_ n4_
      (try clear hb)
      (try clear hb2)
      (try clear hk)
      (try clear hi)
      refine hK.out _ _ ⟨(blk_cell BK724.out 0).trans rfl, (blk_cell BK724.out 1).trans rfl, (blk_cell BK724.out 2).trans rfl, (blk_cell BK736.out 0).trans rfl, (blk_cell BK736.out 1).trans rfl, (blk_cell BK736.out 2).trans rfl⟩ (fun hHeld => ?_)
      clear hK K
      refine norm_ (a' := ?_) ?_ ?_
      rotate_left
      ·show Act.put _ (some 41) _ = _
       simp only [Act.put, List.setIfInBounds_toArray, List.set_cons_zero, List.set_cons_succ, i64_w, i32_w]
       rfl
      refine one_ (i := 4) (N := some 43) #[true, true, true, true, true, false, true] rfl rfl (by kernel_rfl) (by decide) (fun K hK => ?_)
      refine Kd.R_lit_step k24 _ 24 ?hg (N := 43) ?hd (xs := ([(⟨a1_0, a1_1, a1_2⟩ : S24), (⟨t737, t738, t739⟩ : S24), (⟨(rd_T24 y732 x35_1).f0, (rd_T24 y732 x35_1).f1, (rd_T24 y732 x35_1).f2⟩ : S24)] : List (S24))) (inner := [.int .i64 a1_0, .int .i64 a1_1, .string a1_2, .int .i64 t737, .int .i64 t738, .string t739, .int .i64 ((rd_T24 y732 x35_1).f0), .int .i64 ((rd_T24 y732 x35_1).f1), .string ((rd_T24 y732 x35_1).f2)]) (ok := fun _ => True) (okp := fun _ => True) ?hr ?hp (fun _ hk => hk) trivial (Below.refl _ _) (Nat.le_refl _) (by simp) ?_; (case hd => rfl); (case hg => rfl); (case hr => first | (go_simp; done) | (go_simp; rfl)); (case hp => exact (Reps.c3 (show Kd.M k24 _ _ _ (⟨a1_0, a1_1, a1_2⟩ : S24) [.int .i64 a1_0, .int .i64 a1_1, .string a1_2] from (k24_mkM _ _ _ (⟨a1_0, a1_1, a1_2⟩ : S24) )) (Reps.c3 (show Kd.M k24 _ _ _ (⟨t737, t738, t739⟩ : S24) [.int .i64 t737, .int .i64 t738, .string t739] from (k24_mkM _ _ _ (⟨t737, t738, t739⟩ : S24) )) (Reps.c3 (show Kd.M k24 _ _ _ (⟨(rd_T24 y732 x35_1).f0, (rd_T24 y732 x35_1).f1, (rd_T24 y732 x35_1).f2⟩ : S24) [.int .i64 ((rd_T24 y732 x35_1).f0), .int .i64 ((rd_T24 y732 x35_1).f1), .string ((rd_T24 y732 x35_1).f2)] from (k24_mkM _ _ _ (⟨(rd_T24 y732 x35_1).f0, (rd_T24 y732 x35_1).f1, (rd_T24 y732 x35_1).f2⟩ : S24) )) (Reps.none _ _)))))
      intro v742 w24 ho25 hb hg_ hnew_
      clear hg_ hnew_
      (first | rw [← Ny741.out] at ho25 | (simp only [Int.reduceToNat] at ho25; rw [← Ny741.out] at ho25))
      have n0_ := Aside0.mk (Kd.R_elder' (rX HO_33.out) (Kd.R_base ho25) hb)
      have n1_ := Aside0.mk (Kd.R_lower (Kd.R_newB (Kd.R_newB (Kd.R_new' ho25 (Kd.R_lt (rX HO_33.out))) (g := gb724) (o := .cells #[.int .i64 a1_0, .int .i64 a1_1, .string a1_2] 24 (0, 0)) (bX BK724.out)) (g := gb736) (o := .cells #[.int .i64 ((rd_T24 y732 x35_1).f0), .int .i64 ((rd_T24 y732 x35_1).f1), .string ((rd_T24 y732 x35_1).f2)] 24 (0, 0)) (bX BK736.out)) (below_size (by repeat (first | (with_reducible first | exact HB.out | apply below_alloc | apply pw_below_drewN | apply below_drew1 | refine below_set ?_ (IsS75.ge HI727.out) | refine below_set ?_ GE724.out | refine below_set ?_ GE736.out) | exact HB.out))))
      have n2_ := Aside0.mk (blk_below (g := gb724) (o := .cells #[.int .i64 a1_0, .int .i64 a1_1, .string a1_2] 24 (0, 0)) (bX BK724.out) hb)
      have n3_ := Aside0.mk (IsS75.below (by repeat (first | (with_reducible first | exact HI727.out | apply IsS75.alloc | apply IsS75.drewN | apply IsS75.drew | apply IsS75.set_1 | refine IsS75.far ?_ NB727_724.out _ | refine IsS75.far ?_ NB727_736.out _) | exact HI727.out)) hb)
      have n4_ := Aside0.mk (blk_below (g := gb736) (o := .cells #[.int .i64 ((rd_T24 y732 x35_1).f0), .int .i64 ((rd_T24 y732 x35_1).f1), .string ((rd_T24 y732 x35_1).f2)] 24 (0, 0)) (bX BK736.out) hb)
      have n5_ := Aside0.mk (below_step (by repeat (first | (with_reducible first | exact HB.out | apply below_alloc | apply pw_below_drewN | apply below_drew1 | refine below_set ?_ (IsS75.ge HI727.out) | refine below_set ?_ GE724.out | refine below_set ?_ GE736.out) | exact HB.out)) hb)
      clear HO_33
      clear BK724
      clear HI727
      clear BK736
      clear HB
      have HO_33 := n0_
      have HO743 := n1_
      have BK724 := n2_
      have HI727 := n3_
      have BK736 := n4_
      have HB := n5_
      clear n0_ n1_ n2_ n3_ n4_ n5_
      clear hb ho25
      obtain ⟨Ao26, co26, eo26⟩ := Kd.R_slice HO743.out
      (first | subst eo26 | (injection eo26 with f1_ f2_ f3_; have f4_ := f1_.symm; have f5_ := f3_.symm; clear f1_ f2_ f3_; subst f4_; subst f5_))
      refine hK.out _ _ ⟨(blk_cell BK724.out 0).trans rfl, (blk_cell BK724.out 1).trans rfl, (blk_cell BK724.out 2).trans rfl, (blk_cell BK736.out 0).trans rfl, (blk_cell BK736.out 1).trans rfl, (blk_cell BK736.out 2).trans rfl⟩ (fun hHeld => ?_)
      clear hK K
      refine norm_ (a' := ?_) ?_ ?_
      rotate_left
      ·show Act.put _ (some 43) _ = _
       simp only [Act.put, List.setIfInBounds_toArray, List.set_cons_zero, List.set_cons_succ, i64_w, i32_w]
       rfl
      refine pure_ (i := 5) (N := some 44) (v := ?_) (a' := ?_) #[true, true, true, true, true, true, true] rfl rfl (by kernel_rfl) (fun _ _ _ h => h) (Or.inl ⟨by rfl, ?_⟩) ?_ ?_
      rotate_left
      ·intro w'
       go_simp
       with_reducible rfl
      rotate_left
      ·simp only [Act.put, List.setIfInBounds_toArray, List.set_cons_zero, List.set_cons_succ, i64_w, i32_w]
       rfl
      refine done_ (by kernel_rfl) ?_
      try go_wp2
      go_loopg [45] k1 (fun kq v45 w' => ∃ (x45_2 : Int), v45 = .int .i64 x45_2 ∧ Aside0 (partsynclaw03_IntervalMakes.l1 kq a2 y732 (y732.length : Int) x35_1 y741 (y741.length : Int) x45_2 a1_0 a1_1 a1_2 t725 t740 ((rd_T24 y732 x35_1).f0) ((rd_T24 y732 x35_1).f1) ((rd_T24 y732 x35_1).f2) = some r) ∧ Aside0 (kq ≤ k1) ∧ Aside0 (Kd.R k24 24 w' w.heap.size (fun k_ => some k_ ≠ ((.slice Ao26 y741.length co26) : Value).ownBlock ∧ k_ ≠ gb724 ∧ k_ ≠ gb736) (.slice (some ad735) y732.length co12) y732) ∧ Aside0 (Kd.R k24 24 w' w.heap.size (fun k_ => some k_ ≠ ((.slice (some ad735) y732.length co12) : Value).ownBlock ∧ k_ ≠ gb724 ∧ k_ ≠ gb736) (.slice Ao26 y741.length co26) y741) ∧ Aside0 (w'.heap[gb724]? = some (.cells #[.int .i64 a1_0, .int .i64 a1_1, .string a1_2] 24 (0, 0))) ∧ Aside0 (w'.heap[gb736]? = some (.cells #[.int .i64 ((rd_T24 y732 x35_1).f0), .int .i64 ((rd_T24 y732 x35_1).f1), .string ((rd_T24 y732 x35_1).f2)] 24 (0, 0))) ∧ Aside0 (IsS75 w w' g727 t725 t740) ∧ Aside0 (Below w.heap.size w w'))
      case atStart => exact ⟨(0), (by first | rfl | (simp; done) | (simp [*]; done)), H', ⟨Nat.le_refl _⟩, ⟨by (with_reducible repeat (first | apply Kd.R_alloc | apply Kd.R_drewN | apply Kd.R_drew)); exact Kd.R_mono HO_33.out (fun _ hk => ⟨hk.2, ⟨hk.1.1, hk.1.2⟩⟩)⟩, ⟨by (with_reducible repeat (first | apply Kd.R_alloc | apply Kd.R_drewN | apply Kd.R_drew)); exact Kd.R_mono HO743.out (fun _ hk => ⟨hk.1.1.2, ⟨hk.1.2, hk.2⟩⟩)⟩, ⟨by (with_reducible repeat (first | refine blk_drewN ?_ _ | refine blk_drew ?_ | refine blk_alloc ?_ _)); exact BK724.out⟩, ⟨by (with_reducible repeat (first | refine blk_drewN ?_ _ | refine blk_drew ?_ | refine blk_alloc ?_ _)); exact BK736.out⟩, ⟨by repeat (first | (with_reducible first | exact HI727.out | apply IsS75.alloc | apply IsS75.drewN | apply IsS75.drew | apply IsS75.set_1 | refine IsS75.far ?_ NB727_724.out _ | refine IsS75.far ?_ NB727_736.out _) | exact HI727.out)⟩, ⟨by repeat (first | (with_reducible first | exact HB.out | apply below_alloc | apply pw_below_drewN | apply below_drew1 | refine below_set ?_ (IsS75.ge HI727.out) | refine below_set ?_ GE724.out | refine below_set ?_ GE736.out) | exact HB.out)⟩⟩
      case round =>
       clear H'
       try clear c1
       try clear p2
       try clear c3
       try clear c7
       try clear p7
       try clear q7
       try clear hx7
       try clear c13
       try clear c13b0
       try clear c14
       try clear c14b0
       try clear c15
       try clear c15b0
       try clear c18
       try clear c19
       try clear hcz20_0
       try clear hcz20_1
       try clear hcz20_2
       try clear hfz20_0
       try clear hfz20_1
       try clear hfz20_2
       try clear hx735_0
       try clear hx735_1
       try clear hx735_2
       try clear p2
       try clear p735
       try clear q735
       obtain ⟨x45_2, rfl, HA, HK2, HO_33, HO_43, BK724, BK736, HI727, HB⟩ := hrel
       cases gk with
       | zero => exact absurd HA.out (by simp [partsynclaw03_IntervalMakes.l1])
       | succ k2 =>
        have H := HA.out
        clear HA
        simp only [partsynclaw03_IntervalMakes.l1] at H
        by_cases c27 : x45_2 < (y741.length : Int)
        ·rw [if_pos c27] at H
         have c27b0 : decide (x45_2 < (y741.length : Int)) = true := decide_eq_true c27
         clear c27
         by_cases c28 : 0 ≤ x45_2
         ·rw [if_pos c28] at H
          have c28b0 : decide (0 ≤ x45_2) = true := decide_eq_true c28
          clear c28
          by_cases c29 : x45_2 < (y741.length : Int)
          ·rw [if_pos c29] at H
           have c29b0 : decide (x45_2 < (y741.length : Int)) = true := decide_eq_true c29
           clear c29
           replace H := Option.bind_eq_some_iff.mp H
           obtain ⟨⟨t746, t749⟩, A300, H⟩ := H
           replace H : ((partsyncref03_Between.f k2 ((rd_T24 y732 x35_1).f0) ((rd_T24 y732 x35_1).f1) ((rd_T24 y732 x35_1).f2) ((rd_T24 y741 x45_2).f0) ((rd_T24 y741 x45_2).f1) ((rd_T24 y741 x45_2).f2)).bind fun bt750 => (if t749 = bt750.2 then ((partsyncref03_Same.f k2 t746 bt750.1).bind fun t754 => (if t754 = true then (partsynclaw03_IntervalMakes.l1 k2 a2 y732 (y732.length : Int) x35_1 y741 (y741.length : Int) (wrap64 (x45_2 + 1)) a1_0 a1_1 a1_2 t725 t740 ((rd_T24 y732 x35_1).f0) ((rd_T24 y732 x35_1).f1) ((rd_T24 y732 x35_1).f2)) else (some false))) else (some false))) = some r := H
           have A30 := Aside0.mk A300
           clear A300
           replace H := Option.bind_eq_some_iff.mp H
           obtain ⟨⟨t750, t753⟩, A310, H⟩ := H
           replace H : (if t749 = t753 then ((partsyncref03_Same.f k2 t746 t750).bind fun t754 => (if t754 = true then (partsynclaw03_IntervalMakes.l1 k2 a2 y732 (y732.length : Int) x35_1 y741 (y741.length : Int) (wrap64 (x45_2 + 1)) a1_0 a1_1 a1_2 t725 t740 ((rd_T24 y732 x35_1).f0) ((rd_T24 y732 x35_1).f1) ((rd_T24 y732 x35_1).f2)) else (some false))) else (some false)) = some r := H
           have A31 := Aside0.mk A310
           clear A310
           by_cases c32 : t749 = t753
           ·rw [if_pos c32] at H
            have c32b0 : (t749 == t753) = true := beq_iff_eq.mpr c32
            have c32b1 : (t749 != t753) = false := bne_eq_false_iff_eq.mpr c32
            clear c32
            replace H := Option.bind_eq_some_iff.mp H
            obtain ⟨t754, A330, H⟩ := H
            replace H : (if t754 = true then (partsynclaw03_IntervalMakes.l1 k2 a2 y732 (y732.length : Int) x35_1 y741 (y741.length : Int) (wrap64 (x45_2 + 1)) a1_0 a1_1 a1_2 t725 t740 ((rd_T24 y732 x35_1).f0) ((rd_T24 y732 x35_1).f1) ((rd_T24 y732 x35_1).f2)) else (some false)) = some r := H
            have A33 := Aside0.mk A330
            clear A330
            by_cases c34 : t754 = true
            ·subst c34
             have H1 : (partsynclaw03_IntervalMakes.l1 k2 a2 y732 (y732.length : Int) x35_1 y741 (y741.length : Int) (wrap64 (x45_2 + 1)) a1_0 a1_1 a1_2 t725 t740 ((rd_T24 y732 x35_1).f0) ((rd_T24 y732 x35_1).f1) ((rd_T24 y732 x35_1).f2)) = some r := by rw [if_pos rfl] at H; exact H
             clear H
             have H := H1
             clear H1
             have H' := Aside0.mk H
             clear H
             have p744 : 0 ≤ (x45_2 : Int) := of_decide_eq_true (by first | (with_reducible assumption) | assumption)
             have q744 : x45_2 < (y741.length : Int) := of_decide_eq_true (by first | (with_reducible assumption) | assumption)
             obtain ⟨ad744, e744, hx744_0, hx744_1, hx744_2⟩ := at_T24 (Kd.R_reads' HO_43.out).2.2 x45_2 p744 q744
             cases e744
             replace p744 := eq_true p744
             replace q744 := eq_true q744
             go_wp2_with (first | ((with_reducible refine gate_dst (N := 11) rfl ?_); refine box_event ?hg (N := 11) ?hd (cs := #[.int .i64 0, .int .i64 0, .string (⟨#[]⟩ : ByteArray)]) (t := 24) ?hr ?_; (case hd => rfl); (case hg => rfl); (case hr => first | (go_simp; done) | (go_simp; rfl)); intro gb745 hg w35 hbox hb; have n0_ := Aside0.mk (Kd.R_below (Kd.R_elderB (rX HO_33.out) gb745 (Nat.le_of_eq hg.symm)) hb); have n1_ := Aside0.mk (Kd.R_below (Kd.R_elderB (rX HO_43.out) gb745 (Nat.le_of_eq hg.symm)) hb); have n2_ := Aside0.mk (blk_below (g := gb724) (o := .cells #[.int .i64 a1_0, .int .i64 a1_1, .string a1_2] 24 (0, 0)) (bX BK724.out) hb); have n3_ := Aside0.mk (blk_below (g := gb736) (o := .cells #[.int .i64 ((rd_T24 y732 x35_1).f0), .int .i64 ((rd_T24 y732 x35_1).f1), .string ((rd_T24 y732 x35_1).f2)] 24 (0, 0)) (bX BK736.out) hb); have n4_ := Aside0.mk (IsS75.below (by repeat (first | (with_reducible first | exact HI727.out | apply IsS75.alloc | apply IsS75.drewN | apply IsS75.drew | apply IsS75.set_1 | refine IsS75.far ?_ NB727_724.out _ | refine IsS75.far ?_ NB727_736.out _) | exact HI727.out)) hb); have n5_ := Aside0.mk (below_step (by repeat (first | (with_reducible first | exact HB.out | apply below_alloc | apply pw_below_drewN | apply below_drew1 | refine below_set ?_ (IsS75.ge HI727.out) | refine below_set ?_ GE724.out | refine below_set ?_ GE736.out) | exact HB.out)) hb); have n6_ := Aside0.mk (hbox); have n7_ := Aside0.mk ((by rw [hg]; exact (below_size (by repeat (first | (with_reducible first | exact HB.out | apply below_alloc | apply pw_below_drewN | apply below_drew1 | refine below_set ?_ (IsS75.ge HI727.out) | refine below_set ?_ GE724.out | refine below_set ?_ GE736.out) | exact HB.out))) : w.heap.size ≤ gb745)); have n8_ := Aside0.mk ((by rw [hg]; exact (below_size (by repeat (first | (with_reducible first | exact HB.out | apply below_alloc | apply pw_below_drewN | apply below_drew1 | refine below_set ?_ (IsS75.ge HI727.out) | refine below_set ?_ GE724.out | refine below_set ?_ GE736.out) | exact HB.out))) : w.heap.size ≤ gb745)); have n9_ := Aside0.mk ((by rw [hg]; exact Nat.ne_of_lt (blk_lt (g := gb724) (o := .cells #[.int .i64 a1_0, .int .i64 a1_1, .string a1_2] 24 (0, 0)) (bX BK724.out)) : gb724 ≠ gb745)); have n10_ := Aside0.mk ((by rw [hg]; exact Nat.ne_of_gt (blk_lt (g := gb724) (o := .cells #[.int .i64 a1_0, .int .i64 a1_1, .string a1_2] 24 (0, 0)) (bX BK724.out)) : gb745 ≠ gb724)); have n11_ := Aside0.mk ((by rw [hg]; exact Nat.ne_of_lt (blk_lt (g := gb736) (o := .cells #[.int .i64 ((rd_T24 y732 x35_1).f0), .int .i64 ((rd_T24 y732 x35_1).f1), .string ((rd_T24 y732 x35_1).f2)] 24 (0, 0)) (bX BK736.out)) : gb736 ≠ gb745)); have n12_ := Aside0.mk ((by rw [hg]; exact Nat.ne_of_gt (blk_lt (g := gb736) (o := .cells #[.int .i64 ((rd_T24 y732 x35_1).f0), .int .i64 ((rd_T24 y732 x35_1).f1), .string ((rd_T24 y732 x35_1).f2)] 24 (0, 0)) (bX BK736.out)) : gb745 ≠ gb736)); have n13_ := Aside0.mk ((by rw [hg]; exact Nat.ne_of_lt (IsS75.lt (show IsS75 w _ g727 t725 t740 from by repeat (first | (with_reducible first | exact HI727.out | apply IsS75.alloc | apply IsS75.drewN | apply IsS75.drew | apply IsS75.set_1 | refine IsS75.far ?_ NB727_724.out _ | refine IsS75.far ?_ NB727_736.out _) | exact HI727.out))) : g727 ≠ gb745)); have n14_ := Aside0.mk ((by rw [hg]; exact Nat.ne_of_gt (IsS75.lt (show IsS75 w _ g727 t725 t740 from by repeat (first | (with_reducible first | exact HI727.out | apply IsS75.alloc | apply IsS75.drewN | apply IsS75.drew | apply IsS75.set_1 | refine IsS75.far ?_ NB727_724.out _ | refine IsS75.far ?_ NB727_736.out _) | exact HI727.out))) : gb745 ≠ g727)); clear HO_33; clear HO_43; clear BK724; clear BK736; clear HI727; clear HB; have HO_33 := n0_; have HO_43 := n1_; have BK724 := n2_; have BK736 := n3_; have HI727 := n4_; have HB := n5_; have BK745 := n6_; have GW745 := n7_; have GE745 := n8_; have NB724_745 := n9_; have NB745_724 := n10_; have NB736_745 := n11_; have NB745_736 := n12_; have NB727_745 := n13_; have NB745_727 := n14_; clear n0_ n1_ n2_ n3_ n4_ n5_ n6_ n7_ n8_ n9_ n10_ n11_ n12_ n13_ n14_; clear hb hbox hg; have hnb36 := NB745_724.out; have hnc36 := NB724_745.out; have hnb37 := NB745_736.out; have hnc37 := NB736_745.out; have hnb38 := NB745_727.out; have hnc38 := NB727_745.out; have hcz39_0 : w35.cell? ⟨gb745, 0, none⟩ = some (.int .i64 0) := (blk_cell BK745.out 0).trans rfl; have hcz39_1 : w35.cell? ⟨gb745, 1, none⟩ = some (.int .i64 0) := (blk_cell BK745.out 1).trans rfl; have hcz39_2 : w35.cell? ⟨gb745, 2, none⟩ = some (.string (⟨#[]⟩ : ByteArray)) := (blk_cell BK745.out 2).trans rfl; have hfz39_0 := blk_frozen BK745.out 0; have hfz39_1 := blk_frozen BK745.out 1; have hfz39_2 := blk_frozen BK745.out 2; have hnb40 := NB736_724.out; have hnc40 := NB724_736.out; have hnb41 := NB736_727.out; have hnc41 := NB727_736.out; have hcz42_0 : w35.cell? ⟨gb736, 0, none⟩ = some (.int .i64 ((rd_T24 y732 x35_1).f0)) := (blk_cell BK736.out 0).trans rfl; have hcz42_1 : w35.cell? ⟨gb736, 1, none⟩ = some (.int .i64 ((rd_T24 y732 x35_1).f1)) := (blk_cell BK736.out 1).trans rfl; have hcz42_2 : w35.cell? ⟨gb736, 2, none⟩ = some (.string ((rd_T24 y732 x35_1).f2)) := (blk_cell BK736.out 2).trans rfl; have hfz42_0 := blk_frozen BK736.out 0; have hfz42_1 := blk_frozen BK736.out 1; have hfz42_2 := blk_frozen BK736.out 2) | ((with_reducible refine gate_callee (f := 38) rfl ?_); refine gL (some 52) rfl Try.func38 #[.agg #[.int .i64 ((rd_T24 y732 x35_1).f0), .int .i64 ((rd_T24 y732 x35_1).f1), .string ((rd_T24 y732 x35_1).f2)], .agg #[.int .i64 ((rd_T24 y741 x45_2).f0), .int .i64 ((rd_T24 y741 x45_2).f1), .string ((rd_T24 y741 x45_2).f2)]] rfl ?_; (with_reducible refine (interval_Between.calls k2 ((rd_T24 y732 x35_1).f0) ((rd_T24 y732 x35_1).f1) ((rd_T24 y732 x35_1).f2) ((rd_T24 y741 x45_2).f0) ((rd_T24 y741 x45_2).f1) ((rd_T24 y741 x45_2).f2) t746 t749 _ A30.out).mono ?_); rintro e w43 ⟨v747, rfl, ho0, hb⟩; refine ⟨_, rfl, ?_⟩; have n0_ := Aside0.mk (Kd.R_below (by (with_reducible repeat (first | apply Kd.R_alloc | apply Kd.R_drewN | apply Kd.R_drew)); exact (Kd.R_mono (Kd.R_far (p := ⟨gb745, 2, none⟩) (Kd.R_far (p := ⟨gb745, 1, none⟩) (Kd.R_far (p := ⟨gb745, 0, none⟩) (Kd.R_mono HO_33.out (fun k_ hk => (⟨hk, hk.2⟩ : _ ∧ k_ ≠ gb745))) (fun _ hk => hk.2) (.int .i64 ((rd_T24 y741 x45_2).f0))) (fun _ hk => hk.2) (.int .i64 ((rd_T24 y741 x45_2).f1))) (fun _ hk => hk.2) (.string ((rd_T24 y741 x45_2).f2))) (fun _ h_ => h_.1))) hb); have n1_ := Aside0.mk (Kd.R_below (by (with_reducible repeat (first | apply Kd.R_alloc | apply Kd.R_drewN | apply Kd.R_drew)); exact (Kd.R_mono (Kd.R_far (p := ⟨gb745, 2, none⟩) (Kd.R_far (p := ⟨gb745, 1, none⟩) (Kd.R_far (p := ⟨gb745, 0, none⟩) (Kd.R_mono HO_43.out (fun k_ hk => (⟨hk, hk.2⟩ : _ ∧ k_ ≠ gb745))) (fun _ hk => hk.2) (.int .i64 ((rd_T24 y741 x45_2).f0))) (fun _ hk => hk.2) (.int .i64 ((rd_T24 y741 x45_2).f1))) (fun _ hk => hk.2) (.string ((rd_T24 y741 x45_2).f2))) (fun _ h_ => h_.1))) hb); have n2_ := Aside0.mk (Kd.R_lower ho0 (below_size (by repeat (first | (with_reducible first | exact HB.out | apply below_alloc | apply pw_below_drewN | apply below_drew1 | refine below_set ?_ (IsS75.ge HI727.out) | refine below_set ?_ GE724.out | refine below_set ?_ GE736.out | refine below_set ?_ GE745.out) | exact HB.out)))); have n3_ := Aside0.mk (blk_below (g := gb724) (o := .cells #[.int .i64 a1_0, .int .i64 a1_1, .string a1_2] 24 (0, 0)) (by (with_reducible repeat (first | refine blk_drewN ?_ _ | refine blk_drew ?_ | refine blk_alloc ?_ _)); refine blk_far ?_ NB724_745.out _; (with_reducible repeat (first | refine blk_drewN ?_ _ | refine blk_drew ?_ | refine blk_alloc ?_ _)); refine blk_far ?_ NB724_745.out _; (with_reducible repeat (first | refine blk_drewN ?_ _ | refine blk_drew ?_ | refine blk_alloc ?_ _)); refine blk_far ?_ NB724_745.out _; (with_reducible repeat (first | refine blk_drewN ?_ _ | refine blk_drew ?_ | refine blk_alloc ?_ _)); exact BK724.out) hb); have n4_ := Aside0.mk (blk_below (g := gb736) (o := .cells #[.int .i64 ((rd_T24 y732 x35_1).f0), .int .i64 ((rd_T24 y732 x35_1).f1), .string ((rd_T24 y732 x35_1).f2)] 24 (0, 0)) (by (with_reducible repeat (first | refine blk_drewN ?_ _ | refine blk_drew ?_ | refine blk_alloc ?_ _)); refine blk_far ?_ NB736_745.out _; (with_reducible repeat (first | refine blk_drewN ?_ _ | refine blk_drew ?_ | refine blk_alloc ?_ _)); refine blk_far ?_ NB736_745.out _; (with_reducible repeat (first | refine blk_drewN ?_ _ | refine blk_drew ?_ | refine blk_alloc ?_ _)); refine blk_far ?_ NB736_745.out _; (with_reducible repeat (first | refine blk_drewN ?_ _ | refine blk_drew ?_ | refine blk_alloc ?_ _)); exact BK736.out) hb); have n5_ := Aside0.mk (IsS75.below (show IsS75 w (((w35.setCell ⟨gb745, 0, none⟩ (.int .i64 ((rd_T24 y741 x45_2).f0))).setCell ⟨gb745, 1, none⟩ (.int .i64 ((rd_T24 y741 x45_2).f1))).setCell ⟨gb745, 2, none⟩ (.string ((rd_T24 y741 x45_2).f2))) g727 t725 t740 from by repeat (first | (with_reducible first | exact HI727.out | apply IsS75.alloc | apply IsS75.drewN | apply IsS75.drew | apply IsS75.set_1 | refine IsS75.far ?_ NB727_724.out _ | refine IsS75.far ?_ NB727_736.out _ | refine IsS75.far ?_ NB727_745.out _) | exact HI727.out)) hb); have n6_ := Aside0.mk (blk_below (g := gb745) (o := .cells #[.int .i64 ((rd_T24 y741 x45_2).f0), .int .i64 ((rd_T24 y741 x45_2).f1), .string ((rd_T24 y741 x45_2).f2)] 24 (0, 0)) (by (with_reducible repeat (first | refine blk_drewN ?_ _ | refine blk_drew ?_ | refine blk_alloc ?_ _)); refine blk_put (cs := #[.int .i64 ((rd_T24 y741 x45_2).f0), .int .i64 ((rd_T24 y741 x45_2).f1), .string (⟨#[]⟩ : ByteArray)]) ?_ 2 _ rfl; (with_reducible repeat (first | refine blk_drewN ?_ _ | refine blk_drew ?_ | refine blk_alloc ?_ _)); refine blk_put (cs := #[.int .i64 ((rd_T24 y741 x45_2).f0), .int .i64 0, .string (⟨#[]⟩ : ByteArray)]) ?_ 1 _ rfl; (with_reducible repeat (first | refine blk_drewN ?_ _ | refine blk_drew ?_ | refine blk_alloc ?_ _)); refine blk_put (cs := #[.int .i64 0, .int .i64 0, .string (⟨#[]⟩ : ByteArray)]) ?_ 0 _ rfl; (with_reducible repeat (first | refine blk_drewN ?_ _ | refine blk_drew ?_ | refine blk_alloc ?_ _)); exact BK745.out) hb); have n7_ := Aside0.mk (below_step (by repeat (first | (with_reducible first | exact HB.out | apply below_alloc | apply pw_below_drewN | apply below_drew1 | refine below_set ?_ (IsS75.ge HI727.out) | refine below_set ?_ GE724.out | refine below_set ?_ GE736.out | refine below_set ?_ GE745.out) | exact HB.out)) hb); clear HO_33; clear HO_43; clear BK724; clear BK736; clear HI727; clear BK745; clear HB; have HO_33 := n0_; have HO_43 := n1_; have HO748 := n2_; have BK724 := n3_; have BK736 := n4_; have HI727 := n5_; have BK745 := n6_; have HB := n7_; clear n0_ n1_ n2_ n3_ n4_ n5_ n6_ n7_; (try clear hb); (try clear hb2); (try clear hk); (try clear hi); (try clear ho0); have hcz44_0 : w43.cell? ⟨gb736, 0, none⟩ = some (.int .i64 ((rd_T24 y732 x35_1).f0)) := (blk_cell BK736.out 0).trans rfl; have hcz44_1 : w43.cell? ⟨gb736, 1, none⟩ = some (.int .i64 ((rd_T24 y732 x35_1).f1)) := (blk_cell BK736.out 1).trans rfl; have hcz44_2 : w43.cell? ⟨gb736, 2, none⟩ = some (.string ((rd_T24 y732 x35_1).f2)) := (blk_cell BK736.out 2).trans rfl; have hfz44_0 := blk_frozen BK736.out 0; have hfz44_1 := blk_frozen BK736.out 1; have hfz44_2 := blk_frozen BK736.out 2; have hcz45_0 : w43.cell? ⟨gb745, 0, none⟩ = some (.int .i64 ((rd_T24 y741 x45_2).f0)) := (blk_cell BK745.out 0).trans rfl; have hcz45_1 : w43.cell? ⟨gb745, 1, none⟩ = some (.int .i64 ((rd_T24 y741 x45_2).f1)) := (blk_cell BK745.out 1).trans rfl; have hcz45_2 : w43.cell? ⟨gb745, 2, none⟩ = some (.string ((rd_T24 y741 x45_2).f2)) := (blk_cell BK745.out 2).trans rfl; have hfz45_0 := blk_frozen BK745.out 0; have hfz45_1 := blk_frozen BK745.out 1; have hfz45_2 := blk_frozen BK745.out 2) | ((with_reducible refine gate_callee (f := 39) rfl ?_); refine gL (some 58) rfl Try.func39 #[.agg #[.int .i64 ((rd_T24 y732 x35_1).f0), .int .i64 ((rd_T24 y732 x35_1).f1), .string ((rd_T24 y732 x35_1).f2)], .agg #[.int .i64 ((rd_T24 y741 x45_2).f0), .int .i64 ((rd_T24 y741 x45_2).f1), .string ((rd_T24 y741 x45_2).f2)]] rfl ?_; (with_reducible refine (partsyncref03_Between.calls k2 ((rd_T24 y732 x35_1).f0) ((rd_T24 y732 x35_1).f1) ((rd_T24 y732 x35_1).f2) ((rd_T24 y741 x45_2).f0) ((rd_T24 y741 x45_2).f1) ((rd_T24 y741 x45_2).f2) t750 t753 _ A31.out).mono ?_); rintro e w46 ⟨v751, rfl, ho0, hb⟩; refine ⟨_, rfl, ?_⟩; have n0_ := Aside0.mk (Kd.R_below (rX HO_33.out) hb); have n1_ := Aside0.mk (Kd.R_below (rX HO_43.out) hb); have n2_ := Aside0.mk (Kd.R_elder' (rX HO748.out) (Kd.R_base ho0) hb); have n3_ := Aside0.mk (Kd.R_lower (Kd.R_new' ho0 (Kd.R_lt (rX HO748.out))) (below_size (by repeat (first | (with_reducible first | exact HB.out | apply below_alloc | apply pw_below_drewN | apply below_drew1 | refine below_set ?_ (IsS75.ge HI727.out) | refine below_set ?_ GE724.out | refine below_set ?_ GE736.out | refine below_set ?_ GE745.out) | exact HB.out)))); have n4_ := Aside0.mk (blk_below (g := gb724) (o := .cells #[.int .i64 a1_0, .int .i64 a1_1, .string a1_2] 24 (0, 0)) (bX BK724.out) hb); have n5_ := Aside0.mk (blk_below (g := gb736) (o := .cells #[.int .i64 ((rd_T24 y732 x35_1).f0), .int .i64 ((rd_T24 y732 x35_1).f1), .string ((rd_T24 y732 x35_1).f2)] 24 (0, 0)) (bX BK736.out) hb); have n6_ := Aside0.mk (IsS75.below (by repeat (first | (with_reducible first | exact HI727.out | apply IsS75.alloc | apply IsS75.drewN | apply IsS75.drew | apply IsS75.set_1 | refine IsS75.far ?_ NB727_724.out _ | refine IsS75.far ?_ NB727_736.out _ | refine IsS75.far ?_ NB727_745.out _) | exact HI727.out)) hb); have n7_ := Aside0.mk (blk_below (g := gb745) (o := .cells #[.int .i64 ((rd_T24 y741 x45_2).f0), .int .i64 ((rd_T24 y741 x45_2).f1), .string ((rd_T24 y741 x45_2).f2)] 24 (0, 0)) (bX BK745.out) hb); have n8_ := Aside0.mk (below_step (by repeat (first | (with_reducible first | exact HB.out | apply below_alloc | apply pw_below_drewN | apply below_drew1 | refine below_set ?_ (IsS75.ge HI727.out) | refine below_set ?_ GE724.out | refine below_set ?_ GE736.out | refine below_set ?_ GE745.out) | exact HB.out)) hb); clear HO_33; clear HO_43; clear HO748; clear BK724; clear BK736; clear HI727; clear BK745; clear HB; have HO_33 := n0_; have HO_43 := n1_; have HO748 := n2_; have HO752 := n3_; have BK724 := n4_; have BK736 := n5_; have HI727 := n6_; have BK745 := n7_; have HB := n8_; clear n0_ n1_ n2_ n3_ n4_ n5_ n6_ n7_ n8_; (try clear hb); (try clear hb2); (try clear hk); (try clear hi); (try clear ho0); obtain ⟨Ao47, co47, eo47⟩ := Kd.R_slice HO748.out; subst eo47; obtain ⟨Ao48, co48, eo48⟩ := Kd.R_slice HO752.out; subst eo48) | (go_at_call 40; (with_reducible refine (partsyncref03_Same.calls k2 _ _ t746 _ _ t750 true _ ?side1 ?side2 ?side3 ?side4 A33.out).mono ?_); (case side1 => exact cX (Kd.R_reads' HO748.out).2.2); (case side2 => exact (Kd.R_reads' HO748.out).2.1); (case side3 => exact cX (Kd.R_reads' HO752.out).2.2); (case side4 => exact (Kd.R_reads' HO752.out).2.1); rintro e w' ⟨rfl, ⟨nd, rfl⟩⟩))
             go_roundg k2
             case measure => have := HK1.out; have := HK2.out; omega
             case rel => exact ⟨(wrap64 (x45_2 + 1)), (by first | rfl | (simp; done) | (simp [*]; done)), H', ⟨by have := HK1.out; have := HK2.out; omega⟩, ⟨by (with_reducible repeat (first | apply Kd.R_alloc | apply Kd.R_drewN | apply Kd.R_drew)); exact Kd.R_mono HO_33.out (fun _ hk => ⟨hk.1.1, ⟨hk.1.2.1, hk.1.2.2⟩⟩)⟩, ⟨by (with_reducible repeat (first | apply Kd.R_alloc | apply Kd.R_drewN | apply Kd.R_drew)); exact Kd.R_mono HO_43.out (fun _ hk => ⟨hk.1.1, ⟨hk.1.2.1, hk.1.2.2⟩⟩)⟩, ⟨by (with_reducible repeat (first | refine blk_drewN ?_ _ | refine blk_drew ?_ | refine blk_alloc ?_ _)); exact BK724.out⟩, ⟨by (with_reducible repeat (first | refine blk_drewN ?_ _ | refine blk_drew ?_ | refine blk_alloc ?_ _)); exact BK736.out⟩, ⟨by repeat (first | (with_reducible first | exact HI727.out | apply IsS75.alloc | apply IsS75.drewN | apply IsS75.drew | apply IsS75.set_1 | refine IsS75.far ?_ NB727_724.out _ | refine IsS75.far ?_ NB727_736.out _ | refine IsS75.far ?_ NB727_745.out _) | exact HI727.out)⟩, ⟨by repeat (first | (with_reducible first | exact HB.out | apply below_alloc | apply pw_below_drewN | apply below_drew1 | refine below_set ?_ (IsS75.ge HI727.out) | refine below_set ?_ GE724.out | refine below_set ?_ GE736.out | refine below_set ?_ GE745.out) | exact HB.out)⟩⟩
            ·replace c34 := Bool.eq_false_iff.mpr c34
             subst c34
             have H1 : (some false) = some r := by rw [if_neg (show ¬ (false = true) by decide)] at H; exact H
             clear H
             have H := H1
             clear H1
             exact absurd (H.trans (congrArg some HRT.out)) (by simp)
           ·rw [if_neg c32] at H
            have c32b0 : (t749 == t753) = false := beq_eq_false_iff_ne.mpr c32
            have c32b1 : (t749 != t753) = true := bne_iff_ne.mpr c32
            exact absurd (H.trans (congrArg some HRT.out)) (by simp)
          ·rw [if_neg c29] at H
           exact absurd H (by simp)
         ·rw [if_neg c28] at H
          exact absurd H (by simp)
        ·rw [if_neg c27] at H
         have c27b0 : decide (x45_2 < (y741.length : Int)) = false := decide_eq_false c27
         clear c27
         replace H := Option.bind_eq_some_iff.mp H
         obtain ⟨⟨t755, t758⟩, A490, H⟩ := H
         replace H : ((partsyncref03_One.f k2 ((rd_T24 y732 x35_1).f0) ((rd_T24 y732 x35_1).f1) ((rd_T24 y732 x35_1).f2)).bind fun bt759 => ((interval_From.f k2 ((rd_T24 y732 x35_1).f0) ((rd_T24 y732 x35_1).f1) ((rd_T24 y732 x35_1).f2)).bind fun bt763 => ((partsyncref03_From.f k2 ((rd_T24 y732 x35_1).f0) ((rd_T24 y732 x35_1).f1) ((rd_T24 y732 x35_1).f2)).bind fun bt767 => (if t758 = bt759.2 then (if bt763.2 = bt767.2 then ((partsyncref03_Same.f k2 t755 bt759.1).bind fun t771 => (if t771 = true then ((partsyncref03_Same.f k2 bt763.1 bt767.1).bind fun t772 => (if t772 = true then (partsynclaw03_IntervalMakes.l0 k2 a2 y732 (y732.length : Int) (wrap64 (x35_1 + 1)) a1_0 a1_1 a1_2 t725 t740) else (some false))) else (some false))) else (some false)) else (some false))))) = some r := H
         have A49 := Aside0.mk A490
         clear A490
         replace H := Option.bind_eq_some_iff.mp H
         obtain ⟨⟨t759, t762⟩, A500, H⟩ := H
         replace H : ((interval_From.f k2 ((rd_T24 y732 x35_1).f0) ((rd_T24 y732 x35_1).f1) ((rd_T24 y732 x35_1).f2)).bind fun bt763 => ((partsyncref03_From.f k2 ((rd_T24 y732 x35_1).f0) ((rd_T24 y732 x35_1).f1) ((rd_T24 y732 x35_1).f2)).bind fun bt767 => (if t758 = t762 then (if bt763.2 = bt767.2 then ((partsyncref03_Same.f k2 t755 t759).bind fun t771 => (if t771 = true then ((partsyncref03_Same.f k2 bt763.1 bt767.1).bind fun t772 => (if t772 = true then (partsynclaw03_IntervalMakes.l0 k2 a2 y732 (y732.length : Int) (wrap64 (x35_1 + 1)) a1_0 a1_1 a1_2 t725 t740) else (some false))) else (some false))) else (some false)) else (some false)))) = some r := H
         have A50 := Aside0.mk A500
         clear A500
         replace H := Option.bind_eq_some_iff.mp H
         obtain ⟨⟨t763, t766⟩, A510, H⟩ := H
         replace H : ((partsyncref03_From.f k2 ((rd_T24 y732 x35_1).f0) ((rd_T24 y732 x35_1).f1) ((rd_T24 y732 x35_1).f2)).bind fun bt767 => (if t758 = t762 then (if t766 = bt767.2 then ((partsyncref03_Same.f k2 t755 t759).bind fun t771 => (if t771 = true then ((partsyncref03_Same.f k2 t763 bt767.1).bind fun t772 => (if t772 = true then (partsynclaw03_IntervalMakes.l0 k2 a2 y732 (y732.length : Int) (wrap64 (x35_1 + 1)) a1_0 a1_1 a1_2 t725 t740) else (some false))) else (some false))) else (some false)) else (some false))) = some r := H
         have A51 := Aside0.mk A510
         clear A510
         replace H := Option.bind_eq_some_iff.mp H
         obtain ⟨⟨t767, t770⟩, A520, H⟩ := H
         replace H : (if t758 = t762 then (if t766 = t770 then ((partsyncref03_Same.f k2 t755 t759).bind fun t771 => (if t771 = true then ((partsyncref03_Same.f k2 t763 t767).bind fun t772 => (if t772 = true then (partsynclaw03_IntervalMakes.l0 k2 a2 y732 (y732.length : Int) (wrap64 (x35_1 + 1)) a1_0 a1_1 a1_2 t725 t740) else (some false))) else (some false))) else (some false)) else (some false)) = some r := H
         have A52 := Aside0.mk A520
         clear A520
         by_cases c53 : t758 = t762
         ·rw [if_pos c53] at H
          have c53b0 : (t758 == t762) = true := beq_iff_eq.mpr c53
          have c53b1 : (t758 != t762) = false := bne_eq_false_iff_eq.mpr c53
          clear c53
          by_cases c54 : t766 = t770
          ·rw [if_pos c54] at H
           have c54b0 : (t766 == t770) = true := beq_iff_eq.mpr c54
           have c54b1 : (t766 != t770) = false := bne_eq_false_iff_eq.mpr c54
           clear c54
           replace H := Option.bind_eq_some_iff.mp H
           obtain ⟨t771, A550, H⟩ := H
           replace H : (if t771 = true then ((partsyncref03_Same.f k2 t763 t767).bind fun t772 => (if t772 = true then (partsynclaw03_IntervalMakes.l0 k2 a2 y732 (y732.length : Int) (wrap64 (x35_1 + 1)) a1_0 a1_1 a1_2 t725 t740) else (some false))) else (some false)) = some r := H
           have A55 := Aside0.mk A550
           clear A550
           by_cases c56 : t771 = true
           ·subst c56
            have H1 : ((partsyncref03_Same.f k2 t763 t767).bind fun t772 => (if t772 = true then (partsynclaw03_IntervalMakes.l0 k2 a2 y732 (y732.length : Int) (wrap64 (x35_1 + 1)) a1_0 a1_1 a1_2 t725 t740) else (some false))) = some r := by rw [if_pos rfl] at H; exact H
            clear H
            have H := H1
            clear H1
            replace H := Option.bind_eq_some_iff.mp H
            obtain ⟨t772, A570, H⟩ := H
            replace H : (if t772 = true then (partsynclaw03_IntervalMakes.l0 k2 a2 y732 (y732.length : Int) (wrap64 (x35_1 + 1)) a1_0 a1_1 a1_2 t725 t740) else (some false)) = some r := H
            have A57 := Aside0.mk A570
            clear A570
            by_cases c58 : t772 = true
            ·subst c58
             have H1 : (partsynclaw03_IntervalMakes.l0 k2 a2 y732 (y732.length : Int) (wrap64 (x35_1 + 1)) a1_0 a1_1 a1_2 t725 t740) = some r := by rw [if_pos rfl] at H; exact H
             clear H
             have H := H1
             clear H1
             have H' := Aside0.mk H
             clear H
             have hnb59 := NB736_724.out
             have hnc59 := NB724_736.out
             have hnb60 := NB736_727.out
             have hnc60 := NB727_736.out
             have hcz61_0 : wr.cell? ⟨gb736, 0, none⟩ = some (.int .i64 ((rd_T24 y732 x35_1).f0)) := (blk_cell BK736.out 0).trans rfl
             have hcz61_1 : wr.cell? ⟨gb736, 1, none⟩ = some (.int .i64 ((rd_T24 y732 x35_1).f1)) := (blk_cell BK736.out 1).trans rfl
             have hcz61_2 : wr.cell? ⟨gb736, 2, none⟩ = some (.string ((rd_T24 y732 x35_1).f2)) := (blk_cell BK736.out 2).trans rfl
             have hfz61_0 := blk_frozen BK736.out 0
             have hfz61_1 := blk_frozen BK736.out 1
             have hfz61_2 := blk_frozen BK736.out 2
             go_wp2_with (first | ((with_reducible refine gate_callee (f := 41) rfl ?_); refine gL (some 73) rfl Try.func41 #[.agg #[.int .i64 ((rd_T24 y732 x35_1).f0), .int .i64 ((rd_T24 y732 x35_1).f1), .string ((rd_T24 y732 x35_1).f2)]] rfl ?_; (with_reducible refine (interval_One.calls k2 ((rd_T24 y732 x35_1).f0) ((rd_T24 y732 x35_1).f1) ((rd_T24 y732 x35_1).f2) t755 t758 _ A49.out).mono ?_); rintro e w62 ⟨v756, rfl, ho0, hb⟩; refine ⟨_, rfl, ?_⟩; have n0_ := Aside0.mk (Kd.R_below (rX HO_33.out) hb); have n1_ := Aside0.mk (Kd.R_below (rX HO_43.out) hb); have n2_ := Aside0.mk (Kd.R_lower ho0 (below_size (by repeat (first | (with_reducible first | exact HB.out | apply below_alloc | apply pw_below_drewN | apply below_drew1 | refine below_set ?_ (IsS75.ge HI727.out) | refine below_set ?_ GE724.out | refine below_set ?_ GE736.out) | exact HB.out)))); have n3_ := Aside0.mk (blk_below (g := gb724) (o := .cells #[.int .i64 a1_0, .int .i64 a1_1, .string a1_2] 24 (0, 0)) (bX BK724.out) hb); have n4_ := Aside0.mk (blk_below (g := gb736) (o := .cells #[.int .i64 ((rd_T24 y732 x35_1).f0), .int .i64 ((rd_T24 y732 x35_1).f1), .string ((rd_T24 y732 x35_1).f2)] 24 (0, 0)) (bX BK736.out) hb); have n5_ := Aside0.mk (IsS75.below (by repeat (first | (with_reducible first | exact HI727.out | apply IsS75.alloc | apply IsS75.drewN | apply IsS75.drew | apply IsS75.set_1 | refine IsS75.far ?_ NB727_724.out _ | refine IsS75.far ?_ NB727_736.out _) | exact HI727.out)) hb); have n6_ := Aside0.mk (below_step (by repeat (first | (with_reducible first | exact HB.out | apply below_alloc | apply pw_below_drewN | apply below_drew1 | refine below_set ?_ (IsS75.ge HI727.out) | refine below_set ?_ GE724.out | refine below_set ?_ GE736.out) | exact HB.out)) hb); clear HO_33; clear HO_43; clear BK724; clear BK736; clear HI727; clear HB; have HO_33 := n0_; have HO_43 := n1_; have HO757 := n2_; have BK724 := n3_; have BK736 := n4_; have HI727 := n5_; have HB := n6_; clear n0_ n1_ n2_ n3_ n4_ n5_ n6_; (try clear hb); (try clear hb2); (try clear hk); (try clear hi); (try clear ho0); have hcz63_0 : w62.cell? ⟨gb736, 0, none⟩ = some (.int .i64 ((rd_T24 y732 x35_1).f0)) := (blk_cell BK736.out 0).trans rfl; have hcz63_1 : w62.cell? ⟨gb736, 1, none⟩ = some (.int .i64 ((rd_T24 y732 x35_1).f1)) := (blk_cell BK736.out 1).trans rfl; have hcz63_2 : w62.cell? ⟨gb736, 2, none⟩ = some (.string ((rd_T24 y732 x35_1).f2)) := (blk_cell BK736.out 2).trans rfl; have hfz63_0 := blk_frozen BK736.out 0; have hfz63_1 := blk_frozen BK736.out 1; have hfz63_2 := blk_frozen BK736.out 2) | ((with_reducible refine gate_callee (f := 42) rfl ?_); refine gL (some 78) rfl Try.func42 #[.agg #[.int .i64 ((rd_T24 y732 x35_1).f0), .int .i64 ((rd_T24 y732 x35_1).f1), .string ((rd_T24 y732 x35_1).f2)]] rfl ?_; (with_reducible refine (partsyncref03_One.calls k2 ((rd_T24 y732 x35_1).f0) ((rd_T24 y732 x35_1).f1) ((rd_T24 y732 x35_1).f2) t759 t762 _ A50.out).mono ?_); rintro e w64 ⟨v760, rfl, ho0, hb⟩; refine ⟨_, rfl, ?_⟩; have n0_ := Aside0.mk (Kd.R_below (rX HO_33.out) hb); have n1_ := Aside0.mk (Kd.R_below (rX HO_43.out) hb); have n2_ := Aside0.mk (Kd.R_elder' (rX HO757.out) (Kd.R_base ho0) hb); have n3_ := Aside0.mk (Kd.R_lower (Kd.R_new' ho0 (Kd.R_lt (rX HO757.out))) (below_size (by repeat (first | (with_reducible first | exact HB.out | apply below_alloc | apply pw_below_drewN | apply below_drew1 | refine below_set ?_ (IsS75.ge HI727.out) | refine below_set ?_ GE724.out | refine below_set ?_ GE736.out) | exact HB.out)))); have n4_ := Aside0.mk (blk_below (g := gb724) (o := .cells #[.int .i64 a1_0, .int .i64 a1_1, .string a1_2] 24 (0, 0)) (bX BK724.out) hb); have n5_ := Aside0.mk (blk_below (g := gb736) (o := .cells #[.int .i64 ((rd_T24 y732 x35_1).f0), .int .i64 ((rd_T24 y732 x35_1).f1), .string ((rd_T24 y732 x35_1).f2)] 24 (0, 0)) (bX BK736.out) hb); have n6_ := Aside0.mk (IsS75.below (by repeat (first | (with_reducible first | exact HI727.out | apply IsS75.alloc | apply IsS75.drewN | apply IsS75.drew | apply IsS75.set_1 | refine IsS75.far ?_ NB727_724.out _ | refine IsS75.far ?_ NB727_736.out _) | exact HI727.out)) hb); have n7_ := Aside0.mk (below_step (by repeat (first | (with_reducible first | exact HB.out | apply below_alloc | apply pw_below_drewN | apply below_drew1 | refine below_set ?_ (IsS75.ge HI727.out) | refine below_set ?_ GE724.out | refine below_set ?_ GE736.out) | exact HB.out)) hb); clear HO_33; clear HO_43; clear HO757; clear BK724; clear BK736; clear HI727; clear HB; have HO_33 := n0_; have HO_43 := n1_; have HO757 := n2_; have HO761 := n3_; have BK724 := n4_; have BK736 := n5_; have HI727 := n6_; have HB := n7_; clear n0_ n1_ n2_ n3_ n4_ n5_ n6_ n7_; (try clear hb); (try clear hb2); (try clear hk); (try clear hi); (try clear ho0); have hcz65_0 : w64.cell? ⟨gb736, 0, none⟩ = some (.int .i64 ((rd_T24 y732 x35_1).f0)) := (blk_cell BK736.out 0).trans rfl; have hcz65_1 : w64.cell? ⟨gb736, 1, none⟩ = some (.int .i64 ((rd_T24 y732 x35_1).f1)) := (blk_cell BK736.out 1).trans rfl; have hcz65_2 : w64.cell? ⟨gb736, 2, none⟩ = some (.string ((rd_T24 y732 x35_1).f2)) := (blk_cell BK736.out 2).trans rfl; have hfz65_0 := blk_frozen BK736.out 0; have hfz65_1 := blk_frozen BK736.out 1; have hfz65_2 := blk_frozen BK736.out 2) | ((with_reducible refine gate_callee (f := 43) rfl ?_); refine gL (some 83) rfl Try.func43 #[.agg #[.int .i64 ((rd_T24 y732 x35_1).f0), .int .i64 ((rd_T24 y732 x35_1).f1), .string ((rd_T24 y732 x35_1).f2)]] rfl ?_; (with_reducible refine (interval_From.calls k2 ((rd_T24 y732 x35_1).f0) ((rd_T24 y732 x35_1).f1) ((rd_T24 y732 x35_1).f2) t763 t766 _ A51.out).mono ?_); rintro e w66 ⟨v764, rfl, ho0, hb⟩; refine ⟨_, rfl, ?_⟩; have n0_ := Aside0.mk (Kd.R_below (rX HO_33.out) hb); have n1_ := Aside0.mk (Kd.R_below (rX HO_43.out) hb); have n2_ := Aside0.mk (Kd.R_elder' (rX HO757.out) (Kd.R_base ho0) hb); have n3_ := Aside0.mk (Kd.R_elder' (rX HO761.out) (Kd.R_base ho0) hb); have n4_ := Aside0.mk (Kd.R_lower (Kd.R_new' (Kd.R_new' ho0 (Kd.R_lt (rX HO757.out))) (Kd.R_lt (rX HO761.out))) (below_size (by repeat (first | (with_reducible first | exact HB.out | apply below_alloc | apply pw_below_drewN | apply below_drew1 | refine below_set ?_ (IsS75.ge HI727.out) | refine below_set ?_ GE724.out | refine below_set ?_ GE736.out) | exact HB.out)))); have n5_ := Aside0.mk (blk_below (g := gb724) (o := .cells #[.int .i64 a1_0, .int .i64 a1_1, .string a1_2] 24 (0, 0)) (bX BK724.out) hb); have n6_ := Aside0.mk (blk_below (g := gb736) (o := .cells #[.int .i64 ((rd_T24 y732 x35_1).f0), .int .i64 ((rd_T24 y732 x35_1).f1), .string ((rd_T24 y732 x35_1).f2)] 24 (0, 0)) (bX BK736.out) hb); have n7_ := Aside0.mk (IsS75.below (by repeat (first | (with_reducible first | exact HI727.out | apply IsS75.alloc | apply IsS75.drewN | apply IsS75.drew | apply IsS75.set_1 | refine IsS75.far ?_ NB727_724.out _ | refine IsS75.far ?_ NB727_736.out _) | exact HI727.out)) hb); have n8_ := Aside0.mk (below_step (by repeat (first | (with_reducible first | exact HB.out | apply below_alloc | apply pw_below_drewN | apply below_drew1 | refine below_set ?_ (IsS75.ge HI727.out) | refine below_set ?_ GE724.out | refine below_set ?_ GE736.out) | exact HB.out)) hb); clear HO_33; clear HO_43; clear HO757; clear HO761; clear BK724; clear BK736; clear HI727; clear HB; have HO_33 := n0_; have HO_43 := n1_; have HO757 := n2_; have HO761 := n3_; have HO765 := n4_; have BK724 := n5_; have BK736 := n6_; have HI727 := n7_; have HB := n8_; clear n0_ n1_ n2_ n3_ n4_ n5_ n6_ n7_ n8_; (try clear hb); (try clear hb2); (try clear hk); (try clear hi); (try clear ho0); have hcz67_0 : w66.cell? ⟨gb736, 0, none⟩ = some (.int .i64 ((rd_T24 y732 x35_1).f0)) := (blk_cell BK736.out 0).trans rfl; have hcz67_1 : w66.cell? ⟨gb736, 1, none⟩ = some (.int .i64 ((rd_T24 y732 x35_1).f1)) := (blk_cell BK736.out 1).trans rfl; have hcz67_2 : w66.cell? ⟨gb736, 2, none⟩ = some (.string ((rd_T24 y732 x35_1).f2)) := (blk_cell BK736.out 2).trans rfl; have hfz67_0 := blk_frozen BK736.out 0; have hfz67_1 := blk_frozen BK736.out 1; have hfz67_2 := blk_frozen BK736.out 2) | ((with_reducible refine gate_callee (f := 44) rfl ?_); refine gL (some 88) rfl Try.func44 #[.agg #[.int .i64 ((rd_T24 y732 x35_1).f0), .int .i64 ((rd_T24 y732 x35_1).f1), .string ((rd_T24 y732 x35_1).f2)]] rfl ?_; (with_reducible refine (partsyncref03_From.calls k2 ((rd_T24 y732 x35_1).f0) ((rd_T24 y732 x35_1).f1) ((rd_T24 y732 x35_1).f2) t767 t770 _ A52.out).mono ?_); rintro e w68 ⟨v768, rfl, ho0, hb⟩; refine ⟨_, rfl, ?_⟩; have n0_ := Aside0.mk (Kd.R_below (rX HO_33.out) hb); have n1_ := Aside0.mk (Kd.R_below (rX HO_43.out) hb); have n2_ := Aside0.mk (Kd.R_elder' (rX HO757.out) (Kd.R_base ho0) hb); have n3_ := Aside0.mk (Kd.R_elder' (rX HO761.out) (Kd.R_base ho0) hb); have n4_ := Aside0.mk (Kd.R_elder' (rX HO765.out) (Kd.R_base ho0) hb); have n5_ := Aside0.mk (Kd.R_lower (Kd.R_new' (Kd.R_new' (Kd.R_new' ho0 (Kd.R_lt (rX HO757.out))) (Kd.R_lt (rX HO761.out))) (Kd.R_lt (rX HO765.out))) (below_size (by repeat (first | (with_reducible first | exact HB.out | apply below_alloc | apply pw_below_drewN | apply below_drew1 | refine below_set ?_ (IsS75.ge HI727.out) | refine below_set ?_ GE724.out | refine below_set ?_ GE736.out) | exact HB.out)))); have n6_ := Aside0.mk (blk_below (g := gb724) (o := .cells #[.int .i64 a1_0, .int .i64 a1_1, .string a1_2] 24 (0, 0)) (bX BK724.out) hb); have n7_ := Aside0.mk (blk_below (g := gb736) (o := .cells #[.int .i64 ((rd_T24 y732 x35_1).f0), .int .i64 ((rd_T24 y732 x35_1).f1), .string ((rd_T24 y732 x35_1).f2)] 24 (0, 0)) (bX BK736.out) hb); have n8_ := Aside0.mk (IsS75.below (by repeat (first | (with_reducible first | exact HI727.out | apply IsS75.alloc | apply IsS75.drewN | apply IsS75.drew | apply IsS75.set_1 | refine IsS75.far ?_ NB727_724.out _ | refine IsS75.far ?_ NB727_736.out _) | exact HI727.out)) hb); have n9_ := Aside0.mk (below_step (by repeat (first | (with_reducible first | exact HB.out | apply below_alloc | apply pw_below_drewN | apply below_drew1 | refine below_set ?_ (IsS75.ge HI727.out) | refine below_set ?_ GE724.out | refine below_set ?_ GE736.out) | exact HB.out)) hb); clear HO_33; clear HO_43; clear HO757; clear HO761; clear HO765; clear BK724; clear BK736; clear HI727; clear HB; have HO_33 := n0_; have HO_43 := n1_; have HO757 := n2_; have HO761 := n3_; have HO765 := n4_; have HO769 := n5_; have BK724 := n6_; have BK736 := n7_; have HI727 := n8_; have HB := n9_; clear n0_ n1_ n2_ n3_ n4_ n5_ n6_ n7_ n8_ n9_; (try clear hb); (try clear hb2); (try clear hk); (try clear hi); (try clear ho0); obtain ⟨Ao69, co69, eo69⟩ := Kd.R_slice HO757.out; subst eo69; obtain ⟨Ao70, co70, eo70⟩ := Kd.R_slice HO761.out; subst eo70) | (go_at_call 40; (with_reducible refine (partsyncref03_Same.calls k2 _ _ t755 _ _ t759 true _ ?side1 ?side2 ?side3 ?side4 A55.out).mono ?_); (case side1 => exact cX (Kd.R_reads' HO757.out).2.2); (case side2 => exact (Kd.R_reads' HO757.out).2.1); (case side3 => exact cX (Kd.R_reads' HO761.out).2.2); (case side4 => exact (Kd.R_reads' HO761.out).2.1); rintro e w' ⟨rfl, ⟨nd, rfl⟩⟩; obtain ⟨Ao71, co71, eo71⟩ := Kd.R_slice HO765.out; subst eo71; obtain ⟨Ao72, co72, eo72⟩ := Kd.R_slice HO769.out; subst eo72) | (go_at_call 40; (with_reducible refine (partsyncref03_Same.calls k2 _ _ t763 _ _ t767 true _ ?side1 ?side2 ?side3 ?side4 A57.out).mono ?_); (case side1 => exact cX (Kd.R_reads' HO765.out).2.2); (case side2 => exact (Kd.R_reads' HO765.out).2.1); (case side3 => exact cX (Kd.R_reads' HO769.out).2.2); (case side4 => exact (Kd.R_reads' HO769.out).2.1); rintro e w' ⟨rfl, ⟨nd, rfl⟩⟩))
             go_roundg k2
             case measure => have := HK1.out; have := HK2.out; omega
             case rel => exact ⟨(wrap64 (x35_1 + 1)), (t740), (by first | rfl | (simp; done) | (simp [*]; done)), H', ⟨by have := HK1.out; have := HK2.out; omega⟩, ⟨by (with_reducible repeat (first | apply Kd.R_alloc | apply Kd.R_drewN | apply Kd.R_drew)); exact Kd.R_mono HO_33.out (fun _ hk => hk.2.1)⟩, ⟨by (with_reducible repeat (first | refine blk_drewN ?_ _ | refine blk_drew ?_ | refine blk_alloc ?_ _)); exact BK724.out⟩, ⟨by repeat (first | (with_reducible first | exact HI727.out | apply IsS75.alloc | apply IsS75.drewN | apply IsS75.drew | apply IsS75.set_1 | refine IsS75.far ?_ NB727_724.out _ | refine IsS75.far ?_ NB727_736.out _) | exact HI727.out)⟩, ⟨by repeat (first | (with_reducible first | exact HB.out | apply below_alloc | apply pw_below_drewN | apply below_drew1 | refine below_set ?_ (IsS75.ge HI727.out) | refine below_set ?_ GE724.out | refine below_set ?_ GE736.out) | exact HB.out)⟩⟩
            ·replace c58 := Bool.eq_false_iff.mpr c58
             subst c58
             have H1 : (some false) = some r := by rw [if_neg (show ¬ (false = true) by decide)] at H; exact H
             clear H
             have H := H1
             clear H1
             exact absurd (H.trans (congrArg some HRT.out)) (by simp)
           ·replace c56 := Bool.eq_false_iff.mpr c56
            subst c56
            have H1 : (some false) = some r := by rw [if_neg (show ¬ (false = true) by decide)] at H; exact H
            clear H
            have H := H1
            clear H1
            exact absurd (H.trans (congrArg some HRT.out)) (by simp)
          ·rw [if_neg c54] at H
           have c54b0 : (t766 == t770) = false := beq_eq_false_iff_ne.mpr c54
           have c54b1 : (t766 != t770) = true := bne_iff_ne.mpr c54
           exact absurd (H.trans (congrArg some HRT.out)) (by simp)
         ·rw [if_neg c53] at H
          have c53b0 : (t758 == t762) = false := beq_eq_false_iff_ne.mpr c53
          have c53b1 : (t758 != t762) = true := bne_iff_ne.mpr c53
          exact absurd (H.trans (congrArg some HRT.out)) (by simp)
     ·rw [if_neg c15] at H
      exact absurd H (by simp)
    ·rw [if_neg c14] at H
     exact absurd H (by simp)
   ·rw [if_neg c13] at H
    have c13b0 : decide (x35_1 < (y732.length : Int)) = false := decide_eq_false c13
    clear c13
    replace H := Option.bind_eq_some_iff.mp H
    obtain ⟨⟨t773, t774⟩, A730, H⟩ := H
    replace H : ((partsyncref03_OfKind.f k1 a2).bind fun bt777 => ((partsynclaw03_begun.f k1).bind fun t781 => (if t781 = true then (if t774 = bt777.2 then ((partsyncref03_Same.f k1 t773 bt777.1).bind fun t782 => (if t782 = true then ((interval_All.f).bind fun t783 => ((partsyncref03_All.f).bind fun t786 => ((partsyncref03_Same.f k1 t783 t786).bind fun t789 => (some t789)))) else (some false))) else (some false)) else (some false)))) = some r := H
    have A73 := Aside0.mk A730
    clear A730
    replace H := Option.bind_eq_some_iff.mp H
    obtain ⟨⟨t777, t778⟩, A740, H⟩ := H
    replace H : ((partsynclaw03_begun.f k1).bind fun t781 => (if t781 = true then (if t774 = t778 then ((partsyncref03_Same.f k1 t773 t777).bind fun t782 => (if t782 = true then ((interval_All.f).bind fun t783 => ((partsyncref03_All.f).bind fun t786 => ((partsyncref03_Same.f k1 t783 t786).bind fun t789 => (some t789)))) else (some false))) else (some false)) else (some false))) = some r := H
    have A74 := Aside0.mk A740
    clear A740
    replace H := Option.bind_eq_some_iff.mp H
    obtain ⟨t781, A750, H⟩ := H
    replace H : (if t781 = true then (if t774 = t778 then ((partsyncref03_Same.f k1 t773 t777).bind fun t782 => (if t782 = true then ((interval_All.f).bind fun t783 => ((partsyncref03_All.f).bind fun t786 => ((partsyncref03_Same.f k1 t783 t786).bind fun t789 => (some t789)))) else (some false))) else (some false)) else (some false)) = some r := H
    have A75 := Aside0.mk A750
    clear A750
    by_cases c76 : t781 = true
    ·subst c76
     have H1 : (if t774 = t778 then ((partsyncref03_Same.f k1 t773 t777).bind fun t782 => (if t782 = true then ((interval_All.f).bind fun t783 => ((partsyncref03_All.f).bind fun t786 => ((partsyncref03_Same.f k1 t783 t786).bind fun t789 => (some t789)))) else (some false))) else (some false)) = some r := by rw [if_pos rfl] at H; exact H
     clear H
     have H := H1
     clear H1
     by_cases c77 : t774 = t778
     ·rw [if_pos c77] at H
      have c77b0 : (t774 == t778) = true := beq_iff_eq.mpr c77
      have c77b1 : (t774 != t778) = false := bne_eq_false_iff_eq.mpr c77
      clear c77
      replace H := Option.bind_eq_some_iff.mp H
      obtain ⟨t782, A780, H⟩ := H
      replace H : (if t782 = true then ((interval_All.f).bind fun t783 => ((partsyncref03_All.f).bind fun t786 => ((partsyncref03_Same.f k1 t783 t786).bind fun t789 => (some t789)))) else (some false)) = some r := H
      have A78 := Aside0.mk A780
      clear A780
      by_cases c79 : t782 = true
      ·subst c79
       have H1 : ((interval_All.f).bind fun t783 => ((partsyncref03_All.f).bind fun t786 => ((partsyncref03_Same.f k1 t783 t786).bind fun t789 => (some t789)))) = some r := by rw [if_pos rfl] at H; exact H
       clear H
       have H := H1
       clear H1
       replace H := Option.bind_eq_some_iff.mp H
       obtain ⟨t783, A800, H⟩ := H
       replace H : ((partsyncref03_All.f).bind fun t786 => ((partsyncref03_Same.f k1 t783 t786).bind fun t789 => (some t789))) = some r := H
       have A80 := Aside0.mk A800
       clear A800
       replace H := Option.bind_eq_some_iff.mp H
       obtain ⟨t786, A810, H⟩ := H
       replace H : ((partsyncref03_Same.f k1 t783 t786).bind fun t789 => (some t789)) = some r := H
       have A81 := Aside0.mk A810
       clear A810
       replace H := Option.bind_eq_some_iff.mp H
       obtain ⟨t789, A820, H⟩ := H
       replace H : (some t789) = some r := H
       have A82 := Aside0.mk A820
       clear A820
       obtain rfl := Option.some.inj H
       go_wp2_with (first | ((with_reducible refine gate_callee (f := 45) rfl ?_); refine gL (some 114) rfl Try.func45 #[.int .i64 a2] rfl ?_; (with_reducible refine (interval_OfKind.calls k1 a2 t773 t774 _ A73.out).mono ?_); rintro e w83 ⟨v775, rfl, ho0, hb⟩; refine ⟨_, rfl, ?_⟩; have n0_ := Aside0.mk (Kd.R_below (rX HO_33.out) hb); have n1_ := Aside0.mk (Kd.R_lower ho0 (below_size (bT (IsS75.ge HI727.out) GE724.out))); have n2_ := Aside0.mk (blk_below (g := gb724) (o := .cells #[.int .i64 a1_0, .int .i64 a1_1, .string a1_2] 24 (0, 0)) (bX BK724.out) hb); have n3_ := Aside0.mk (IsS75.below (by repeat (first | (with_reducible first | exact HI727.out | apply IsS75.alloc | apply IsS75.drewN | apply IsS75.drew | apply IsS75.set_1 | refine IsS75.far ?_ NB727_724.out _) | exact HI727.out)) hb); have n4_ := Aside0.mk (below_step (bT (IsS75.ge HI727.out) GE724.out) hb); clear HO_33; clear BK724; clear HI727; clear HB; have HO_33 := n0_; have HO776 := n1_; have BK724 := n2_; have HI727 := n3_; have HB := n4_; clear n0_ n1_ n2_ n3_ n4_; (try clear hb); (try clear hb2); (try clear hk); (try clear hi); (try clear ho0)) | ((with_reducible refine gate_callee (f := 46) rfl ?_); refine gL (some 119) rfl Try.func46 #[.int .i64 a2] rfl ?_; (with_reducible refine (partsyncref03_OfKind.calls k1 a2 t777 t778 _ A74.out).mono ?_); rintro e w84 ⟨v779, rfl, ho0, hb⟩; refine ⟨_, rfl, ?_⟩; have n0_ := Aside0.mk (Kd.R_below (rX HO_33.out) hb); have n1_ := Aside0.mk (Kd.R_elder' (rX HO776.out) (Kd.R_base ho0) hb); have n2_ := Aside0.mk (Kd.R_lower (Kd.R_new' ho0 (Kd.R_lt (rX HO776.out))) (below_size (bT (IsS75.ge HI727.out) GE724.out))); have n3_ := Aside0.mk (blk_below (g := gb724) (o := .cells #[.int .i64 a1_0, .int .i64 a1_1, .string a1_2] 24 (0, 0)) (bX BK724.out) hb); have n4_ := Aside0.mk (IsS75.below (by repeat (first | (with_reducible first | exact HI727.out | apply IsS75.alloc | apply IsS75.drewN | apply IsS75.drew | apply IsS75.set_1 | refine IsS75.far ?_ NB727_724.out _) | exact HI727.out)) hb); have n5_ := Aside0.mk (below_step (bT (IsS75.ge HI727.out) GE724.out) hb); clear HO_33; clear HO776; clear BK724; clear HI727; clear HB; have HO_33 := n0_; have HO776 := n1_; have HO780 := n2_; have BK724 := n3_; have HI727 := n4_; have HB := n5_; clear n0_ n1_ n2_ n3_ n4_ n5_; (try clear hb); (try clear hb2); (try clear hk); (try clear hi); (try clear ho0)) | ((with_reducible refine gate_callee (f := 36) rfl ?_); refine gL (some 122) rfl Try.func36 #[] rfl ?_; (with_reducible refine (partsynclaw03_begun.calls k1  true _ A75.out).mono ?_); rintro e w85 ⟨rfl, hb⟩; refine ⟨_, rfl, ?_⟩; have n0_ := Aside0.mk (Kd.R_below (rX HO_33.out) hb); have n1_ := Aside0.mk (Kd.R_below (rX HO776.out) hb); have n2_ := Aside0.mk (Kd.R_below (rX HO780.out) hb); have n3_ := Aside0.mk (blk_below (g := gb724) (o := .cells #[.int .i64 a1_0, .int .i64 a1_1, .string a1_2] 24 (0, 0)) (bX BK724.out) hb); have n4_ := Aside0.mk (IsS75.below (by repeat (first | (with_reducible first | exact HI727.out | apply IsS75.alloc | apply IsS75.drewN | apply IsS75.drew | apply IsS75.set_1 | refine IsS75.far ?_ NB727_724.out _) | exact HI727.out)) hb); have n5_ := Aside0.mk (below_step (bT (IsS75.ge HI727.out) GE724.out) hb); clear HO_33; clear HO776; clear HO780; clear BK724; clear HI727; clear HB; have HO_33 := n0_; have HO776 := n1_; have HO780 := n2_; have BK724 := n3_; have HI727 := n4_; have HB := n5_; clear n0_ n1_ n2_ n3_ n4_ n5_; (try clear hb); (try clear hb2); (try clear hk); (try clear hi); obtain ⟨Ao86, co86, eo86⟩ := Kd.R_slice HO776.out; subst eo86; obtain ⟨Ao87, co87, eo87⟩ := Kd.R_slice HO780.out; subst eo87) | (go_at_call 40; (with_reducible refine (partsyncref03_Same.calls k1 _ _ t773 _ _ t777 true _ ?side1 ?side2 ?side3 ?side4 A78.out).mono ?_); (case side1 => exact cX (Kd.R_reads' HO776.out).2.2); (case side2 => exact (Kd.R_reads' HO776.out).2.1); (case side3 => exact cX (Kd.R_reads' HO780.out).2.2); (case side4 => exact (Kd.R_reads' HO780.out).2.1); rintro e w' ⟨rfl, ⟨nd, rfl⟩⟩) | (go_at_call 47; (with_reducible refine (interval_All.calls  t783 _ A80.out).mono ?_); rintro e w88 ⟨v784, rfl, ho0, hb⟩; have n0_ := Aside0.mk (Kd.R_below (rX HO_33.out) hb); have n1_ := Aside0.mk (Kd.R_elder' (rX HO776.out) (Kd.R_base ho0) hb); have n2_ := Aside0.mk (Kd.R_elder' (rX HO780.out) (Kd.R_base ho0) hb); have n3_ := Aside0.mk (Kd.R_lower (Kd.R_new' (Kd.R_new' ho0 (Kd.R_lt (rX HO776.out))) (Kd.R_lt (rX HO780.out))) (below_size (bT (IsS75.ge HI727.out) GE724.out))); have n4_ := Aside0.mk (blk_below (g := gb724) (o := .cells #[.int .i64 a1_0, .int .i64 a1_1, .string a1_2] 24 (0, 0)) (bX BK724.out) hb); have n5_ := Aside0.mk (IsS75.below (by repeat (first | (with_reducible first | exact HI727.out | apply IsS75.alloc | apply IsS75.drewN | apply IsS75.drew | apply IsS75.set_1 | refine IsS75.far ?_ NB727_724.out _) | exact HI727.out)) hb); have n6_ := Aside0.mk (below_step (bT (IsS75.ge HI727.out) GE724.out) hb); clear HO_33; clear HO776; clear HO780; clear BK724; clear HI727; clear HB; have HO_33 := n0_; have HO776 := n1_; have HO780 := n2_; have HO785 := n3_; have BK724 := n4_; have HI727 := n5_; have HB := n6_; clear n0_ n1_ n2_ n3_ n4_ n5_ n6_; (try clear hb); (try clear hb2); (try clear hk); (try clear hi); (try clear ho0)) | (go_at_call 48; (with_reducible refine (partsyncref03_All.calls  t786 _ A81.out).mono ?_); rintro e w89 ⟨v787, rfl, ho0, hb⟩; have n0_ := Aside0.mk (Kd.R_below (rX HO_33.out) hb); have n1_ := Aside0.mk (Kd.R_elder' (rX HO776.out) (Kd.R_base ho0) hb); have n2_ := Aside0.mk (Kd.R_elder' (rX HO780.out) (Kd.R_base ho0) hb); have n3_ := Aside0.mk (Kd.R_elder' (rX HO785.out) (Kd.R_base ho0) hb); have n4_ := Aside0.mk (Kd.R_lower (Kd.R_new' (Kd.R_new' (Kd.R_new' ho0 (Kd.R_lt (rX HO776.out))) (Kd.R_lt (rX HO780.out))) (Kd.R_lt (rX HO785.out))) (below_size (bT (IsS75.ge HI727.out) GE724.out))); have n5_ := Aside0.mk (blk_below (g := gb724) (o := .cells #[.int .i64 a1_0, .int .i64 a1_1, .string a1_2] 24 (0, 0)) (bX BK724.out) hb); have n6_ := Aside0.mk (IsS75.below (by repeat (first | (with_reducible first | exact HI727.out | apply IsS75.alloc | apply IsS75.drewN | apply IsS75.drew | apply IsS75.set_1 | refine IsS75.far ?_ NB727_724.out _) | exact HI727.out)) hb); have n7_ := Aside0.mk (below_step (bT (IsS75.ge HI727.out) GE724.out) hb); clear HO_33; clear HO776; clear HO780; clear HO785; clear BK724; clear HI727; clear HB; have HO_33 := n0_; have HO776 := n1_; have HO780 := n2_; have HO785 := n3_; have HO788 := n4_; have BK724 := n5_; have HI727 := n6_; have HB := n7_; clear n0_ n1_ n2_ n3_ n4_ n5_ n6_ n7_; (try clear hb); (try clear hb2); (try clear hk); (try clear hi); (try clear ho0); obtain ⟨Ao90, co90, eo90⟩ := Kd.R_slice HO785.out; subst eo90; obtain ⟨Ao91, co91, eo91⟩ := Kd.R_slice HO788.out; subst eo91) | (go_at_call 40; (with_reducible refine (partsyncref03_Same.calls k1 _ _ t783 _ _ t786 t789 _ ?side1 ?side2 ?side3 ?side4 A82.out).mono ?_); (case side1 => exact cX (Kd.R_reads' HO785.out).2.2); (case side2 => exact (Kd.R_reads' HO785.out).2.1); (case side3 => exact cX (Kd.R_reads' HO788.out).2.2); (case side4 => exact (Kd.R_reads' HO788.out).2.1); rintro e w' ⟨rfl, ⟨nd, rfl⟩⟩))
       go_ret
       exact ⟨by first | rfl | (simp [errW_none, errW_some] <;> rfl) | (simp [*, errW_none, errW_some] <;> rfl), _, HBWN.out, by repeat (first | (with_reducible first | exact HB.out | apply below_alloc | apply pw_below_drewN | apply below_drew1 | refine below_set ?_ (IsS75.ge HI727.out) | refine below_set ?_ GE724.out) | exact HB.out)⟩
      ·replace c79 := Bool.eq_false_iff.mpr c79
       subst c79
       have H1 : (some false) = some r := by rw [if_neg (show ¬ (false = true) by decide)] at H; exact H
       clear H
       have H := H1
       clear H1
       exact absurd (H.trans (congrArg some HRT.out)) (by simp)
     ·rw [if_neg c77] at H
      have c77b0 : (t774 == t778) = false := beq_eq_false_iff_ne.mpr c77
      have c77b1 : (t774 != t778) = true := bne_iff_ne.mpr c77
      exact absurd (H.trans (congrArg some HRT.out)) (by simp)
    ·replace c76 := Bool.eq_false_iff.mpr c76
     subst c76
     have H1 : (some false) = some r := by rw [if_neg (show ¬ (false = true) by decide)] at H; exact H
     clear H
     have H := H1
     clear H1
     exact absurd (H.trans (congrArg some HRT.out)) (by simp)
theorem partsynclaw03_IntervalMakes.calls (k : Nat) (A0 : Option Addr) (c0 : Nat) (l0 : List Int) (a1_0 : Int) (a1_1 : Int) (a1_2 : ByteArray) (a2 : Int) (r : Bool) (w : World) (hr0 : Kd.C (Kd.int .u8) w A0 l0.length l0) (hc0 : l0.length ≤ c0) (h : partsynclaw03_IntervalMakes.f k l0 a1_0 a1_1 a1_2 a2 = some r) (HRT : Aside0 (r = true)) :
  Calls Try.prog 7 #[.slice A0 l0.length c0, .agg #[.int .i64 a1_0, .int .i64 a1_1, .string a1_2], .int .i64 a2] w fun e w' => e = .returned (.bool r) ∧ Below w.heap.size w w' :=
 (partsynclaw03_IntervalMakes.callsN k A0 c0 l0 a1_0 a1_1 a1_2 a2 r w hr0 hc0 h HRT).mono fun _ _ ⟨he, _, h1, h2⟩ => ⟨he, h1.trans (h2.mono h1.size)⟩
end Go.Proofs.Ytpjcdacnhalclaa.Q
