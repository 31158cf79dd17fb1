/- A part of a proof: facts of functions that the law calls; conditions stand in each. -/
import Derived.Test.YtpjcdacnhalclaaM14x3
import Derived.Test.YtpjcdacnhalclaaM14x24
import Derived.Test.YtpjcdacnhalclaaM14x5
import Derived.Test.YtpjcdacnhalclaaM14x11
import Derived.Test.YtpjcdacnhalclaaM14x12
import Derived.Test.YtpjcdacnhalclaaM14x22
import Derived.Test.YtpjcdacnhalclaaM14x10
import Derived.Test.YtpjcdacnhalclaaM14x6
import Derived.Test.YtpjcdacnhalclaaM14x25
import Derived.Test.YtpjcdacnhalclaaM14x27
set_option linter.unusedVariables false
set_option linter.unusedSimpArgs false
namespace Go.Proofs.Ytpjcdacnhalclaa.Q
open Go.RowKit Go.Proofs.YtpjcdacnhalclaaW.PrintWords Go.Proofs.YtpjcdacnhalclaaW.PrintLast Go.Proofs.YtpjcdacnhalclaaW.PrintMore
attribute [local go_sem] max2_int min2_int max_two min_two max_three min_three max_four min_four
attribute [local go_sem high] eqA24
mutual
def l3_IntervalForms.l0 : Nat → List (List (S65)) → Int → Int → List Int → Int → Int → Int → ByteArray → Option (Bool × Int)
 | 0, _, _, _, _, _, _, _, _ => none
 | k + 1, x28, x29, x30, x1000, x1001, x985000, x985001, x985002 => if x30 < x29 then (if 0 ≤ x30 then (if x30 < (x28.length : Int) then ((i_Valid.f k (rd_L7 x28 x30)).bind fun t986 => ((r3_Valid.f k (rd_L7 x28 x30)).bind fun t987 => (if (t986 != t987) = true then (some (false, x1001)) else ((i_Least.f k (rd_L7 x28 x30)).bind fun bt988 => ((r3_Least.f k (rd_L7 x28 x30)).bind fun bt993 => (if (!(bt988.1 == bt993.1) || (!(bt988.2.1 == bt993.2.1) || (!(bt988.2.2.1.toList == bt993.2.2.1.toList)))) = true then (some (false, x1001)) else (if (bt988.2.2.2 != bt993.2.2.2) = true then (some (false, x1001)) else ((cc_Any.f k x1000 x1001).bind fun bt998 => ((some (([(⟨x985000, x985001, x985002⟩ : S24), (⟨bt998.1, bt998.2.1, bt998.2.2.1⟩ : S24), (⟨bt988.1, bt988.2.1, bt988.2.2.1⟩ : S24)] : List (S24)) : List (S24))).bind fun y1002 => (l3_IntervalForms.l1 k (rd_L7 x28 x30) x28 x29 x30 y1002 (y1002.length : Int) 0 x1000 bt998.2.2.2 x985000 x985001 x985002)))))))))) else (none)) else (none)) else ((l3_begun.f k).bind fun t1009 => (some (t1009, x1001)))
def l3_IntervalForms.l1 : Nat → List (S65) → List (List (S65)) → Int → Int → List (S24) → Int → Int → List Int → Int → Int → Int → ByteArray → Option (Bool × Int)
 | 0, _, _, _, _, _, _, _, _, _, _, _, _ => none
 | k + 1, x9, x28, x29, x30, x61, x62, x63, x1000, x1001, x985000, x985001, x985002 => if x63 < x62 then (if 0 ≤ x63 then (if x63 < (x61.length : Int) then ((i_Has.f k x9 ((rd_T24 x61 x63).f0) ((rd_T24 x61 x63).f1) ((rd_T24 x61 x63).f2)).bind fun t1007 => ((r3_Has.f k x9 ((rd_T24 x61 x63).f0) ((rd_T24 x61 x63).f1) ((rd_T24 x61 x63).f2)).bind fun t1008 => (if (t1007 != t1008) = true then (some (false, x1001)) else (l3_IntervalForms.l1 k x9 x28 x29 x30 x61 x62 (wrap64 (x63 + 1)) x1000 x1001 x985000 x985001 x985002)))) else (none)) else (none)) else (l3_IntervalForms.l0 k x28 x29 (wrap64 (x30 + 1)) x1000 x1001 x985000 x985001 x985002)
end
def l3_IntervalForms.g (k : Nat) (s0_0 : List Int) (s0_1 : Int) (l1 : List (List (S65))) (a2_0 : Int) (a2_1 : Int) (a2_2 : ByteArray) : Option (Bool × Int) := l3_IntervalForms.l0 k l1 (l1.length : Int) 0 s0_0 s0_1 a2_0 a2_1 a2_2
def l3_IntervalForms.f (k : Nat) (lc : List Int) (lr : List S65) (a0 a1 : Int) (a2 : ByteArray) : Option Bool := (cs_New.f lc 90).bind fun s => (cc_Interval.f k s.1 s.2).bind fun a => (l3_spoilt.f k s.1 a.2).bind fun c => (l3_IntervalForms.g k s.1 c.2 [a.1, c.1, lr.take 80] a0 a1 a2).map Prod.fst
set_option maxHeartbeats 8000000 in
set_option maxRecDepth 100000 in
theorem l3_IntervalForms.calls (k : Nat) (Ac : Option Addr) (cc : Nat) (lc : List Int) (Ar : Option Addr) (cr : Nat) (lr : List S65) (a0 a1 : Int) (a2 : ByteArray) (r : Bool) (wA : World) (hrc : Kd.C (Kd.int .u8) wA Ac lc.length lc) (hcc : lc.length ≤ cc) (hrr : Kd.C k65 wA Ar lr.length lr) (hcr : lr.length ≤ cr) (h : l3_IntervalForms.f k lc lr a0 a1 a2 = some r) (HRT : Aside0 (r = true)) :
  Calls Try.prog 14 #[.slice Ac lc.length cc, .slice Ar lr.length cr, .agg #[.int .i64 a0, .int .i64 a1, .string a2]] wA fun e w' => e = .returned (.bool r) ∧ Below wA.heap.size wA w' := by
 have hu24 := Try.underlying24
 have HRc := Aside0.mk hrc
 have HCc := Aside0.mk hcc
 have HRr := Aside0.mk hrr
 have HCr := Aside0.mk hcr
 clear hrc hcc hrr hcr
 have HB := aK (Below.refl wA.heap.size wA)
 unfold l3_IntervalForms.f at h
 obtain ⟨⟨t1, t2⟩, A2_, h2_⟩ := Option.bind_eq_some_iff.mp h
 obtain ⟨⟨q1, p1⟩, A3_, h3_⟩ := Option.bind_eq_some_iff.mp h2_
 obtain ⟨⟨q2, p2⟩, A4_, h4_⟩ := Option.bind_eq_some_iff.mp h3_
 obtain ⟨⟨r1, r2⟩, h5_, hr_⟩ := Option.map_eq_some_iff.mp h4_
 replace hr_ : r1 = r := hr_
 subst hr_
 clear h h2_ h3_ h4_
 have AN := Aside0.mk A2_
 have AQ1 := Aside0.mk A3_
 have AQ2 := Aside0.mk A4_
 have hm80_ : ∃ m : Nat, m = min lr.length 80 := ⟨_, rfl⟩
 obtain ⟨m, hm⟩ := hm80_
 obtain ⟨lt, hlt_⟩ : ∃ lt, lt = lr.take 80 := ⟨_, rfl⟩
 have hlm : lt.length = m := by rw [hlt_, List.length_take, hm]; omega
 have hmin : (if (80 : Int) < (lr.length : Int) then (80 : Int) else (lr.length : Int)) = (m : Int) := by split <;> omega
 obtain ⟨i0, hi0, _, hsz0, _⟩ := info_parts info65
 have hcut : ∀ W : World, (Instr.slice 36 (.slice Ar lr.length cr) none (some (.int .i64 (m : Int))) none).run Try.prog W = .ok (.slice Ar lt.length cr) W := by
  intro W
  have h_ := cut_to (P := Try.prog) 36 65 .i64 Try.underlying36 hi0 Ar lr.length cr (m : Int) (by omega) (by omega) HCr.out W
  rw [h_, hlm]
  rfl
 have HLM : Aside0 (lt.length ≤ cr) := aK (by rw [hlm]; have h_ := HCr.out; omega)
 have HRT8 : Aside0 (Kd.F k65 wA (fun k_ => k_ < wA.heap.size) Ar lt.length lt) := aK (by
  have q_ := Kd.F_take (m := m) (Kd.C_F k65_heap HRr.out) (by omega)
  have e_ : lr.take m = lt := by
   rw [hlt_]
   rcases Nat.lt_or_ge 80 lr.length with c_ | c_
   ·rw [show m = 80 from by omega]
   ·rw [List.take_of_length_le (by omega : lr.length ≤ m), List.take_of_length_le c_]
  rw [e_] at q_
  exact q_)
 obtain ⟨l1, hl_⟩ : ∃ l1, l1 = [q1, q2, lt] := ⟨_, rfl⟩
 have h : l3_IntervalForms.g k t1 p2 l1 a0 a1 a2 = some (r1, r2) := by rw [hl_, hlt_]; exact h5_
 have HL0 := Aside0.mk hl_
 have H' : Aside0 (l3_IntervalForms.l0 k l1 (l1.length : Int) 0 t1 p2 a0 a1 a2 = some (r1, r2)) := ⟨h⟩
 clear h h5_ A2_ A3_ A4_ hl_ hlt_ hm hlm hi0 hsz0
 go_enter Try.func14, Try.ntmps14
 go_wp2_with (first | ((with_reducible refine gate_dst (N := 5) rfl ?_); refine box_event ?hg (N := 5) ?hd (cs := #[.int .i64 a0, .int .i64 a1, .string a2]) (t := 24) ?hr ?_; (case hd => rfl); (case hg => rfl); (case hr => exact hR); intro gb984 hg w4 hbox hb; have n0_ := aK (below_step bO hb); have BK984 := Aside0.mk hbox; clear HB; have HB := n0_; clear n0_ hb hbox hg) | ((with_reducible refine gate_callee (f := 18) rfl ?_); refine gL (some 17) rfl Try.func18 #[.slice Ac lc.length cc, .int .i64 90] rfl ?_; (with_reducible refine (cs_New.calls _ _ lc 90 t1 t2 wA _ ?side1 ?side2 ?side3 AN.out).mono ?_); (case side1 => exact bO); (case side2 => exact HRc.out); (case side3 => exact HCc.out); rintro e w5 ⟨g, rfl, hi, hb, hb2⟩; refine ⟨_, rfl, ?_⟩; have n0_ := aK (blk_below (bX BK984.out) hb2); have NB0_984 := aK (NewS75.ne_blk hi (blk_below (bX BK984.out) hb2) (by decide)); have NB984_0 := aK (NB0_984.out.symm); obtain ⟨wN, BWN, BNW, hIN⟩ := hi; clear BK984; have BK984 := n0_; clear n0_; have HI := Aside0.mk hIN; have HBW := Aside0.mk BWN; have HB1 := Aside0.mk BNW; clear hIN BWN BNW hb hb2 HB) | ((with_reducible refine gate_callee (f := 29) rfl ?_); refine gL (some 24) rfl Try.func29 #[.pointer (some ⟨g, 0, none⟩)] rfl ?_; (with_reducible refine (cc_Interval.calls k g t1 t2 q1 p1 wN _ ?side1 ?side2 AQ1.out).mono ?_); (case side1 => repeat (first | (with_reducible first | exact HI.out | apply IsS75.alloc | apply IsS75.drewN | apply IsS75.drew) | exact HI.out)); (case side2 => repeat (first | (with_reducible first | exact HB1.out | apply below_alloc | apply pw_below_drewN | apply below_drew1) | exact HB1.out)); rintro e w6 ⟨v_, rfl, ho, hi, hb, hk⟩; refine ⟨_, rfl, ?_⟩; have nb_ := aK (KeepBut.blk hk (g' := gb984) (o := .cells #[.int .i64 a0, .int .i64 a1, .string a2] 24 (0, 0)) (bX BK984.out) NB984_0.out (by simp)); clear HI HB1 BK984 ; obtain ⟨A24, c24, e_⟩ := Kd.R_slice ho; subst e_; have HO1 := Aside0.mk ho; have HI := Aside0.mk hi; have HB1 := Aside0.mk hb; have BK984 := nb_; clear nb_ ho hi hb hk) | ((with_reducible refine gate_callee (f := 60) rfl ?_); refine gL (some 26) rfl Try.func60 #[.pointer (some ⟨g, 0, none⟩)] rfl ?_; (with_reducible refine (l3_spoilt.calls k g t1 p1 q2 p2 wN _ ?side1 ?side2 AQ2.out).mono ?_); (case side1 => repeat (first | (with_reducible first | exact HI.out | apply IsS75.alloc | apply IsS75.drewN | apply IsS75.drew) | exact HI.out)); (case side2 => repeat (first | (with_reducible first | exact HB1.out | apply below_alloc | apply pw_below_drewN | apply below_drew1) | exact HB1.out)); rintro e w7 ⟨v_, rfl, ho, hi, hb, hk⟩; refine ⟨_, rfl, ?_⟩; have nb_ := aK (KeepBut.blk hk (g' := gb984) (o := .cells #[.int .i64 a0, .int .i64 a1, .string a2] 24 (0, 0)) (bX BK984.out) NB984_0.out (by simp)); have n0_ := aK (Kd.R_mono (Kd.R_keep (IsS75.apart (show IsS75 wN _ g t1 p1 from by repeat (first | (with_reducible first | exact HI.out | apply IsS75.alloc | apply IsS75.drewN | apply IsS75.drew) | exact HI.out)) (rX HO1.out) (by decide)) hk (fun _ h => h.2)) (fun _ h => h.1)); clear HI HB1 BK984 HO1; obtain ⟨A26, c26, e_⟩ := Kd.R_slice ho; subst e_; have HO2 := Aside0.mk ho; have HI := Aside0.mk hi; have HB1 := Aside0.mk hb; have BK984 := nb_; have HO1 := n0_; clear n0_ nb_ ho hi hb hk) | ((with_reducible refine gate_dst (N := 28) rfl ?_); refine Kd.N_lit (Kd.slice 65 k65) _ 36 ?hg (N' := 28) ?hd (xs := [q1, q2, lt]) (inner := [.slice A24 q1.length c24, .slice A26 q2.length c26, .slice Ar lt.length cr]) (ok := fun k_ => k_ ≠ g) (okp := fun k_ => k_ ≠ g) ?hr ?hp (fun _ hk => hk) (Nat.ne_of_gt (IsS75.lt (show IsS75 wN _ g t1 p2 from by repeat (first | (with_reducible first | exact HI.out | apply IsS75.alloc | apply IsS75.drewN | apply IsS75.drew) | exact HI.out)))) (Below.refl _ _) (Nat.le_refl _) (by simp) ?_; (case hd => rfl); (case hg => rfl); (case hr => exact hR); (case hp => exact (Reps.one (Kd.FK_slice_mk (Kd.R_reads' (Kd.R_mono (ok' := fun k_ => k_ ≠ g) (IsS75.apart (show IsS75 wN _ g t1 p2 from by repeat (first | (with_reducible first | exact HI.out | apply IsS75.alloc | apply IsS75.drewN | apply IsS75.drew) | exact HI.out)) (rX HO1.out) (by decide)) (fun _ h_ => h_.2))).2.1 (Kd.R_F (Kd.R_mono (ok' := fun k_ => k_ ≠ g) (IsS75.apart (show IsS75 wN _ g t1 p2 from by repeat (first | (with_reducible first | exact HI.out | apply IsS75.alloc | apply IsS75.drewN | apply IsS75.drew) | exact HI.out)) (rX HO1.out) (by decide)) (fun _ h_ => h_.2)))) (Reps.one (Kd.FK_slice_mk (Kd.R_reads' (Kd.R_mono (ok' := fun k_ => k_ ≠ g) (IsS75.apart (show IsS75 wN _ g t1 p2 from by repeat (first | (with_reducible first | exact HI.out | apply IsS75.alloc | apply IsS75.drewN | apply IsS75.drew) | exact HI.out)) (rX HO2.out) (by decide)) (fun _ h_ => h_.2))).2.1 (Kd.R_F (Kd.R_mono (ok' := fun k_ => k_ ≠ g) (IsS75.apart (show IsS75 wN _ g t1 p2 from by repeat (first | (with_reducible first | exact HI.out | apply IsS75.alloc | apply IsS75.drewN | apply IsS75.drew) | exact HI.out)) (rX HO2.out) (by decide)) (fun _ h_ => h_.2)))) (Reps.one (Kd.FK_slice_mk HLM.out (Kd.F_mono (Kd.F_step HRT8.out (fun k_ hk_ _ => (Below.trans HBW.out (Below.mono (show Below wN.heap.size wN _ from by repeat (first | (with_reducible first | exact HB1.out | apply below_alloc | apply pw_below_drewN | apply below_drew1) | exact HB1.out)) HBW.out.size)).block k_ hk_)) (fun k_ hk_ => Nat.ne_of_lt (Nat.lt_of_lt_of_le hk_ (Nat.le_trans HBW.out.size (IsS75.ge (show IsS75 wN _ g t1 p2 from by repeat (first | (with_reducible first | exact HI.out | apply IsS75.alloc | apply IsS75.drewN | apply IsS75.drew) | exact HI.out)))))))) (Reps.none _ _))))); intro v28_ w8 ho hb hg_ hnew_; rw [← HL0.out] at ho; have n0_ := aK (blk_below (bX BK984.out) hb); have n1_ := aK (IsS75.below (show IsS75 wN _ g t1 p2 from by repeat (first | (with_reducible first | exact HI.out | apply IsS75.alloc | apply IsS75.drewN | apply IsS75.drew) | exact HI.out)) hb); have n2_ := aK (below_step (by repeat (first | (with_reducible first | exact HB1.out | apply below_alloc | apply pw_below_drewN | apply below_drew1) | exact HB1.out)) hb); clear BK984 HI HB1; have BK984 := n0_; have HI0 := n1_; have HB := n2_; have HOL := Aside0.mk ho; clear n0_ n1_ n2_ ho hb hg_ hnew_ HO1 HO2 HRT8 HLM HRr HRc; obtain ⟨A1, c1, e_⟩ := Kd.N_slice HOL.out; subst e_; have HC1 := aK (Kd.N_reads' HOL.out).2.1; have HR1 : Aside0 (∀ W_, KeepBut w8 W_ g none → Kd.C (Kd.slice 65 k65) W_ A1 l1.length l1) := aK (Kd.C_foot_ownV (base := 0) (Kd.N_V HOL.out) (fun _ h_ => h_)); clear HOL HL0; have HK := aK (KeepBut.refl w8 g none); have HW0 := Aside0.mk HB.out.size))
 clear AN AQ1 AQ2 HCc HCr hmin hcut
 obtain ⟨w, hw_⟩ : ∃ w, w = w8 := ⟨_, rfl⟩
 subst hw_
 go_loopg [30] k (fun kq v30 w' => ∃ (x30_1 : Int) (x1001_1 : Int), v30 = .int .i64 x30_1 ∧ Aside0 (l3_IntervalForms.l0 kq l1 (l1.length : Int) x30_1 t1 x1001_1 a0 a1 a2 = some (r1, r2)) ∧ Aside0 (kq ≤ k) ∧ Aside0 (w'.heap[gb984]? = some (.cells #[.int .i64 a0, .int .i64 a1, .string a2] 24 (0, 0))) ∧ Aside0 (IsS75 wN w' g t1 x1001_1) ∧ Aside0 (KeepBut w w' g none) ∧ Aside0 (Below wN.heap.size wN w'))
 case atStart => exact ⟨(0), (p2), (by first | rfl | (simp; done) | (simp [*]; done)), H', ⟨Nat.le_refl _⟩, ⟨bX BK984.out⟩, ⟨iF HI0.out NB0_984.out⟩, ⟨kX⟩, ⟨bS (IsS75.ge HI0.out)⟩⟩
 case round =>
  clear H'
  try clear c1
  try clear p2
  obtain ⟨x30_1, x1001_1, rfl, HA, HK1, BK984, HI0, HK, HB⟩ := hrel
  cases gk with
  | zero => exact absurd HA.out (by simp [l3_IntervalForms.l0])
  | succ k1 =>
   have H := HA.out
   clear HA
   simp only [l3_IntervalForms.l0] at H
   by_cases c5 : x30_1 < (l1.length : Int)
   rotate_left
   ·rw [if_neg c5] at H
    have c5b0 : decide (x30_1 < (l1.length : Int)) = false := decide_eq_false c5
    clear c5
    obtain ⟨t1009, A52, H⟩ := oB H
    try dsimp only at H
    simp only [Option.some.injEq, Prod.mk.injEq] at H
    obtain ⟨rfl, rfl⟩ := H
    go_wp2_with (first | ((with_reducible refine gate_callee (f := 36) rfl ?_); refine gL (some 76) rfl Try.func36 #[] rfl ?_; (with_reducible refine (l3_begun.calls k1  t1009 _ A52.out).mono ?_); rintro e w53 ⟨rfl, hb⟩; refine ⟨_, rfl, ?_⟩; have n0_ := aK (blk_below (bX BK984.out) hb); have n1_ := aK (IsS75.below (iF HI0.out NB0_984.out) hb); have n2_ := aK (KeepBut.trans kX (KeepBut.of_below hb g none) (.inl rfl)); have n3_ := aK (below_step (bS (IsS75.ge HI0.out)) hb); clear BK984 HI0 HK HB; have BK984 := n0_; have HI0 := n1_; have HK := n2_; have HB := n3_; clear n0_ n1_ n2_ n3_; (try clear hb)))
    go_ret
    exact ⟨eW, HBW.out.trans (Below.mono (show Below wN.heap.size wN _ from bS (IsS75.ge HI0.out)) HBW.out.size)⟩
   rw [if_pos c5] at H
   have c5b0 : decide (x30_1 < (l1.length : Int)) = true := decide_eq_true c5
   clear c5
   by_cases c6 : 0 ≤ x30_1
   rotate_left
   ·rw [if_neg c6] at H
    exact absurd H (by simp)
   rw [if_pos c6] at H
   have c6b0 : decide (0 ≤ x30_1) = true := decide_eq_true c6
   clear c6
   by_cases c7 : x30_1 < (l1.length : Int)
   rotate_left
   ·rw [if_neg c7] at H
    exact absurd H (by simp)
   rw [if_pos c7] at H
   have c7b0 : decide (x30_1 < (l1.length : Int)) = true := decide_eq_true c7
   clear c7
   obtain ⟨t986, A8, H⟩ := oB H
   try dsimp only at H
   obtain ⟨t987, A9, H⟩ := oB H
   try dsimp only at H
   by_cases c10 : (t986 != t987) = true
   rotate_left
   ·rw [if_neg c10] at H
    have c10b0 : (t986 != t987) = false := by simpa using c10
    (try (have c10b1 : decide (t986 = t987) = true := by simpa using c10))
    (try (have c10b2 : (t986 == t987) = true := by simpa using c10))
    clear c10
    obtain ⟨⟨t988, t989, t990, t991⟩, A11, H⟩ := oB H
    try dsimp only at H
    obtain ⟨⟨t993, t994, t995, t996⟩, A12, H⟩ := oB H
    try dsimp only at H
    by_cases c13 : (!(t988 == t993) || (!(t989 == t994) || (!(t990.toList == t995.toList)))) = true
    rotate_left
    ·rw [if_neg c13] at H
     have c13b0 : (!(t988 == t993) || (!(t989 == t994) || (!(t990.toList == t995.toList)))) = false := by simpa using c13
     clear c13
     by_cases c14 : (t991 != t996) = true
     rotate_left
     ·rw [if_neg c14] at H
      have c14b0 : (t991 != t996) = false := by simpa using c14
      (try (have c14b1 : decide (t991 = t996) = true := by simpa using c14))
      (try (have c14b2 : (t991 == t996) = true := by simpa using c14))
      clear c14
      obtain ⟨⟨t998, t999, t1000, t1001⟩, A15, H⟩ := oB H
      try dsimp only at H
      obtain ⟨y1002, hy1002⟩ : ∃ y_ : List (S24), y_ = (([(⟨a0, a1, a2⟩ : S24), (⟨t998, t999, t1000⟩ : S24), (⟨t988, t989, t990⟩ : S24)] : List (S24))) := ⟨_, rfl⟩
      replace H : (l3_IntervalForms.l1 k1 (rd_L7 l1 x30_1) l1 (l1.length : Int) x30_1 y1002 (y1002.length : Int) 0 t1 t1001 a0 a1 a2) = some (r1, r2) := by first | (rw [hy1002]; with_reducible exact H) | (have H2_ := (Option.bind_some _ _).symm.trans H; rw [hy1002]; with_reducible exact H2_) | (have H2_ := (Option.bind_some _ _).symm.trans H; with_reducible exact H2_) | with_reducible exact H | (rw [hy1002]; exact H) | exact H
      have Ny1002 := Aside0.mk hy1002
      clear hy1002
      have H' := Aside0.mk H
      clear H
      have p985 : 0 ≤ (x30_1 : Int) := of_decide_eq_true (aA)
      have q985 : x30_1 < (l1.length : Int) := of_decide_eq_true (aA)
      obtain ⟨ad985, A985_0, c985_0, e985, hx985_0, hl985_0, hi985_0⟩ := at_L7 (Kd.C_foot_now HR1.out HK.out) x30_1 p985 q985
      cases e985
      have HR985_0 := aK (foot_elem HR1.out HK.out p985 q985 hi985_0 hx985_0)
      have HC985_0 := Aside0.mk hl985_0
      clear hi985_0 hl985_0
      replace p985 := eq_true p985
      replace q985 := eq_true q985
      try go_wp2_with (first | ((with_reducible refine gate_callee (f := 37) rfl ?_); refine gL (some 35) rfl Try.func37 #[.slice A985_0 (rd_L7 l1 x30_1).length c985_0] rfl ?_; (with_reducible refine (i_Valid.calls k1 _ _ (rd_L7 l1 x30_1) t986 _ ?side1 ?side2 A8.out).mono ?_); (case side1 => exact Kd.C_foot_now HR985_0.out kX); (case side2 => exact HC985_0.out); rintro e w16 ⟨rfl, hb⟩; refine ⟨_, rfl, ?_⟩; have n0_ := aK (blk_below (bX BK984.out) hb); have n1_ := aK (IsS75.below (iF HI0.out NB0_984.out) hb); have n2_ := aK (KeepBut.trans kX (KeepBut.of_below hb g none) (.inl rfl)); have n3_ := aK (below_step (bS (IsS75.ge HI0.out)) hb); clear BK984 HI0 HK HB; have BK984 := n0_; have HI0 := n1_; have HK := n2_; have HB := n3_; clear n0_ n1_ n2_ n3_; (try clear hb)) | ((with_reducible refine gate_callee (f := 61) rfl ?_); refine gL (some 37) rfl Try.func61 #[.slice A985_0 (rd_L7 l1 x30_1).length c985_0] rfl ?_; (with_reducible refine (r3_Valid.calls k1 _ _ (rd_L7 l1 x30_1) t987 _ ?side1 ?side2 A9.out).mono ?_); (case side1 => exact Kd.C_foot_now HR985_0.out kX); (case side2 => exact HC985_0.out); rintro e w17 ⟨rfl, hb⟩; refine ⟨_, rfl, ?_⟩; have n0_ := aK (blk_below (bX BK984.out) hb); have n1_ := aK (IsS75.below (iF HI0.out NB0_984.out) hb); have n2_ := aK (KeepBut.trans kX (KeepBut.of_below hb g none) (.inl rfl)); have n3_ := aK (below_step (bS (IsS75.ge HI0.out)) hb); clear BK984 HI0 HK HB; have BK984 := n0_; have HI0 := n1_; have HK := n2_; have HB := n3_; clear n0_ n1_ n2_ n3_; (try clear hb)) | ((with_reducible refine gate_callee (f := 62) rfl ?_); refine gL (some 41) rfl Try.func62 #[.slice A985_0 (rd_L7 l1 x30_1).length c985_0] rfl ?_; (with_reducible refine (i_Least.calls k1 _ _ (rd_L7 l1 x30_1) t988 t989 t990 t991 _ ?side1 ?side2 A11.out).mono ?_); (case side1 => exact Kd.C_foot_now HR985_0.out kX); (case side2 => exact HC985_0.out); rintro e w18 ⟨rfl, hb⟩; refine ⟨_, rfl, ?_⟩; have n0_ := aK (blk_below (bX BK984.out) hb); have n1_ := aK (IsS75.below (iF HI0.out NB0_984.out) hb); have n2_ := aK (KeepBut.trans kX (KeepBut.of_below hb g none) (.inl rfl)); have n3_ := aK (below_step (bS (IsS75.ge HI0.out)) hb); clear BK984 HI0 HK HB; have BK984 := n0_; have HI0 := n1_; have HK := n2_; have HB := n3_; clear n0_ n1_ n2_ n3_; (try clear hb)) | ((with_reducible refine gate_dst (N := 10) rfl ?_); refine box_event ?hg (N := 10) ?hd (cs := #[.int .i64 0, .int .i64 0, .string (⟨#[]⟩ : ByteArray)]) (t := 24) ?hr ?_; (case hd => rfl); (case hg => rfl); (case hr => exact hR); intro gb992 hg w19 hbox hb; have n0_ := aK (blk_below (bX BK984.out) hb); have n1_ := aK (IsS75.below (iF HI0.out NB0_984.out) hb); have n2_ := aK (KeepBut.trans kX (KeepBut.of_below hb g none) (.inl rfl)); have n3_ := aK (below_step (bS (IsS75.ge HI0.out)) hb); have n4_ := aK (hbox); have n5_ := aK ((by rw [hg]; exact (keep_size (w := w) (g := g) (row := none) kX) : w.heap.size ≤ gb992)); have n6_ := aK ((Nat.le_trans HW0.out (by rw [hg]; exact (keep_size (w := w) (g := g) (row := none) kX) : w.heap.size ≤ gb992) : wN.heap.size ≤ gb992)); have n7_ := aK ((by rw [hg]; exact Nat.ne_of_lt (blk_lt (bX BK984.out)) : gb984 ≠ gb992)); have n8_ := aK ((by rw [hg]; exact Nat.ne_of_gt (blk_lt (bX BK984.out)) : gb992 ≠ gb984)); have n9_ := aK ((by rw [hg]; exact Nat.ne_of_lt (IsS75.lt (show IsS75 wN _ g t1 x1001_1 from iF HI0.out NB0_984.out)) : g ≠ gb992)); have n10_ := aK ((by rw [hg]; exact Nat.ne_of_gt (IsS75.lt (show IsS75 wN _ g t1 x1001_1 from iF HI0.out NB0_984.out)) : gb992 ≠ g)); clear BK984 HI0 HK HB; have BK984 := n0_; have HI0 := n1_; have HK := n2_; have HB := n3_; have BK992 := n4_; have GW992 := n5_; have GE992 := n6_; have NB984_992 := n7_; have NB992_984 := n8_; have NB0_992 := n9_; have NB992_0 := n10_; clear n0_ n1_ n2_ n3_ n4_ n5_ n6_ n7_ n8_ n9_ n10_ hb hbox hg; have hnb20 := NB992_984.out; have hnc20 := NB984_992.out; have hnb21 := NB992_0.out; have hnc21 := NB0_992.out; obtain ⟨hcz22_0, hcz22_1, hcz22_2⟩ := z3 BK992.out (.int .i64 0) (.int .i64 0) (.string (⟨#[]⟩ : ByteArray)); obtain ⟨hfz22_0, hfz22_1, hfz22_2⟩ := f3 BK992.out) | ((with_reducible refine gate_callee (f := 63) rfl ?_); refine gL (some 46) rfl Try.func63 #[.slice A985_0 (rd_L7 l1 x30_1).length c985_0] rfl ?_; (with_reducible refine (r3_Least.calls k1 _ _ (rd_L7 l1 x30_1) t993 t994 t995 t996 _ ?side1 ?side2 A12.out).mono ?_); (case side1 => exact Kd.C_foot_now HR985_0.out (by repeat (first | (with_reducible first | exact HK.out | apply KeepBut.set_ | apply keep_drewN | apply keep_drew | apply keep_alloc | refine keep_far ?_ GW992.out _) | exact HK.out))); (case side2 => exact HC985_0.out); rintro e w23 ⟨rfl, hb⟩; refine ⟨_, rfl, ?_⟩; have n0_ := aK (blk_below (g := gb984) (o := .cells #[.int .i64 a0, .int .i64 a1, .string a2] 24 (0, 0)) (by (with_reducible repeat (first | refine blk_drewN ?_ _ | refine blk_drew ?_ | refine blk_alloc ?_ _)); refine blk_far ?_ NB984_992.out _; (with_reducible repeat (first | refine blk_drewN ?_ _ | refine blk_drew ?_ | refine blk_alloc ?_ _)); refine blk_far ?_ NB984_992.out _; (with_reducible repeat (first | refine blk_drewN ?_ _ | refine blk_drew ?_ | refine blk_alloc ?_ _)); refine blk_far ?_ NB984_992.out _; (with_reducible repeat (first | refine blk_drewN ?_ _ | refine blk_drew ?_ | refine blk_alloc ?_ _)); exact BK984.out) hb); have n1_ := aK (IsS75.below (show IsS75 wN (((w19.setCell ⟨gb992, 0, none⟩ (.int .i64 t988)).setCell ⟨gb992, 1, none⟩ (.int .i64 t989)).setCell ⟨gb992, 2, none⟩ (.string t990)) g t1 x1001_1 from by repeat (first | (with_reducible first | exact HI0.out | apply IsS75.alloc | apply IsS75.drewN | apply IsS75.drew | apply IsS75.set_1 | refine IsS75.far ?_ NB0_984.out _ | refine IsS75.far ?_ NB0_992.out _) | exact HI0.out)) hb); have n2_ := aK (blk_below (g := gb992) (o := .cells #[.int .i64 t988, .int .i64 t989, .string t990] 24 (0, 0)) (put3 BK992.out) hb); have n3_ := aK (KeepBut.trans (by repeat (first | (with_reducible first | exact HK.out | apply KeepBut.set_ | apply keep_drewN | apply keep_drew | apply keep_alloc | refine keep_far ?_ GW992.out _) | exact HK.out)) (KeepBut.of_below hb g none) (.inl rfl)); have n4_ := aK (below_step (bT (IsS75.ge HI0.out) GE992.out) hb); clear BK984 HI0 BK992 HK HB; have BK984 := n0_; have HI0 := n1_; have BK992 := n2_; have HK := n3_; have HB := n4_; clear n0_ n1_ n2_ n3_ n4_; (try clear hb)) | ((with_reducible refine gate_dst (N := 12) rfl ?_); refine box_event ?hg (N := 12) ?hd (cs := #[.int .i64 0, .int .i64 0, .string (⟨#[]⟩ : ByteArray)]) (t := 24) ?hr ?_; (case hd => rfl); (case hg => rfl); (case hr => exact hR); intro gb997 hg w24 hbox hb; have n0_ := aK (blk_below (bX BK984.out) hb); have n1_ := aK (IsS75.below (by repeat (first | (with_reducible first | exact HI0.out | apply IsS75.alloc | apply IsS75.drewN | apply IsS75.drew | apply IsS75.set_1 | refine IsS75.far ?_ NB0_984.out _ | refine IsS75.far ?_ NB0_992.out _) | exact HI0.out)) hb); have n2_ := aK (blk_below (bX BK992.out) hb); have n3_ := aK (KeepBut.trans (by repeat (first | (with_reducible first | exact HK.out | apply KeepBut.set_ | apply keep_drewN | apply keep_drew | apply keep_alloc | refine keep_far ?_ GW992.out _) | exact HK.out)) (KeepBut.of_below hb g none) (.inl rfl)); have n4_ := aK (below_step (bT (IsS75.ge HI0.out) GE992.out) hb); have n5_ := aK (hbox); have n6_ := aK ((by rw [hg]; exact (keep_size (w := w) (g := g) (row := none) (by repeat (first | (with_reducible first | exact HK.out | apply KeepBut.set_ | apply keep_drewN | apply keep_drew | apply keep_alloc | refine keep_far ?_ GW992.out _) | exact HK.out))) : w.heap.size ≤ gb997)); have n7_ := aK ((Nat.le_trans HW0.out (by rw [hg]; exact (keep_size (w := w) (g := g) (row := none) (by repeat (first | (with_reducible first | exact HK.out | apply KeepBut.set_ | apply keep_drewN | apply keep_drew | apply keep_alloc | refine keep_far ?_ GW992.out _) | exact HK.out))) : w.heap.size ≤ gb997) : wN.heap.size ≤ gb997)); have n8_ := aK ((by rw [hg]; exact Nat.ne_of_lt (blk_lt (bX BK984.out)) : gb984 ≠ gb997)); have n9_ := aK ((by rw [hg]; exact Nat.ne_of_gt (blk_lt (bX BK984.out)) : gb997 ≠ gb984)); have n10_ := aK ((by rw [hg]; exact Nat.ne_of_lt (blk_lt (bX BK992.out)) : gb992 ≠ gb997)); have n11_ := aK ((by rw [hg]; exact Nat.ne_of_gt (blk_lt (bX BK992.out)) : gb997 ≠ gb992)); have n12_ := aK ((by rw [hg]; exact Nat.ne_of_lt (IsS75.lt (show IsS75 wN _ g t1 x1001_1 from by repeat (first | (with_reducible first | exact HI0.out | apply IsS75.alloc | apply IsS75.drewN | apply IsS75.drew | apply IsS75.set_1 | refine IsS75.far ?_ NB0_984.out _ | refine IsS75.far ?_ NB0_992.out _) | exact HI0.out))) : g ≠ gb997)); have n13_ := aK ((by rw [hg]; exact Nat.ne_of_gt (IsS75.lt (show IsS75 wN _ g t1 x1001_1 from by repeat (first | (with_reducible first | exact HI0.out | apply IsS75.alloc | apply IsS75.drewN | apply IsS75.drew | apply IsS75.set_1 | refine IsS75.far ?_ NB0_984.out _ | refine IsS75.far ?_ NB0_992.out _) | exact HI0.out))) : gb997 ≠ g)); clear BK984 HI0 BK992 HK HB; have BK984 := n0_; have HI0 := n1_; have BK992 := n2_; have HK := n3_; have HB := n4_; have BK997 := n5_; have GW997 := n6_; have GE997 := n7_; have NB984_997 := n8_; have NB997_984 := n9_; have NB992_997 := n10_; have NB997_992 := n11_; have NB0_997 := n12_; have NB997_0 := n13_; clear n0_ n1_ n2_ n3_ n4_ n5_ n6_ n7_ n8_ n9_ n10_ n11_ n12_ n13_ hb hbox hg; have hnb25 := NB997_984.out; have hnc25 := NB984_997.out; have hnb26 := NB997_992.out; have hnc26 := NB992_997.out; have hnb27 := NB997_0.out; have hnc27 := NB0_997.out; obtain ⟨hcz28_0, hcz28_1, hcz28_2⟩ := z3 BK997.out (.int .i64 0) (.int .i64 0) (.string (⟨#[]⟩ : ByteArray)); obtain ⟨hfz28_0, hfz28_1, hfz28_2⟩ := f3 BK997.out; obtain ⟨hcz29_0, hcz29_1, hcz29_2⟩ := z3 BK992.out (.int .i64 t988) (.int .i64 t989) (.string t990); obtain ⟨hfz29_0, hfz29_1, hfz29_2⟩ := f3 BK992.out))
      have n0_ : Aside0 ((((w24.setCell ⟨gb997, 0, none⟩ (.int .i64 t993)).setCell ⟨gb997, 1, none⟩ (.int .i64 t994)).setCell ⟨gb997, 2, none⟩ (.string t995)).heap[gb984]? = some (.cells #[.int .i64 a0, .int .i64 a1, .string a2] 24 (0, 0))) := ⟨by (with_reducible repeat (first | refine blk_drewN ?_ _ | refine blk_drew ?_ | refine blk_alloc ?_ _)); refine blk_far ?_ NB984_997.out _; (with_reducible repeat (first | refine blk_drewN ?_ _ | refine blk_drew ?_ | refine blk_alloc ?_ _)); refine blk_far ?_ NB984_997.out _; (with_reducible repeat (first | refine blk_drewN ?_ _ | refine blk_drew ?_ | refine blk_alloc ?_ _)); refine blk_far ?_ NB984_997.out _; (with_reducible repeat (first | refine blk_drewN ?_ _ | refine blk_drew ?_ | refine blk_alloc ?_ _)); exact BK984.out⟩
      have n1_ : Aside0 ((((w24.setCell ⟨gb997, 0, none⟩ (.int .i64 t993)).setCell ⟨gb997, 1, none⟩ (.int .i64 t994)).setCell ⟨gb997, 2, none⟩ (.string t995)).heap[gb992]? = some (.cells #[.int .i64 t988, .int .i64 t989, .string t990] 24 (0, 0))) := ⟨by (with_reducible repeat (first | refine blk_drewN ?_ _ | refine blk_drew ?_ | refine blk_alloc ?_ _)); refine blk_far ?_ NB992_997.out _; (with_reducible repeat (first | refine blk_drewN ?_ _ | refine blk_drew ?_ | refine blk_alloc ?_ _)); refine blk_far ?_ NB992_997.out _; (with_reducible repeat (first | refine blk_drewN ?_ _ | refine blk_drew ?_ | refine blk_alloc ?_ _)); refine blk_far ?_ NB992_997.out _; (with_reducible repeat (first | refine blk_drewN ?_ _ | refine blk_drew ?_ | refine blk_alloc ?_ _)); exact BK992.out⟩
      have n2_ : Aside0 ((((w24.setCell ⟨gb997, 0, none⟩ (.int .i64 t993)).setCell ⟨gb997, 1, none⟩ (.int .i64 t994)).setCell ⟨gb997, 2, none⟩ (.string t995)).heap[gb997]? = some (.cells #[.int .i64 t993, .int .i64 t994, .string t995] 24 (0, 0))) := ⟨by (with_reducible repeat (first | refine blk_drewN ?_ _ | refine blk_drew ?_ | refine blk_alloc ?_ _)); refine blk_put (cs := #[.int .i64 t993, .int .i64 t994, .string (⟨#[]⟩ : ByteArray)]) ?_ 2 _ rfl; (with_reducible repeat (first | refine blk_drewN ?_ _ | refine blk_drew ?_ | refine blk_alloc ?_ _)); refine blk_put (cs := #[.int .i64 t993, .int .i64 0, .string (⟨#[]⟩ : ByteArray)]) ?_ 1 _ rfl; (with_reducible repeat (first | refine blk_drewN ?_ _ | refine blk_drew ?_ | refine blk_alloc ?_ _)); refine blk_put (cs := #[.int .i64 0, .int .i64 0, .string (⟨#[]⟩ : ByteArray)]) ?_ 0 _ rfl; (with_reducible repeat (first | refine blk_drewN ?_ _ | refine blk_drew ?_ | refine blk_alloc ?_ _)); exact BK997.out⟩
      have n3_ : Aside0 (IsS75 wN (((w24.setCell ⟨gb997, 0, none⟩ (.int .i64 t993)).setCell ⟨gb997, 1, none⟩ (.int .i64 t994)).setCell ⟨gb997, 2, none⟩ (.string t995)) g t1 x1001_1) := ⟨by repeat (first | (with_reducible first | exact HI0.out | apply IsS75.alloc | apply IsS75.drewN | apply IsS75.drew | apply IsS75.set_1 | refine IsS75.far ?_ NB0_984.out _ | refine IsS75.far ?_ NB0_992.out _ | refine IsS75.far ?_ NB0_997.out _) | exact HI0.out)⟩
      have n4_ : Aside0 (KeepBut w (((w24.setCell ⟨gb997, 0, none⟩ (.int .i64 t993)).setCell ⟨gb997, 1, none⟩ (.int .i64 t994)).setCell ⟨gb997, 2, none⟩ (.string t995)) g none) := ⟨by repeat (first | (with_reducible first | exact HK.out | apply KeepBut.set_ | apply keep_drewN | apply keep_drew | apply keep_alloc | refine keep_far ?_ GW992.out _ | refine keep_far ?_ GW997.out _) | exact HK.out)⟩
      have n5_ : Aside0 (Below wN.heap.size wN (((w24.setCell ⟨gb997, 0, none⟩ (.int .i64 t993)).setCell ⟨gb997, 1, none⟩ (.int .i64 t994)).setCell ⟨gb997, 2, none⟩ (.string t995))) := ⟨by repeat (first | (with_reducible first | exact HB.out | apply below_alloc | apply pw_below_drewN | apply below_drew1 | refine below_set ?_ (IsS75.ge HI0.out) | refine below_set ?_ GE992.out | refine below_set ?_ GE997.out) | exact HB.out)⟩
      (try clear BK984)
      (try clear BK992)
      (try clear BK997)
      (try clear HI0)
      (try clear HK)
      (try clear HB)
      generalize (((w24.setCell ⟨gb997, 0, none⟩ (.int .i64 t993)).setCell ⟨gb997, 1, none⟩ (.int .i64 t994)).setCell ⟨gb997, 2, none⟩ (.string t995)) = w30 at n0_ n1_ n2_ n3_ n4_ n5_ ⊢
      have BK984 := n0_
      have BK992 := n1_
      have BK997 := n2_
      have HI0 := n3_
      have HK := n4_
      have HB := n5_
      clear n0_ n1_ n2_ n3_ n4_ n5_
      have n0_ := aK (blk_drew BK984.out)
      have n1_ := aK (blk_drew BK992.out)
      have n2_ := aK (blk_drew BK997.out)
      have n3_ := aK (IsS75.drew HI0.out)
      have n4_ := aK (keep_drew HK.out)
      have n5_ := aK (below_drew1 HB.out)
      clear BK984
      clear BK992
      clear BK997
      clear HI0
      clear HK
      clear HB
      have BK984 := n0_
      have BK992 := n1_
      have BK997 := n2_
      have HI0 := n3_
      have HK := n4_
      have HB := n5_
      clear n0_ n1_ n2_ n3_ n4_ n5_
      refine start_ (n := 7) (S := fun w' => w'.cell? ⟨gb984, 0, none⟩ = some (.int .i64 a0) ∧ w'.cell? ⟨gb984, 1, none⟩ = some (.int .i64 a1) ∧ w'.cell? ⟨gb984, 2, none⟩ = some (.string a2) ∧ w'.cell? ⟨gb992, 0, none⟩ = some (.int .i64 t988) ∧ w'.cell? ⟨gb992, 1, none⟩ = some (.int .i64 t989) ∧ w'.cell? ⟨gb992, 2, none⟩ = some (.string t990)) (ds := []) #[false, false, false, false, false, false, false] (by kernel_rfl) rfl rfl ⟨(blk_cell BK984.out 0).trans rfl, (blk_cell BK984.out 1).trans rfl, (blk_cell BK984.out 2).trans rfl, (blk_cell BK992.out 0).trans rfl, (blk_cell BK992.out 1).trans rfl, (blk_cell BK992.out 2).trans rfl⟩ (fun hHeld => ?_)
      generalize w30.drew = w31 at BK984 BK992 BK997 HI0 HK HB hHeld ⊢
      refine pure_ (i := 1) (N := some 58) (v := ?_) (a' := ?_) #[false, true, false, false, false, false, false] rfl rfl (by kernel_rfl) (fun _ _ _ h => h) (Or.inl ⟨by rfl, ?_⟩) ?_ ?_
      rotate_left
      ·intro w'
       go_simp
       with_reducible rfl
      rotate_left
      ·exact aP
      refine pure_ (i := 6) (N := some 63) (v := ?_) (a' := ?_) #[false, true, false, false, false, false, true] rfl rfl (by kernel_rfl) (fun _ _ _ h => h) (Or.inl ⟨by rfl, ?_⟩) ?_ ?_
      rotate_left
      ·intro w'
       go_simp
       with_reducible rfl
      rotate_left
      ·exact aP
      refine take_ (i := 0) (N := some 57) (v := ?_) (a' := ?_) #[true, true, false, false, false, false, true] rfl rfl (by kernel_rfl) (fun _ _ _ h => h) (Or.inl ⟨by rfl, ?_⟩) hHeld ?_ ?_
      rotate_left
      ·rintro w' ⟨s0, s1, s2, s3, s4, s5⟩
       go_simp
       with_reducible rfl
      rotate_left
      ·exact aP
      refine take_ (i := 3) (N := some 60) (v := ?_) (a' := ?_) #[true, true, false, true, false, false, true] rfl rfl (by kernel_rfl) (fun _ _ _ h => h) (Or.inl ⟨by rfl, ?_⟩) hHeld ?_ ?_
      rotate_left
      ·rintro w' ⟨s0, s1, s2, s3, s4, s5⟩
       go_simp
       with_reducible rfl
      rotate_left
      ·exact aP
      refine one_ (i := 2) (N := some 59) #[true, true, true, true, false, false, true] rfl rfl (by kernel_rfl) (by decide) (fun K hK => ?_)
      refine goes_ Try.func19 (by kernel_rfl) rfl #[.pointer (some ⟨g, 0, none⟩)] (by rfl) rfl rfl (by (try simp only [List.map_toArray, List.map_cons, List.map_nil]); first | done | rfl | (simp only [List.length_drop, List.length_take]; rfl)) ?_
      with_reducible refine (cc_Any.calls k1 g t1 x1001_1 t998 t999 t1000 t1001 wN _ ?side1 ?side2 A15.out).mono ?_
      (case side1 => repeat (first | (with_reducible first | exact HI0.out | apply IsS75.alloc | apply IsS75.drewN | apply IsS75.drew | apply IsS75.set_1 | refine IsS75.far ?_ NB0_984.out _ | refine IsS75.far ?_ NB0_992.out _ | refine IsS75.far ?_ NB0_997.out _) | exact HI0.out))
      (case side2 => repeat (first | (with_reducible first | exact HB.out | apply below_alloc | apply pw_below_drewN | apply below_drew1 | refine below_set ?_ (IsS75.ge HI0.out) | refine below_set ?_ GE992.out | refine below_set ?_ GE997.out) | exact HB.out))
      rintro e w32 ⟨rfl, hi, hb, hk⟩
      refine ⟨_, rfl, ?_⟩
      have n0_ := aK (KeepBut.blk hk (g' := gb984) (o := .cells #[.int .i64 a0, .int .i64 a1, .string a2] 24 (0, 0)) (bX BK984.out) NB984_0.out (by simp))
      have n1_ := aK (KeepBut.blk hk (g' := gb992) (o := .cells #[.int .i64 t988, .int .i64 t989, .string t990] 24 (0, 0)) (bX BK992.out) NB992_0.out (by simp))
      have n2_ := aK (KeepBut.blk hk (g' := gb997) (o := .cells #[.int .i64 t993, .int .i64 t994, .string t995] 24 (0, 0)) (bX BK997.out) NB997_0.out (by simp))
      have n3_ := aK (KeepBut.trans (by repeat (first | (with_reducible first | exact HK.out | apply KeepBut.set_ | apply keep_drewN | apply keep_drew | apply keep_alloc | refine keep_far ?_ GW992.out _ | refine keep_far ?_ GW997.out _) | exact HK.out)) hk (.inl rfl))
      have n4_ := aK (hb)
      have n5_ := aK (hi)
      clear BK984
      clear BK992
      clear BK997
      clear HK
      clear HB
      clear HI0
      have BK984 := n0_
      have BK992 := n1_
      have BK997 := n2_
      have HK := n3_
      have HB := n4_
      have HI0 := n5_
      clear n0_ n1_ n2_ n3_ n4_ n5_
      (try clear hb)
      (try clear hb2)
      (try clear hk)
      (try clear hi)
      refine hK.out _ _ ⟨(blk_cell BK984.out 0).trans rfl, (blk_cell BK984.out 1).trans rfl, (blk_cell BK984.out 2).trans rfl, (blk_cell BK992.out 0).trans rfl, (blk_cell BK992.out 1).trans rfl, (blk_cell BK992.out 2).trans rfl⟩ (fun hHeld => ?_)
      clear hK K
      refine norm_ (a' := ?_) ?_ ?_
      rotate_left
      ·show Act.put _ (some 59) _ = _
       simp only [Act.put, List.setIfInBounds_toArray, List.set_cons_zero, List.set_cons_succ, i64_w, i32_w]
       rfl
      refine one_ (i := 4) (N := some 61) #[true, true, true, true, true, false, true] rfl rfl (by kernel_rfl) (by decide) (fun K hK => ?_)
      refine Kd.R_lit_step k24 _ 24 ?hg (N := 61) ?hd (xs := ([(⟨a0, a1, a2⟩ : S24), (⟨t998, t999, t1000⟩ : S24), (⟨t988, t989, t990⟩ : S24)] : List (S24))) (inner := [.int .i64 a0, .int .i64 a1, .string a2, .int .i64 t998, .int .i64 t999, .string t1000, .int .i64 t988, .int .i64 t989, .string t990]) (ok := fun _ => True) (okp := fun _ => True) ?hr ?hp (fun _ hk => hk) trivial (Below.refl _ _) (Nat.le_refl _) (by simp) ?_; (case hd => rfl); (case hg => rfl); (case hr => exact hR); (case hp => exact (Reps.c3 (show Kd.M k24 _ _ _ (⟨a0, a1, a2⟩ : S24) [.int .i64 a0, .int .i64 a1, .string a2] from (k24_mkM _ _ _ (⟨a0, a1, a2⟩ : S24) )) (Reps.c3 (show Kd.M k24 _ _ _ (⟨t998, t999, t1000⟩ : S24) [.int .i64 t998, .int .i64 t999, .string t1000] from (k24_mkM _ _ _ (⟨t998, t999, t1000⟩ : S24) )) (Reps.c3 (show Kd.M k24 _ _ _ (⟨t988, t989, t990⟩ : S24) [.int .i64 t988, .int .i64 t989, .string t990] from (k24_mkM _ _ _ (⟨t988, t989, t990⟩ : S24) )) (Reps.none _ _)))))
      intro v1003 w33 ho34 hb hg_ hnew_
      clear hg_ hnew_
      (first | rw [← Ny1002.out] at ho34 | (simp only [Int.reduceToNat] at ho34; rw [← Ny1002.out] at ho34))
      have n0_ := aK (Kd.R_lower (Kd.R_newB (Kd.R_newB (Kd.R_newB ho34 (g := gb984) (o := .cells #[.int .i64 a0, .int .i64 a1, .string a2] 24 (0, 0)) (bX BK984.out)) (g := gb992) (o := .cells #[.int .i64 t988, .int .i64 t989, .string t990] 24 (0, 0)) (bX BK992.out)) (g := gb997) (o := .cells #[.int .i64 t993, .int .i64 t994, .string t995] 24 (0, 0)) (bX BK997.out)) (keep_size (w := w) (g := g) (row := none) (by repeat (first | (with_reducible first | exact HK.out | apply KeepBut.set_ | apply keep_drewN | apply keep_drew | apply keep_alloc | refine keep_far ?_ GW992.out _ | refine keep_far ?_ GW997.out _) | exact HK.out))))
      have n1_ := aK (blk_below (bX BK984.out) hb)
      have n2_ := aK (IsS75.below (by repeat (first | (with_reducible first | exact HI0.out | apply IsS75.alloc | apply IsS75.drewN | apply IsS75.drew | apply IsS75.set_1 | refine IsS75.far ?_ NB0_984.out _ | refine IsS75.far ?_ NB0_992.out _ | refine IsS75.far ?_ NB0_997.out _) | exact HI0.out)) hb)
      have n3_ := aK (blk_below (bX BK992.out) hb)
      have n4_ := aK (blk_below (bX BK997.out) hb)
      have n5_ := aK (KeepBut.trans (by repeat (first | (with_reducible first | exact HK.out | apply KeepBut.set_ | apply keep_drewN | apply keep_drew | apply keep_alloc | refine keep_far ?_ GW992.out _ | refine keep_far ?_ GW997.out _) | exact HK.out)) (KeepBut.of_below hb g none) (.inl rfl))
      have n6_ := aK (below_step (by repeat (first | (with_reducible first | exact HB.out | apply below_alloc | apply pw_below_drewN | apply below_drew1 | refine below_set ?_ (IsS75.ge HI0.out) | refine below_set ?_ GE992.out | refine below_set ?_ GE997.out) | exact HB.out)) hb)
      clear BK984
      clear HI0
      clear BK992
      clear BK997
      clear HK
      clear HB
      have HO1004 := n0_
      have BK984 := n1_
      have HI0 := n2_
      have BK992 := n3_
      have BK997 := n4_
      have HK := n5_
      have HB := n6_
      clear n0_ n1_ n2_ n3_ n4_ n5_ n6_
      clear hb ho34
      obtain ⟨Ao35, co35, eo35⟩ := Kd.R_slice HO1004.out
      (first | subst eo35 | (injection eo35 with f1_ f2_ f3_; have f4_ := f1_.symm; have f5_ := f3_.symm; clear f1_ f2_ f3_; subst f4_; subst f5_))
      refine hK.out _ _ ⟨(blk_cell BK984.out 0).trans rfl, (blk_cell BK984.out 1).trans rfl, (blk_cell BK984.out 2).trans rfl, (blk_cell BK992.out 0).trans rfl, (blk_cell BK992.out 1).trans rfl, (blk_cell BK992.out 2).trans rfl⟩ (fun hHeld => ?_)
      clear hK K
      refine norm_ (a' := ?_) ?_ ?_
      rotate_left
      ·show Act.put _ (some 61) _ = _
       simp only [Act.put, List.setIfInBounds_toArray, List.set_cons_zero, List.set_cons_succ, i64_w, i32_w]
       rfl
      refine pure_ (i := 5) (N := some 62) (v := ?_) (a' := ?_) (tf 7 0) rfl rfl (by kernel_rfl) (fun _ _ _ h => h) (Or.inl ⟨by rfl, ?_⟩) ?_ ?_
      rotate_left
      ·intro w'
       go_simp
       with_reducible rfl
      rotate_left
      ·exact aP
      refine done_ (by kernel_rfl) ?_
      try go_wp2
      go_loopg [63] k1 (fun kq v63 w' => ∃ (x63_2 : Int), v63 = .int .i64 x63_2 ∧ Aside0 (l3_IntervalForms.l1 kq (rd_L7 l1 x30_1) l1 (l1.length : Int) x30_1 y1002 (y1002.length : Int) x63_2 t1 t1001 a0 a1 a2 = some (r1, r2)) ∧ Aside0 (kq ≤ k1) ∧ Aside0 (Kd.R k24 24 w' w.heap.size (fun k_ => k_ ≠ gb984 ∧ k_ ≠ gb992 ∧ k_ ≠ gb997) (.slice Ao35 y1002.length co35) y1002) ∧ Aside0 (w'.heap[gb984]? = some (.cells #[.int .i64 a0, .int .i64 a1, .string a2] 24 (0, 0))) ∧ Aside0 (w'.heap[gb992]? = some (.cells #[.int .i64 t988, .int .i64 t989, .string t990] 24 (0, 0))) ∧ Aside0 (w'.heap[gb997]? = some (.cells #[.int .i64 t993, .int .i64 t994, .string t995] 24 (0, 0))) ∧ Aside0 (IsS75 wN w' g t1 t1001) ∧ Aside0 (KeepBut w w' g none) ∧ Aside0 (Below wN.heap.size wN w'))
      case atStart => exact ⟨(0), (by first | rfl | (simp; done) | (simp [*]; done)), H', ⟨Nat.le_refl _⟩, ⟨by (with_reducible repeat (first | apply Kd.R_alloc | apply Kd.R_drewN | apply Kd.R_drew)); exact Kd.R_mono HO1004.out (fun _ hk => ⟨hk.1.1.2, ⟨hk.1.2, hk.2⟩⟩)⟩, ⟨bX BK984.out⟩, ⟨bX BK992.out⟩, ⟨bX BK997.out⟩, ⟨by repeat (first | (with_reducible first | exact HI0.out | apply IsS75.alloc | apply IsS75.drewN | apply IsS75.drew | apply IsS75.set_1 | refine IsS75.far ?_ NB0_984.out _ | refine IsS75.far ?_ NB0_992.out _ | refine IsS75.far ?_ NB0_997.out _) | exact HI0.out)⟩, ⟨by repeat (first | (with_reducible first | exact HK.out | apply KeepBut.set_ | apply keep_drewN | apply keep_drew | apply keep_alloc | refine keep_far ?_ GW992.out _ | refine keep_far ?_ GW997.out _) | exact HK.out)⟩, ⟨by repeat (first | (with_reducible first | exact HB.out | apply below_alloc | apply pw_below_drewN | apply below_drew1 | refine below_set ?_ (IsS75.ge HI0.out) | refine below_set ?_ GE992.out | refine below_set ?_ GE997.out) | exact HB.out)⟩⟩
      case round =>
       clear H'
       try clear c1
       try clear c2
       try clear p2
       try clear c3
       try clear c5
       try clear c5b0
       try clear c6
       try clear c6b0
       try clear c7
       try clear c7b0
       try clear c9
       try clear p9
       try clear q9
       try clear hx9
       try clear c10
       try clear c10b0
       try clear c10b1
       try clear c10b2
       try clear c13
       try clear c13b0
       try clear c14
       try clear c14b0
       try clear c14b1
       try clear c14b2
       try clear c19
       try clear c20
       try clear c21
       try clear c25
       try clear c26
       try clear c27
       try clear hcz22_0 hcz22_1 hcz22_2
       try clear hcz28_0 hcz28_1 hcz28_2
       try clear hcz29_0 hcz29_1 hcz29_2
       try clear hfz22_0 hfz22_1 hfz22_2
       try clear hfz28_0 hfz28_1 hfz28_2
       try clear hfz29_0 hfz29_1 hfz29_2
       try clear hx985_0
       try clear p2
       try clear p985
       try clear q985
       obtain ⟨x63_2, rfl, HA, HK2, HO_61, BK984, BK992, BK997, HI0, HK, HB⟩ := hrel
       cases gk with
       | zero => exact absurd HA.out (by simp [l3_IntervalForms.l1])
       | succ k2 =>
        have H := HA.out
        clear HA
        simp only [l3_IntervalForms.l1] at H
        by_cases c36 : x63_2 < (y1002.length : Int)
        rotate_left
        ·rw [if_neg c36] at H
         have c36b0 : decide (x63_2 < (y1002.length : Int)) = false := decide_eq_false c36
         clear c36
         have H' := Aside0.mk H
         clear H
         go_wp2
         go_roundg k2
         case measure => have := HK1.out; have := HK2.out; omega
         case rel => exact ⟨(wrap64 (x30_1 + 1)), (t1001), (by first | rfl | (simp; done) | (simp [*]; done)), H', ⟨by have := HK1.out; have := HK2.out; omega⟩, ⟨bX BK984.out⟩, ⟨by repeat (first | (with_reducible first | exact HI0.out | apply IsS75.alloc | apply IsS75.drewN | apply IsS75.drew | apply IsS75.set_1 | refine IsS75.far ?_ NB0_984.out _ | refine IsS75.far ?_ NB0_992.out _ | refine IsS75.far ?_ NB0_997.out _) | exact HI0.out)⟩, ⟨by repeat (first | (with_reducible first | exact HK.out | apply KeepBut.set_ | apply keep_drewN | apply keep_drew | apply keep_alloc | refine keep_far ?_ GW992.out _ | refine keep_far ?_ GW997.out _) | exact HK.out)⟩, ⟨by repeat (first | (with_reducible first | exact HB.out | apply below_alloc | apply pw_below_drewN | apply below_drew1 | refine below_set ?_ (IsS75.ge HI0.out) | refine below_set ?_ GE992.out | refine below_set ?_ GE997.out) | exact HB.out)⟩⟩
        rw [if_pos c36] at H
        have c36b0 : decide (x63_2 < (y1002.length : Int)) = true := decide_eq_true c36
        clear c36
        by_cases c37 : 0 ≤ x63_2
        rotate_left
        ·rw [if_neg c37] at H
         exact absurd H (by simp)
        rw [if_pos c37] at H
        have c37b0 : decide (0 ≤ x63_2) = true := decide_eq_true c37
        clear c37
        by_cases c38 : x63_2 < (y1002.length : Int)
        rotate_left
        ·rw [if_neg c38] at H
         exact absurd H (by simp)
        rw [if_pos c38] at H
        have c38b0 : decide (x63_2 < (y1002.length : Int)) = true := decide_eq_true c38
        clear c38
        obtain ⟨t1007, A39, H⟩ := oB H
        try dsimp only at H
        obtain ⟨t1008, A40, H⟩ := oB H
        try dsimp only at H
        by_cases c41 : (t1007 != t1008) = true
        rotate_left
        ·rw [if_neg c41] at H
         have c41b0 : (t1007 != t1008) = false := by simpa using c41
         (try (have c41b1 : decide (t1007 = t1008) = true := by simpa using c41))
         (try (have c41b2 : (t1007 == t1008) = true := by simpa using c41))
         clear c41
         have H' := Aside0.mk H
         clear H
         have p1005 : 0 ≤ (x63_2 : Int) := of_decide_eq_true (aA)
         have q1005 : x63_2 < (y1002.length : Int) := of_decide_eq_true (aA)
         obtain ⟨ad1005, e1005, hx1005_0, hx1005_1, hx1005_2⟩ := at_T24 (Kd.R_reads' HO_61.out).2.2 x63_2 p1005 q1005
         cases e1005
         replace p1005 := eq_true p1005
         replace q1005 := eq_true q1005
         try go_wp2_with (first | ((with_reducible refine gate_dst (N := 15) rfl ?_); refine box_event ?hg (N := 15) ?hd (cs := #[.int .i64 0, .int .i64 0, .string (⟨#[]⟩ : ByteArray)]) (t := 24) ?hr ?_; (case hd => rfl); (case hg => rfl); (case hr => exact hR); intro gb1006 hg w42 hbox hb; have n0_ := aK (Kd.R_below (Kd.R_elderB (rX HO_61.out) gb1006 (Nat.le_of_eq hg.symm)) hb); have n1_ := aK (blk_below (bX BK984.out) hb); have n2_ := aK (blk_below (bX BK992.out) hb); have n3_ := aK (blk_below (bX BK997.out) hb); have n4_ := aK (IsS75.below (by repeat (first | (with_reducible first | exact HI0.out | apply IsS75.alloc | apply IsS75.drewN | apply IsS75.drew | apply IsS75.set_1 | refine IsS75.far ?_ NB0_984.out _ | refine IsS75.far ?_ NB0_992.out _ | refine IsS75.far ?_ NB0_997.out _) | exact HI0.out)) hb); have n5_ := aK (KeepBut.trans (by repeat (first | (with_reducible first | exact HK.out | apply KeepBut.set_ | apply keep_drewN | apply keep_drew | apply keep_alloc | refine keep_far ?_ GW992.out _ | refine keep_far ?_ GW997.out _) | exact HK.out)) (KeepBut.of_below hb g none) (.inl rfl)); have n6_ := aK (below_step (by repeat (first | (with_reducible first | exact HB.out | apply below_alloc | apply pw_below_drewN | apply below_drew1 | refine below_set ?_ (IsS75.ge HI0.out) | refine below_set ?_ GE992.out | refine below_set ?_ GE997.out) | exact HB.out)) hb); have n7_ := aK (hbox); have n8_ := aK ((by rw [hg]; exact (keep_size (w := w) (g := g) (row := none) (by repeat (first | (with_reducible first | exact HK.out | apply KeepBut.set_ | apply keep_drewN | apply keep_drew | apply keep_alloc | refine keep_far ?_ GW992.out _ | refine keep_far ?_ GW997.out _) | exact HK.out))) : w.heap.size ≤ gb1006)); have n9_ := aK ((Nat.le_trans HW0.out (by rw [hg]; exact (keep_size (w := w) (g := g) (row := none) (by repeat (first | (with_reducible first | exact HK.out | apply KeepBut.set_ | apply keep_drewN | apply keep_drew | apply keep_alloc | refine keep_far ?_ GW992.out _ | refine keep_far ?_ GW997.out _) | exact HK.out))) : w.heap.size ≤ gb1006) : wN.heap.size ≤ gb1006)); have n10_ := aK ((by rw [hg]; exact Nat.ne_of_lt (blk_lt (bX BK984.out)) : gb984 ≠ gb1006)); have n11_ := aK ((by rw [hg]; exact Nat.ne_of_gt (blk_lt (bX BK984.out)) : gb1006 ≠ gb984)); have n12_ := aK ((by rw [hg]; exact Nat.ne_of_lt (blk_lt (bX BK992.out)) : gb992 ≠ gb1006)); have n13_ := aK ((by rw [hg]; exact Nat.ne_of_gt (blk_lt (bX BK992.out)) : gb1006 ≠ gb992)); have n14_ := aK ((by rw [hg]; exact Nat.ne_of_lt (blk_lt (bX BK997.out)) : gb997 ≠ gb1006)); have n15_ := aK ((by rw [hg]; exact Nat.ne_of_gt (blk_lt (bX BK997.out)) : gb1006 ≠ gb997)); have n16_ := aK ((by rw [hg]; exact Nat.ne_of_lt (IsS75.lt (show IsS75 wN _ g t1 t1001 from by repeat (first | (with_reducible first | exact HI0.out | apply IsS75.alloc | apply IsS75.drewN | apply IsS75.drew | apply IsS75.set_1 | refine IsS75.far ?_ NB0_984.out _ | refine IsS75.far ?_ NB0_992.out _ | refine IsS75.far ?_ NB0_997.out _) | exact HI0.out))) : g ≠ gb1006)); have n17_ := aK ((by rw [hg]; exact Nat.ne_of_gt (IsS75.lt (show IsS75 wN _ g t1 t1001 from by repeat (first | (with_reducible first | exact HI0.out | apply IsS75.alloc | apply IsS75.drewN | apply IsS75.drew | apply IsS75.set_1 | refine IsS75.far ?_ NB0_984.out _ | refine IsS75.far ?_ NB0_992.out _ | refine IsS75.far ?_ NB0_997.out _) | exact HI0.out))) : gb1006 ≠ g)); clear HO_61 BK984 BK992 BK997 HI0 HK HB; have HO_61 := n0_; have BK984 := n1_; have BK992 := n2_; have BK997 := n3_; have HI0 := n4_; have HK := n5_; have HB := n6_; have BK1006 := n7_; have GW1006 := n8_; have GE1006 := n9_; have NB984_1006 := n10_; have NB1006_984 := n11_; have NB992_1006 := n12_; have NB1006_992 := n13_; have NB997_1006 := n14_; have NB1006_997 := n15_; have NB0_1006 := n16_; have NB1006_0 := n17_; clear n0_ n1_ n2_ n3_ n4_ n5_ n6_ n7_ n8_ n9_ n10_ n11_ n12_ n13_ n14_ n15_ n16_ n17_ hb hbox hg; have hnb43 := NB1006_984.out; have hnc43 := NB984_1006.out; have hnb44 := NB1006_992.out; have hnc44 := NB992_1006.out; have hnb45 := NB1006_997.out; have hnc45 := NB997_1006.out; have hnb46 := NB1006_0.out; have hnc46 := NB0_1006.out; obtain ⟨hcz47_0, hcz47_1, hcz47_2⟩ := z3 BK1006.out (.int .i64 0) (.int .i64 0) (.string (⟨#[]⟩ : ByteArray)); obtain ⟨hfz47_0, hfz47_1, hfz47_2⟩ := f3 BK1006.out))
         have n0_ : Aside0 (Kd.R k24 24 (((w42.setCell ⟨gb1006, 0, none⟩ (.int .i64 ((rd_T24 y1002 x63_2).f0))).setCell ⟨gb1006, 1, none⟩ (.int .i64 ((rd_T24 y1002 x63_2).f1))).setCell ⟨gb1006, 2, none⟩ (.string ((rd_T24 y1002 x63_2).f2))) w.heap.size (fun k_ => k_ ≠ gb984 ∧ k_ ≠ gb992 ∧ k_ ≠ gb997 ∧ k_ ≠ gb1006) (.slice (some ad1005) y1002.length co35) y1002) := ⟨by (with_reducible repeat (first | apply Kd.R_alloc | apply Kd.R_drewN | apply Kd.R_drew)); exact Kd.R_mono (Kd.R_far (p := ⟨gb1006, 2, none⟩) (Kd.R_far (p := ⟨gb1006, 1, none⟩) (Kd.R_far (p := ⟨gb1006, 0, none⟩) (Kd.R_mono HO_61.out (fun k_ hk => (⟨hk, hk.2⟩ : _ ∧ k_ ≠ gb1006))) (fun _ hk => hk.2) (.int .i64 ((rd_T24 y1002 x63_2).f0))) (fun _ hk => hk.2) (.int .i64 ((rd_T24 y1002 x63_2).f1))) (fun _ hk => hk.2) (.string ((rd_T24 y1002 x63_2).f2))) (fun _ hk => ⟨hk.1.1.1, ⟨hk.1.1.2.1, ⟨hk.1.1.2.2, hk.1.2⟩⟩⟩)⟩
         have n1_ : Aside0 ((((w42.setCell ⟨gb1006, 0, none⟩ (.int .i64 ((rd_T24 y1002 x63_2).f0))).setCell ⟨gb1006, 1, none⟩ (.int .i64 ((rd_T24 y1002 x63_2).f1))).setCell ⟨gb1006, 2, none⟩ (.string ((rd_T24 y1002 x63_2).f2))).heap[gb984]? = some (.cells #[.int .i64 a0, .int .i64 a1, .string a2] 24 (0, 0))) := ⟨by (with_reducible repeat (first | refine blk_drewN ?_ _ | refine blk_drew ?_ | refine blk_alloc ?_ _)); refine blk_far ?_ NB984_1006.out _; (with_reducible repeat (first | refine blk_drewN ?_ _ | refine blk_drew ?_ | refine blk_alloc ?_ _)); refine blk_far ?_ NB984_1006.out _; (with_reducible repeat (first | refine blk_drewN ?_ _ | refine blk_drew ?_ | refine blk_alloc ?_ _)); refine blk_far ?_ NB984_1006.out _; (with_reducible repeat (first | refine blk_drewN ?_ _ | refine blk_drew ?_ | refine blk_alloc ?_ _)); exact BK984.out⟩
         have n2_ : Aside0 ((((w42.setCell ⟨gb1006, 0, none⟩ (.int .i64 ((rd_T24 y1002 x63_2).f0))).setCell ⟨gb1006, 1, none⟩ (.int .i64 ((rd_T24 y1002 x63_2).f1))).setCell ⟨gb1006, 2, none⟩ (.string ((rd_T24 y1002 x63_2).f2))).heap[gb992]? = some (.cells #[.int .i64 t988, .int .i64 t989, .string t990] 24 (0, 0))) := ⟨by (with_reducible repeat (first | refine blk_drewN ?_ _ | refine blk_drew ?_ | refine blk_alloc ?_ _)); refine blk_far ?_ NB992_1006.out _; (with_reducible repeat (first | refine blk_drewN ?_ _ | refine blk_drew ?_ | refine blk_alloc ?_ _)); refine blk_far ?_ NB992_1006.out _; (with_reducible repeat (first | refine blk_drewN ?_ _ | refine blk_drew ?_ | refine blk_alloc ?_ _)); refine blk_far ?_ NB992_1006.out _; (with_reducible repeat (first | refine blk_drewN ?_ _ | refine blk_drew ?_ | refine blk_alloc ?_ _)); exact BK992.out⟩
         have n3_ : Aside0 ((((w42.setCell ⟨gb1006, 0, none⟩ (.int .i64 ((rd_T24 y1002 x63_2).f0))).setCell ⟨gb1006, 1, none⟩ (.int .i64 ((rd_T24 y1002 x63_2).f1))).setCell ⟨gb1006, 2, none⟩ (.string ((rd_T24 y1002 x63_2).f2))).heap[gb997]? = some (.cells #[.int .i64 t993, .int .i64 t994, .string t995] 24 (0, 0))) := ⟨by (with_reducible repeat (first | refine blk_drewN ?_ _ | refine blk_drew ?_ | refine blk_alloc ?_ _)); refine blk_far ?_ NB997_1006.out _; (with_reducible repeat (first | refine blk_drewN ?_ _ | refine blk_drew ?_ | refine blk_alloc ?_ _)); refine blk_far ?_ NB997_1006.out _; (with_reducible repeat (first | refine blk_drewN ?_ _ | refine blk_drew ?_ | refine blk_alloc ?_ _)); refine blk_far ?_ NB997_1006.out _; (with_reducible repeat (first | refine blk_drewN ?_ _ | refine blk_drew ?_ | refine blk_alloc ?_ _)); exact BK997.out⟩
         have n4_ : Aside0 ((((w42.setCell ⟨gb1006, 0, none⟩ (.int .i64 ((rd_T24 y1002 x63_2).f0))).setCell ⟨gb1006, 1, none⟩ (.int .i64 ((rd_T24 y1002 x63_2).f1))).setCell ⟨gb1006, 2, none⟩ (.string ((rd_T24 y1002 x63_2).f2))).heap[gb1006]? = some (.cells #[.int .i64 ((rd_T24 y1002 x63_2).f0), .int .i64 ((rd_T24 y1002 x63_2).f1), .string ((rd_T24 y1002 x63_2).f2)] 24 (0, 0))) := ⟨by (with_reducible repeat (first | refine blk_drewN ?_ _ | refine blk_drew ?_ | refine blk_alloc ?_ _)); refine blk_put (cs := #[.int .i64 ((rd_T24 y1002 x63_2).f0), .int .i64 ((rd_T24 y1002 x63_2).f1), .string (⟨#[]⟩ : ByteArray)]) ?_ 2 _ rfl; (with_reducible repeat (first | refine blk_drewN ?_ _ | refine blk_drew ?_ | refine blk_alloc ?_ _)); refine blk_put (cs := #[.int .i64 ((rd_T24 y1002 x63_2).f0), .int .i64 0, .string (⟨#[]⟩ : ByteArray)]) ?_ 1 _ rfl; (with_reducible repeat (first | refine blk_drewN ?_ _ | refine blk_drew ?_ | refine blk_alloc ?_ _)); refine blk_put (cs := #[.int .i64 0, .int .i64 0, .string (⟨#[]⟩ : ByteArray)]) ?_ 0 _ rfl; (with_reducible repeat (first | refine blk_drewN ?_ _ | refine blk_drew ?_ | refine blk_alloc ?_ _)); exact BK1006.out⟩
         have n5_ : Aside0 (IsS75 wN (((w42.setCell ⟨gb1006, 0, none⟩ (.int .i64 ((rd_T24 y1002 x63_2).f0))).setCell ⟨gb1006, 1, none⟩ (.int .i64 ((rd_T24 y1002 x63_2).f1))).setCell ⟨gb1006, 2, none⟩ (.string ((rd_T24 y1002 x63_2).f2))) g t1 t1001) := ⟨by repeat (first | (with_reducible first | exact HI0.out | apply IsS75.alloc | apply IsS75.drewN | apply IsS75.drew | apply IsS75.set_1 | refine IsS75.far ?_ NB0_984.out _ | refine IsS75.far ?_ NB0_992.out _ | refine IsS75.far ?_ NB0_997.out _ | refine IsS75.far ?_ NB0_1006.out _) | exact HI0.out)⟩
         have n6_ : Aside0 (KeepBut w (((w42.setCell ⟨gb1006, 0, none⟩ (.int .i64 ((rd_T24 y1002 x63_2).f0))).setCell ⟨gb1006, 1, none⟩ (.int .i64 ((rd_T24 y1002 x63_2).f1))).setCell ⟨gb1006, 2, none⟩ (.string ((rd_T24 y1002 x63_2).f2))) g none) := ⟨by repeat (first | (with_reducible first | exact HK.out | apply KeepBut.set_ | apply keep_drewN | apply keep_drew | apply keep_alloc | refine keep_far ?_ GW992.out _ | refine keep_far ?_ GW997.out _ | refine keep_far ?_ GW1006.out _) | exact HK.out)⟩
         have n7_ : Aside0 (Below wN.heap.size wN (((w42.setCell ⟨gb1006, 0, none⟩ (.int .i64 ((rd_T24 y1002 x63_2).f0))).setCell ⟨gb1006, 1, none⟩ (.int .i64 ((rd_T24 y1002 x63_2).f1))).setCell ⟨gb1006, 2, none⟩ (.string ((rd_T24 y1002 x63_2).f2)))) := ⟨by repeat (first | (with_reducible first | exact HB.out | apply below_alloc | apply pw_below_drewN | apply below_drew1 | refine below_set ?_ (IsS75.ge HI0.out) | refine below_set ?_ GE992.out | refine below_set ?_ GE997.out | refine below_set ?_ GE1006.out) | exact HB.out)⟩
         (try clear HO_61)
         (try clear BK984)
         (try clear BK992)
         (try clear BK997)
         (try clear BK1006)
         (try clear HI0)
         (try clear HK)
         (try clear HB)
         generalize (((w42.setCell ⟨gb1006, 0, none⟩ (.int .i64 ((rd_T24 y1002 x63_2).f0))).setCell ⟨gb1006, 1, none⟩ (.int .i64 ((rd_T24 y1002 x63_2).f1))).setCell ⟨gb1006, 2, none⟩ (.string ((rd_T24 y1002 x63_2).f2))) = w48 at n0_ n1_ n2_ n3_ n4_ n5_ n6_ n7_ ⊢
         have HO_61 := n0_
         have BK984 := n1_
         have BK992 := n2_
         have BK997 := n3_
         have BK1006 := n4_
         have HI0 := n5_
         have HK := n6_
         have HB := n7_
         clear n0_ n1_ n2_ n3_ n4_ n5_ n6_ n7_
         have n0_ := aK (Kd.R_drew HO_61.out)
         have n1_ := aK (blk_drew BK984.out)
         have n2_ := aK (blk_drew BK992.out)
         have n3_ := aK (blk_drew BK997.out)
         have n4_ := aK (blk_drew BK1006.out)
         have n5_ := aK (IsS75.drew HI0.out)
         have n6_ := aK (keep_drew HK.out)
         have n7_ := aK (below_drew1 HB.out)
         clear HO_61
         clear BK984
         clear BK992
         clear BK997
         clear BK1006
         clear HI0
         clear HK
         clear HB
         have HO_61 := n0_
         have BK984 := n1_
         have BK992 := n2_
         have BK997 := n3_
         have BK1006 := n4_
         have HI0 := n5_
         have HK := n6_
         have HB := n7_
         clear n0_ n1_ n2_ n3_ n4_ n5_ n6_ n7_
         refine start_ (n := 7) (S := fun w' => w'.cell? ⟨gb1006, 0, none⟩ = some (.int .i64 ((rd_T24 y1002 x63_2).f0)) ∧ w'.cell? ⟨gb1006, 1, none⟩ = some (.int .i64 ((rd_T24 y1002 x63_2).f1)) ∧ w'.cell? ⟨gb1006, 2, none⟩ = some (.string ((rd_T24 y1002 x63_2).f2))) (ds := []) #[false, false, false, false, false, false, false] (by kernel_rfl) rfl rfl ⟨(blk_cell BK1006.out 0).trans rfl, (blk_cell BK1006.out 1).trans rfl, (blk_cell BK1006.out 2).trans rfl⟩ (fun hHeld => ?_)
         generalize w48.drew = w49 at HO_61 BK984 BK992 BK997 BK1006 HI0 HK HB hHeld ⊢
         refine pure_ (i := 0) (N := some 67) (v := ?_) (a' := ?_) (tf 1 6) rfl rfl (by kernel_rfl) (fun _ _ _ h => h) (Or.inl ⟨by rfl, ?_⟩) ?_ ?_
         rotate_left
         ·intro w'
          go_simp
          with_reducible rfl
         rotate_left
         ·exact aP
         refine pure_ (i := 3) (N := some 70) (v := ?_) (a' := ?_) #[true, false, false, true, false, false, false] rfl rfl (by kernel_rfl) (fun _ _ _ h => h) (Or.inl ⟨by rfl, ?_⟩) ?_ ?_
         rotate_left
         ·intro w'
          go_simp
          with_reducible rfl
         rotate_left
         ·exact aP
         refine take_ (i := 1) (N := some 68) (v := ?_) (a' := ?_) #[true, true, false, true, false, false, false] rfl rfl (by kernel_rfl) (fun _ _ _ h => h) (Or.inl ⟨by rfl, ?_⟩) hHeld ?_ ?_
         rotate_left
         ·rintro w' ⟨s0, s1, s2⟩
          go_simp
          with_reducible rfl
         rotate_left
         ·exact aP
         refine take_ (i := 4) (N := some 71) (v := ?_) (a' := ?_) #[true, true, false, true, true, false, false] rfl rfl (by kernel_rfl) (fun _ _ _ h => h) (Or.inl ⟨by rfl, ?_⟩) hHeld ?_ ?_
         rotate_left
         ·rintro w' ⟨s0, s1, s2⟩
          go_simp
          with_reducible rfl
         rotate_left
         ·exact aP
         refine one_ (i := 2) (N := some 69) (tf 5 2) rfl rfl (by kernel_rfl) (by decide) (fun K hK => ?_)
         refine goes_ Try.func35 (by kernel_rfl) rfl #[.slice A985_0 (rd_L7 l1 x30_1).length c985_0, .agg #[.int .i64 ((rd_T24 y1002 x63_2).f0), .int .i64 ((rd_T24 y1002 x63_2).f1), .string ((rd_T24 y1002 x63_2).f2)]] (by rfl) rfl rfl (by (try simp only [List.map_toArray, List.map_cons, List.map_nil]); first | done | rfl | (simp only [List.length_drop, List.length_take]; rfl)) ?_
         with_reducible refine (i_Has.calls k2 _ _ (rd_L7 l1 x30_1) ((rd_T24 y1002 x63_2).f0) ((rd_T24 y1002 x63_2).f1) ((rd_T24 y1002 x63_2).f2) t1007 _ ?side1 ?side2 A39.out).mono ?_
         (case side1 => exact Kd.C_foot_now HR985_0.out (by repeat (first | (with_reducible first | exact HK.out | apply KeepBut.set_ | apply keep_drewN | apply keep_drew | apply keep_alloc | refine keep_far ?_ GW992.out _ | refine keep_far ?_ GW997.out _ | refine keep_far ?_ GW1006.out _) | exact HK.out)))
         (case side2 => exact HC985_0.out)
         rintro e w50 ⟨rfl, hb⟩
         refine ⟨_, rfl, ?_⟩
         have n0_ := aK (Kd.R_below (rX HO_61.out) hb)
         have n1_ := aK (blk_below (bX BK984.out) hb)
         have n2_ := aK (blk_below (bX BK992.out) hb)
         have n3_ := aK (blk_below (bX BK997.out) hb)
         have n4_ := aK (IsS75.below (by repeat (first | (with_reducible first | exact HI0.out | apply IsS75.alloc | apply IsS75.drewN | apply IsS75.drew | apply IsS75.set_1 | refine IsS75.far ?_ NB0_984.out _ | refine IsS75.far ?_ NB0_992.out _ | refine IsS75.far ?_ NB0_997.out _ | refine IsS75.far ?_ NB0_1006.out _) | exact HI0.out)) hb)
         have n5_ := aK (blk_below (bX BK1006.out) hb)
         have n6_ := aK (KeepBut.trans (by repeat (first | (with_reducible first | exact HK.out | apply KeepBut.set_ | apply keep_drewN | apply keep_drew | apply keep_alloc | refine keep_far ?_ GW992.out _ | refine keep_far ?_ GW997.out _ | refine keep_far ?_ GW1006.out _) | exact HK.out)) (KeepBut.of_below hb g none) (.inl rfl))
         have n7_ := aK (below_step (by repeat (first | (with_reducible first | exact HB.out | apply below_alloc | apply pw_below_drewN | apply below_drew1 | refine below_set ?_ (IsS75.ge HI0.out) | refine below_set ?_ GE992.out | refine below_set ?_ GE997.out | refine below_set ?_ GE1006.out) | exact HB.out)) hb)
         clear HO_61
         clear BK984
         clear BK992
         clear BK997
         clear HI0
         clear BK1006
         clear HK
         clear HB
         have HO_61 := n0_
         have BK984 := n1_
         have BK992 := n2_
         have BK997 := n3_
         have HI0 := n4_
         have BK1006 := n5_
         have HK := n6_
         have HB := n7_
         clear n0_ n1_ n2_ n3_ n4_ n5_ n6_ n7_
         (try clear hb)
         (try clear hb2)
         (try clear hk)
         (try clear hi)
         refine hK.out _ _ ⟨(blk_cell BK1006.out 0).trans rfl, (blk_cell BK1006.out 1).trans rfl, (blk_cell BK1006.out 2).trans rfl⟩ (fun hHeld => ?_)
         clear hK K
         refine norm_ (a' := ?_) ?_ ?_
         rotate_left
         ·show Act.put _ (some 69) _ = _
          simp only [Act.put, List.setIfInBounds_toArray, List.set_cons_zero, List.set_cons_succ, i64_w, i32_w]
          rfl
         refine one_ (i := 5) (N := some 72) (tf 6 1) rfl rfl (by kernel_rfl) (by decide) (fun K hK => ?_)
         refine goes_ Try.func64 (by kernel_rfl) rfl #[.slice A985_0 (rd_L7 l1 x30_1).length c985_0, .agg #[.int .i64 ((rd_T24 y1002 x63_2).f0), .int .i64 ((rd_T24 y1002 x63_2).f1), .string ((rd_T24 y1002 x63_2).f2)]] (by rfl) rfl rfl (by (try simp only [List.map_toArray, List.map_cons, List.map_nil]); first | done | rfl | (simp only [List.length_drop, List.length_take]; rfl)) ?_
         with_reducible refine (r3_Has.calls k2 _ _ (rd_L7 l1 x30_1) ((rd_T24 y1002 x63_2).f0) ((rd_T24 y1002 x63_2).f1) ((rd_T24 y1002 x63_2).f2) t1008 _ ?side1 ?side2 A40.out).mono ?_
         (case side1 => exact Kd.C_foot_now HR985_0.out (by repeat (first | (with_reducible first | exact HK.out | apply KeepBut.set_ | apply keep_drewN | apply keep_drew | apply keep_alloc | refine keep_far ?_ GW992.out _ | refine keep_far ?_ GW997.out _ | refine keep_far ?_ GW1006.out _) | exact HK.out)))
         (case side2 => exact HC985_0.out)
         rintro e w51 ⟨rfl, hb⟩
         refine ⟨_, rfl, ?_⟩
         have n0_ := aK (Kd.R_below (rX HO_61.out) hb)
         have n1_ := aK (blk_below (bX BK984.out) hb)
         have n2_ := aK (blk_below (bX BK992.out) hb)
         have n3_ := aK (blk_below (bX BK997.out) hb)
         have n4_ := aK (IsS75.below (by repeat (first | (with_reducible first | exact HI0.out | apply IsS75.alloc | apply IsS75.drewN | apply IsS75.drew | apply IsS75.set_1 | refine IsS75.far ?_ NB0_984.out _ | refine IsS75.far ?_ NB0_992.out _ | refine IsS75.far ?_ NB0_997.out _ | refine IsS75.far ?_ NB0_1006.out _) | exact HI0.out)) hb)
         have n5_ := aK (blk_below (bX BK1006.out) hb)
         have n6_ := aK (KeepBut.trans (by repeat (first | (with_reducible first | exact HK.out | apply KeepBut.set_ | apply keep_drewN | apply keep_drew | apply keep_alloc | refine keep_far ?_ GW992.out _ | refine keep_far ?_ GW997.out _ | refine keep_far ?_ GW1006.out _) | exact HK.out)) (KeepBut.of_below hb g none) (.inl rfl))
         have n7_ := aK (below_step (by repeat (first | (with_reducible first | exact HB.out | apply below_alloc | apply pw_below_drewN | apply below_drew1 | refine below_set ?_ (IsS75.ge HI0.out) | refine below_set ?_ GE992.out | refine below_set ?_ GE997.out | refine below_set ?_ GE1006.out) | exact HB.out)) hb)
         clear HO_61
         clear BK984
         clear BK992
         clear BK997
         clear HI0
         clear BK1006
         clear HK
         clear HB
         have HO_61 := n0_
         have BK984 := n1_
         have BK992 := n2_
         have BK997 := n3_
         have HI0 := n4_
         have BK1006 := n5_
         have HK := n6_
         have HB := n7_
         clear n0_ n1_ n2_ n3_ n4_ n5_ n6_ n7_
         (try clear hb)
         (try clear hb2)
         (try clear hk)
         (try clear hi)
         refine hK.out _ _ ⟨(blk_cell BK1006.out 0).trans rfl, (blk_cell BK1006.out 1).trans rfl, (blk_cell BK1006.out 2).trans rfl⟩ (fun hHeld => ?_)
         clear hK K
         refine norm_ (a' := ?_) ?_ ?_
         rotate_left
         ·show Act.put _ (some 72) _ = _
          simp only [Act.put, List.setIfInBounds_toArray, List.set_cons_zero, List.set_cons_succ, i64_w, i32_w]
          rfl
         refine pure_ (i := 6) (N := some 73) (v := ?_) (a' := ?_) (tf 7 0) rfl rfl (by kernel_rfl) (fun _ _ _ h => h) (Or.inl ⟨by rfl, ?_⟩) ?_ ?_
         rotate_left
         ·intro w'
          go_simp
          with_reducible rfl
         rotate_left
         ·exact aP
         refine done_ (by kernel_rfl) ?_
         try go_wp2
         go_roundg k2
         case measure => have := HK1.out; have := HK2.out; omega
         case rel => exact ⟨(wrap64 (x63_2 + 1)), (by first | rfl | (simp; done) | (simp [*]; done)), H', ⟨by have := HK1.out; have := HK2.out; omega⟩, ⟨by (with_reducible repeat (first | apply Kd.R_alloc | apply Kd.R_drewN | apply Kd.R_drew)); exact Kd.R_mono HO_61.out (fun _ hk => ⟨hk.1, ⟨hk.2.1, hk.2.2.1⟩⟩)⟩, ⟨bX BK984.out⟩, ⟨bX BK992.out⟩, ⟨bX BK997.out⟩, ⟨by repeat (first | (with_reducible first | exact HI0.out | apply IsS75.alloc | apply IsS75.drewN | apply IsS75.drew | apply IsS75.set_1 | refine IsS75.far ?_ NB0_984.out _ | refine IsS75.far ?_ NB0_992.out _ | refine IsS75.far ?_ NB0_997.out _ | refine IsS75.far ?_ NB0_1006.out _) | exact HI0.out)⟩, ⟨by repeat (first | (with_reducible first | exact HK.out | apply KeepBut.set_ | apply keep_drewN | apply keep_drew | apply keep_alloc | refine keep_far ?_ GW992.out _ | refine keep_far ?_ GW997.out _ | refine keep_far ?_ GW1006.out _) | exact HK.out)⟩, ⟨by repeat (first | (with_reducible first | exact HB.out | apply below_alloc | apply pw_below_drewN | apply below_drew1 | refine below_set ?_ (IsS75.ge HI0.out) | refine below_set ?_ GE992.out | refine below_set ?_ GE997.out | refine below_set ?_ GE1006.out) | exact HB.out)⟩⟩
        rw [if_pos c41] at H
        have c41b0 : (t1007 != t1008) = true := c41
        (try (have c41b1 : decide (t1007 = t1008) = false := by simpa using c41))
        (try (have c41b2 : (t1007 == t1008) = false := by simpa using c41))
        (try (have c41b3 : ¬ (t1007 = t1008) := by simpa using c41))
        clear c41
        exact absurd ((congrArg (Option.map Prod.fst) H).trans (congrArg some HRT.out)) (by simp)
     rw [if_pos c14] at H
     have c14b0 : (t991 != t996) = true := c14
     (try (have c14b1 : decide (t991 = t996) = false := by simpa using c14))
     (try (have c14b2 : (t991 == t996) = false := by simpa using c14))
     (try (have c14b3 : ¬ (t991 = t996) := by simpa using c14))
     clear c14
     exact absurd ((congrArg (Option.map Prod.fst) H).trans (congrArg some HRT.out)) (by simp)
    rw [if_pos c13] at H
    have c13b0 : (!(t988 == t993) || (!(t989 == t994) || (!(t990.toList == t995.toList)))) = true := c13
    clear c13
    exact absurd ((congrArg (Option.map Prod.fst) H).trans (congrArg some HRT.out)) (by simp)
   rw [if_pos c10] at H
   have c10b0 : (t986 != t987) = true := c10
   (try (have c10b1 : decide (t986 = t987) = false := by simpa using c10))
   (try (have c10b2 : (t986 == t987) = false := by simpa using c10))
   (try (have c10b3 : ¬ (t986 = t987) := by simpa using c10))
   clear c10
   exact absurd ((congrArg (Option.map Prod.fst) H).trans (congrArg some HRT.out)) (by simp)
end Go.Proofs.Ytpjcdacnhalclaa.Q
