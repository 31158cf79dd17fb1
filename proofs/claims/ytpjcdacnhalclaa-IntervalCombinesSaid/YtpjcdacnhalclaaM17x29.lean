/- A part of a proof: facts of functions that the law calls; conditions stand in each. -/
import Derived.Test.YtpjcdacnhalclaaM17x3
import Derived.Test.YtpjcdacnhalclaaM17x25
import Derived.Test.YtpjcdacnhalclaaM17x11
import Derived.Test.YtpjcdacnhalclaaM17x22
import Derived.Test.YtpjcdacnhalclaaM17x10
import Derived.Test.YtpjcdacnhalclaaM17x23
import Derived.Test.YtpjcdacnhalclaaM17x26
import Derived.Test.YtpjcdacnhalclaaM17x28
import Derived.Test.YtpjcdacnhalclaaM17x5
import Derived.Deep.Slices
import Derived.Deep.Grids
import Derived.Test.YtpjcdacnhalclaaM17x6
import Derived.Test.YtpjcdacnhalclaaM17x13
import Derived.Test.YtpjcdacnhalclaaM17x15
set_option linter.unusedVariables false
set_option linter.unusedSimpArgs false
namespace Go.Proofs.Ytpjcdacnhalclaa.Q
open Go.RowKit Go.Proofs.YtpjcdacnhalclaaW.PrintWords Go.Proofs.YtpjcdacnhalclaaW.PrintLast Go.Proofs.YtpjcdacnhalclaaW.PrintMore
attribute [local go_sem] max2_int min2_int max_two min_two max_three min_three max_four min_four
mutual
def l3_IntervalCombines.l0 : Nat → List (List (S65)) → List (List (S65)) → Int → Int → Option (Bool)
 | 0, _, _, _, _ => none
 | k + 1, x6, x45, x46, x47 => if x47 < x46 then (if 0 ≤ x47 then (if x47 < (x45.length : Int) then ((i_Complement.f k (rd_L7 x45 x47)).bind fun bt1187 => ((r3_Complement.f k (rd_L7 x45 x47)).bind fun bt1191 => (if bt1187.2 = bt1191.2 then ((r3_Same.f k bt1187.1 bt1191.1).bind fun t1195 => (l3_IntervalCombines.j1 k x6 (rd_L7 x45 x47) x45 x46 x47 (!t1195))) else (l3_IntervalCombines.j1 k x6 (rd_L7 x45 x47) x45 x46 x47 true)))) else (none)) else (none)) else ((l3_begun.f k).bind fun t1185 => (some t1185))
def l3_IntervalCombines.j1 : Nat → List (List (S65)) → List (S65) → List (List (S65)) → Int → Int → Bool → Option (Bool)
 | 0, _, _, _, _, _, _ => none
 | k + 1, x6, x8, x45, x46, x47, x69 => if x69 = true then (some false) else (l3_IntervalCombines.l1 k x6 x8 x45 x46 x47 x6 (x6.length : Int) 0)
def l3_IntervalCombines.l1 : Nat → List (List (S65)) → List (S65) → List (List (S65)) → Int → Int → List (List (S65)) → Int → Int → Option (Bool)
 | 0, _, _, _, _, _, _, _, _ => none
 | k + 1, x6, x8, x45, x46, x47, x70, x71, x72 => if x72 < x71 then (if 0 ≤ x72 then (if x72 < (x70.length : Int) then ((i_Union.f k x8 (rd_L7 x70 x72)).bind fun bt1197 => ((r3_Union.f k x8 (rd_L7 x70 x72)).bind fun bt1201 => ((i_Intersect.f k x8 (rd_L7 x70 x72)).bind fun bt1205 => ((r3_Intersect.f k x8 (rd_L7 x70 x72)).bind fun bt1209 => ((i_Minus.f k x8 (rd_L7 x70 x72)).bind fun bt1213 => ((r3_Minus.f k x8 (rd_L7 x70 x72)).bind fun bt1217 => ((i_Covers.f k x8 (rd_L7 x70 x72)).bind fun bt1221 => ((r3_Covers.f k x8 (rd_L7 x70 x72)).bind fun bt1223 => (if bt1197.2 = bt1201.2 then (if bt1205.2 = bt1209.2 then (if bt1213.2 = bt1217.2 then (if bt1221.2 = bt1223.2 then (if (bt1221.1 != bt1223.1) = true then (some false) else ((r3_Same.f k bt1197.1 bt1201.1).bind fun t1225 => (if t1225 = true then ((r3_Same.f k bt1205.1 bt1209.1).bind fun t1226 => (if t1226 = true then ((r3_Same.f k bt1213.1 bt1217.1).bind fun t1227 => (if t1227 = true then (l3_IntervalCombines.l1 k x6 x8 x45 x46 x47 x70 x71 (wrap64 (x72 + 1))) else (some false))) else (some false))) else (some false)))) else (some false)) else (some false)) else (some false)) else (some false)))))))))) else (none)) else (none)) else (l3_IntervalCombines.l0 k x6 x45 x46 (wrap64 (x47 + 1)))
end
def l3_IntervalCombines.g (k : Nat) (l0 : List (List (S65))) : Option (Bool) := l3_IntervalCombines.l0 k l0 l0 (l0.length : Int) 0
def l3_IntervalCombines.f (k : Nat) (lc : List Int) (lr : List S65) : Option Bool := (cs_New.f lc 120).bind fun s => (cc_Interval.f k s.1 s.2).bind fun a => (cc_Interval.f k s.1 a.2).bind fun b => (l3_spoilt.f k s.1 b.2).bind fun c => l3_IntervalCombines.g k [a.1, b.1, c.1, lr.take 80]
set_option maxHeartbeats 8000000 in
set_option maxRecDepth 100000 in
theorem l3_IntervalCombines.callsN (k : Nat) (Ac : Option Addr) (cc : Nat) (lc : List Int) (Ar : Option Addr) (cr : Nat) (lr : List S65) (r : Bool) (wA : World) (hrc : Kd.C (Kd.int .u8) wA Ac lc.length lc) (hcc : lc.length ≤ cc) (hrr : Kd.C k65 wA Ar lr.length lr) (hcr : lr.length ≤ cr) (h : l3_IntervalCombines.f k lc lr = some r) (HRT : Aside0 (r = true)) :
  Calls Try.prog 17 #[.slice Ac lc.length cc, .slice Ar lr.length cr] wA fun e w' => e = .returned (.bool r) ∧ ∃ wb, Below wA.heap.size wA wb ∧ Below wb.heap.size wb w' := by
 have HRc := Aside0.mk hrc
 have HCc := Aside0.mk hcc
 have HRr := Aside0.mk hrr
 have HCr := Aside0.mk hcr
 clear hrc hcc hrr hcr
 have HB := aK (Below.refl wA.heap.size wA)
 unfold l3_IntervalCombines.f at h
 obtain ⟨⟨t1, t2⟩, A2_, h2_⟩ := Option.bind_eq_some_iff.mp h
 obtain ⟨⟨q1, p1⟩, A3_, h3_⟩ := Option.bind_eq_some_iff.mp h2_
 obtain ⟨⟨q2, p2⟩, A4_, h4_⟩ := Option.bind_eq_some_iff.mp h3_
 obtain ⟨⟨q3, p3⟩, A5_, h5_⟩ := Option.bind_eq_some_iff.mp h4_
 clear h h2_ h3_ h4_
 have AN := Aside0.mk A2_
 have AQ1 := Aside0.mk A3_
 have AQ2 := Aside0.mk A4_
 have AQ3 := Aside0.mk A5_
 have hm80_ : ∃ m : Nat, m = min lr.length 80 := ⟨_, rfl⟩
 obtain ⟨m, hm⟩ := hm80_
 obtain ⟨lt, hlt_⟩ : ∃ lt, lt = lr.take 80 := ⟨_, rfl⟩
 have hlm : lt.length = m := by rw [hlt_, List.length_take, hm]; omega
 have hmin : (if (80 : Int) < (lr.length : Int) then (80 : Int) else (lr.length : Int)) = (m : Int) := by split <;> omega
 obtain ⟨i0, hi0, _, hsz0, _⟩ := info_parts info65
 have hcut : ∀ W : World, (Instr.slice 36 (.slice Ar lr.length cr) none (some (.int .i64 (m : Int))) none).run Try.prog W = .ok (.slice Ar lt.length cr) W := by
  intro W
  have h_ := cut_to (P := Try.prog) 36 65 .i64 Try.underlying36 hi0 Ar lr.length cr (m : Int) (by omega) (by omega) HCr.out W
  rw [h_, hlm]
  rfl
 have HLM : Aside0 (lt.length ≤ cr) := aK (by rw [hlm]; have h_ := HCr.out; omega)
 have HRT8 : Aside0 (Kd.F k65 wA (fun k_ => k_ < wA.heap.size) Ar lt.length lt) := aK (by
  have q_ := Kd.F_take (m := m) (Kd.C_F k65_heap HRr.out) (by omega)
  have e_ : lr.take m = lt := by
   rw [hlt_]
   rcases Nat.lt_or_ge 80 lr.length with c_ | c_
   ·rw [show m = 80 from by omega]
   ·rw [List.take_of_length_le (by omega : lr.length ≤ m), List.take_of_length_le c_]
  rw [e_] at q_
  exact q_)
 obtain ⟨l0, hl_⟩ : ∃ l0, l0 = [q1, q2, q3, lt] := ⟨_, rfl⟩
 have h : l3_IntervalCombines.g k l0 = some r := by rw [hl_, hlt_]; exact h5_
 have HL0 := Aside0.mk hl_
 have H' : Aside0 (l3_IntervalCombines.l0 k l0 l0 (l0.length : Int) 0 = some r) := ⟨h⟩
 clear h h5_ A2_ A3_ A4_ A5_ hl_ hlt_ hm hlm hi0 hsz0
 have mixed : Try.prog.follows Departure.mixedOrders = true := by kernel_rfl
 go_enter Try.func17, Try.ntmps17
 go_upto_region 2 with (first | ((with_reducible refine gate_callee (f := 18) rfl ?_); refine gL (some 32) rfl Try.func18 #[.slice Ac lc.length cc, .int .i64 120] rfl ?_; (with_reducible refine (cs_New.calls _ _ lc 120 t1 t2 wA _ ?side1 ?side2 ?side3 AN.out).mono ?_); (case side1 => exact bO); (case side2 => exact HRc.out); (case side3 => exact HCc.out); rintro e w3 ⟨g, rfl, ⟨w, BWN, BNW, hIN⟩, hb, hb2⟩; refine ⟨_, rfl, ?_⟩; have HI := Aside0.mk hIN; have HBW := Aside0.mk BWN; have HB1 := Aside0.mk BNW; clear hIN BWN BNW hb hb2 HB))
 refine start_ (n := 13) (S := fun w' => True) (ds := []) #[false, false, false, false, false, false, false, false, false, false, false, false, false] (by kernel_rfl) rfl rfl trivial (fun hHeld => ?_)
 refine pure_ (i := 0) (N := some 33) (v := ?_) (a' := ?_) (tf 1 12) rfl rfl (by kernel_rfl) (fun _ _ _ h => h) (Or.inl ⟨by rfl, ?_⟩) ?_ ?_
 rotate_left
 ·intro w'
  go_simp
  with_reducible rfl
 rotate_left
 ·exact aP
 refine pure_ (i := 2) (N := some 35) (v := ?_) (a' := ?_) #[true, false, true, false, false, false, false, false, false, false, false, false, false] rfl rfl (by kernel_rfl) (fun _ _ _ h => h) (Or.inl ⟨by rfl, ?_⟩) ?_ ?_
 rotate_left
 ·intro w'
  go_simp
  with_reducible rfl
 rotate_left
 ·exact aP
 refine pure_ (i := 4) (N := some 37) (v := ?_) (a' := ?_) #[true, false, true, false, true, false, false, false, false, false, false, false, false] rfl rfl (by kernel_rfl) (fun _ _ _ h => h) (Or.inl ⟨by rfl, ?_⟩) ?_ ?_
 rotate_left
 ·intro w'
  go_simp
  with_reducible rfl
 rotate_left
 ·exact aP
 refine pure_ (i := 6) (N := some 39) (v := ?_) (a' := ?_) #[true, false, true, false, true, false, true, false, false, false, false, false, false] rfl rfl (by kernel_rfl) (fun _ _ _ h => h) (Or.inl ⟨by rfl, ?_⟩) ?_ ?_
 rotate_left
 ·intro w'
  go_simp
  with_reducible rfl
 rotate_left
 ·exact aP
 refine pure_ (i := 7) (N := some 40) (v := ?_) (a' := ?_) #[true, false, true, false, true, false, true, true, false, false, false, false, false] rfl rfl (by kernel_rfl) (fun _ _ _ h => h) (Or.inl ⟨by rfl, ?_⟩) ?_ ?_
 rotate_left
 ·intro w'
  go_simp
  with_reducible rfl
 rotate_left
 ·exact aP
 refine pure_ (i := 8) (N := some 41) (v := ?_) (a' := ?_) #[true, false, true, false, true, false, true, true, true, false, false, false, false] rfl rfl (by kernel_rfl) (fun _ _ _ h => h) (Or.inl ⟨by rfl, ?_⟩) ?_ ?_
 rotate_left
 ·intro w'
  go_simp
  with_reducible rfl
 rotate_left
 ·exact aP
 refine pure_ (i := 9) (N := some 42) (v := ?_) (a' := ?_) #[true, false, true, false, true, false, true, true, true, true, false, false, false] rfl rfl (by kernel_rfl) (fun _ _ _ h => h) (Or.inl ⟨by rfl, ?_⟩) ?_ ?_
 rotate_left
 ·intro w'
  go_simp
  with_reducible rfl
 rotate_left
 ·exact aP
 refine pure_ (i := 10) (N := some 43) (v := ?_) (a' := ?_) #[true, false, true, false, true, false, true, true, true, true, true, false, false] rfl rfl (by kernel_rfl) (fun _ _ _ h => h) (Or.inl ⟨by rfl, ?_⟩) ?_ ?_
 rotate_left
 ·intro w'
  go_simp
  with_reducible rfl
 rotate_left
 ·exact aP
 refine one_ (i := 1) (N := some 34) #[true, true, true, false, true, false, true, true, true, true, true, false, false] rfl rfl (by kernel_rfl) (by decide) (fun K hK => ?_)
 refine goes_ Try.func29 (by kernel_rfl) rfl #[.pointer (some ⟨g, 0, none⟩)] (by rfl) rfl rfl (by (try simp only [List.map_toArray, List.map_cons, List.map_nil]); first | done | rfl | (simp only [List.length_drop, List.length_take]; rfl)) ?_
 with_reducible refine (cc_Interval.calls k g t1 t2 q1 p1 w _ ?side1 ?side2 AQ1.out).mono ?_
 (case side1 => repeat (first | (with_reducible first | exact HI.out | apply IsS75.alloc | apply IsS75.drewN | apply IsS75.drew) | exact HI.out))
 (case side2 => repeat (first | (with_reducible first | exact HB1.out | apply below_alloc | apply pw_below_drewN | apply below_drew1) | exact HB1.out))
 rintro e w4 ⟨v34, rfl, ho, hi, hb, hk⟩
 refine ⟨_, rfl, ?_⟩
 clear HI HB1
 have HO1 := Aside0.mk ho
 have HI := Aside0.mk hi
 have HB1 := Aside0.mk hb
 clear ho hi hb hk
 refine hK.out _ _ trivial (fun hHeld => ?_)
 clear hK K
 refine norm_ (a' := ?_) ?_ ?_
 rotate_left
 ·show Act.put _ (some 34) _ = _
  simp only [Act.put, List.setIfInBounds_toArray, List.set_cons_zero, List.set_cons_succ, i64_w, i32_w]
  rfl
 refine one_ (i := 3) (N := some 36) #[true, true, true, true, true, false, true, true, true, true, true, false, false] rfl rfl (by kernel_rfl) (by decide) (fun K hK => ?_)
 refine goes_ Try.func29 (by kernel_rfl) rfl #[.pointer (some ⟨g, 0, none⟩)] (by rfl) rfl rfl (by (try simp only [List.map_toArray, List.map_cons, List.map_nil]); first | done | rfl | (simp only [List.length_drop, List.length_take]; rfl)) ?_
 with_reducible refine (cc_Interval.calls k g t1 p1 q2 p2 w _ ?side1 ?side2 AQ2.out).mono ?_
 (case side1 => repeat (first | (with_reducible first | exact HI.out | apply IsS75.alloc | apply IsS75.drewN | apply IsS75.drew) | exact HI.out))
 (case side2 => repeat (first | (with_reducible first | exact HB1.out | apply below_alloc | apply pw_below_drewN | apply below_drew1) | exact HB1.out))
 rintro e w5 ⟨v36, rfl, ho, hi, hb, hk⟩
 refine ⟨_, rfl, ?_⟩
 have n0_ := aK (Kd.R_mono (Kd.R_keep (IsS75.apart (show IsS75 w _ g t1 p1 from by repeat (first | (with_reducible first | exact HI.out | apply IsS75.alloc | apply IsS75.drewN | apply IsS75.drew) | exact HI.out)) (rX HO1.out) (by decide)) hk (fun _ h => h.2)) (fun _ h => h.1))
 clear HI HB1 HO1
 have HO2 := Aside0.mk ho
 have HI := Aside0.mk hi
 have HB1 := Aside0.mk hb
 have HO1 := n0_
 clear n0_ ho hi hb hk
 refine hK.out _ _ trivial (fun hHeld => ?_)
 clear hK K
 refine norm_ (a' := ?_) ?_ ?_
 rotate_left
 ·show Act.put _ (some 36) _ = _
  simp only [Act.put, List.setIfInBounds_toArray, List.set_cons_zero, List.set_cons_succ, i64_w, i32_w]
  rfl
 refine one_ (i := 5) (N := some 38) (tf 11 2) rfl rfl (by kernel_rfl) (by decide) (fun K hK => ?_)
 refine goes_ Try.func60 (by kernel_rfl) rfl #[.pointer (some ⟨g, 0, none⟩)] (by rfl) rfl rfl (by (try simp only [List.map_toArray, List.map_cons, List.map_nil]); first | done | rfl | (simp only [List.length_drop, List.length_take]; rfl)) ?_
 with_reducible refine (l3_spoilt.calls k g t1 p2 q3 p3 w _ ?side1 ?side2 AQ3.out).mono ?_
 (case side1 => repeat (first | (with_reducible first | exact HI.out | apply IsS75.alloc | apply IsS75.drewN | apply IsS75.drew) | exact HI.out))
 (case side2 => repeat (first | (with_reducible first | exact HB1.out | apply below_alloc | apply pw_below_drewN | apply below_drew1) | exact HB1.out))
 rintro e w6 ⟨v38, rfl, ho, hi, hb, hk⟩
 refine ⟨_, rfl, ?_⟩
 have n0_ := aK (Kd.R_mono (Kd.R_keep (IsS75.apart (show IsS75 w _ g t1 p2 from by repeat (first | (with_reducible first | exact HI.out | apply IsS75.alloc | apply IsS75.drewN | apply IsS75.drew) | exact HI.out)) (rX HO1.out) (by decide)) hk (fun _ h => h.2)) (fun _ h => h.1))
 have n1_ := aK (Kd.R_mono (Kd.R_keep (IsS75.apart (show IsS75 w _ g t1 p2 from by repeat (first | (with_reducible first | exact HI.out | apply IsS75.alloc | apply IsS75.drewN | apply IsS75.drew) | exact HI.out)) (rX HO2.out) (by decide)) hk (fun _ h => h.2)) (fun _ h => h.1))
 clear HI HB1 HO1 HO2
 have HO3 := Aside0.mk ho
 have HI := Aside0.mk hi
 have HB1 := Aside0.mk hb
 have HO1 := n0_
 have HO2 := n1_
 clear n0_ n1_ ho hi hb hk
 refine hK.out _ _ trivial (fun hHeld => ?_)
 clear hK K
 refine norm_ (a' := ?_) ?_ ?_
 rotate_left
 ·show Act.put _ (some 38) _ = _
  simp only [Act.put, List.setIfInBounds_toArray, List.set_cons_zero, List.set_cons_succ, i64_w, i32_w]
  rfl
 refine one_ (i := 11) (N := some 44) (tf 12 1) rfl rfl (by kernel_rfl) (by decide) (fun K hK => ?_)
 obtain ⟨A34, c34, e_⟩ := Kd.R_slice HO1.out
 subst e_
 obtain ⟨A36, c36, e_⟩ := Kd.R_slice HO2.out
 subst e_
 obtain ⟨A38, c38, e_⟩ := Kd.R_slice HO3.out
 subst e_
 refine Kd.N_lit_step (Kd.slice 65 k65) (w0 := w) w.heap.size 36 ?hw (N' := 44) ?hd (xs := [q1, q2, q3, lt]) (inner := [.slice A34 q1.length c34, .slice A36 q2.length c36, .slice A38 q3.length c38, .slice Ar lt.length cr]) (ok := fun _ => True) (okp := fun _ => True) ?hr ?hp (fun _ _ => trivial) trivial (by repeat (first | (with_reducible first | exact HB1.out | apply below_alloc | apply pw_below_drewN | apply below_drew1) | exact HB1.out)) (below_size (w := w) (by repeat (first | (with_reducible first | exact HB1.out | apply below_alloc | apply pw_below_drewN | apply below_drew1) | exact HB1.out))) (by simp) ?_
 (case hd => rfl)
 (case hw => rfl)
 (case hr => first | (go_simp; done) | (go_simp; rfl))
 (case hp => exact (Reps.one (Kd.FK_slice_mk (Kd.R_reads' HO1.out).2.1 (Kd.R_F HO1.out)) (Reps.one (Kd.FK_slice_mk (Kd.R_reads' HO2.out).2.1 (Kd.R_F HO2.out)) (Reps.one (Kd.FK_slice_mk (Kd.R_reads' HO3.out).2.1 (Kd.R_F HO3.out)) (Reps.one (Kd.FK_slice_mk HLM.out (Kd.F_mono (Kd.F_step HRT8.out (fun k_ hk_ _ => (Below.trans HBW.out (Below.mono HB1.out HBW.out.size)).block k_ hk_)) (fun _ _ => trivial))) (Reps.none _ _))))))
 intro v9_ w7 ho hb hg_ hnew_
 rw [← HL0.out] at ho
 have HOL := Aside0.mk ho
 have HBE := Aside0.mk hb
 clear ho hb hg_ hnew_ HI HB1
 refine hK.out _ _ trivial (fun hHeld => ?_)
 clear hK K
 refine norm_ (a' := ?_) ?_ ?_
 rotate_left
 ·show Act.put _ (some 44) _ = _
  simp only [Act.put, List.setIfInBounds_toArray, List.set_cons_zero, List.set_cons_succ, i64_w, i32_w]
  rfl
 refine pure_ (i := 12) (N := some 6) (v := ?_) (a' := ?_) (tf 13 0) rfl rfl (by kernel_rfl) (fun _ _ _ h => h) (Or.inl ⟨by rfl, ?_⟩) ?_ ?_
 rotate_left
 ·intro w'
  go_simp
  with_reducible rfl
 rotate_left
 ·exact aP
 refine done_ (by kernel_rfl) ?_
 clear AN AQ1 AQ2 AQ3 HRc HCc hmin hcut
 obtain ⟨A0, c0, e_⟩ := Kd.N_slice HOL.out
 subst e_
 have HR0 := aK (Kd.N_reads' HOL.out).2.2
 have HC0 := aK (Kd.N_reads' HOL.out).2.1
 have HBWN : Aside0 (Below wA.heap.size wA w7) := aK (HBW.out.trans (HBE.out.mono HBW.out.size))
 clear HOL HBE HBW HO1 HO2 HO3 HL0 HRT8 HLM HRr HCr
 obtain ⟨w, hw_⟩ : ∃ w, w = w7 := ⟨_, rfl⟩
 subst hw_
 have HB := aK (Below.refl w.heap.size w)
 go_wp2
 go_loopg [47] k (fun kq v47 w' => ∃ (x47_1 : Int), v47 = .int .i64 x47_1 ∧ Aside0 (l3_IntervalCombines.l0 kq l0 l0 (l0.length : Int) x47_1 = some r) ∧ Aside0 (kq ≤ k) ∧ Aside0 (Below w.heap.size w w'))
 case atStart => exact ⟨(0), (by first | rfl | (simp; done) | (simp [*]; done)), H', ⟨Nat.le_refl _⟩, ⟨bO⟩⟩
 case round =>
  clear H'
  try clear c1
  obtain ⟨x47_1, rfl, HA, HK1, HB⟩ := hrel
  cases gk with
  | zero => exact absurd HA.out (by simp [l3_IntervalCombines.l0])
  | succ k1 =>
   have H := HA.out
   clear HA
   simp only [l3_IntervalCombines.l0] at H
   by_cases c2 : x47_1 < (l0.length : Int)
   rotate_left
   ·rw [if_neg c2] at H
    have c2b0 : decide (x47_1 < (l0.length : Int)) = false := decide_eq_false c2
    clear c2
    obtain ⟨t1185, A51, H⟩ := oB H
    try dsimp only at H
    obtain rfl := Option.some.inj H
    go_wp2_with (first | ((with_reducible refine gate_callee (f := 36) rfl ?_); refine gL (some 167) rfl Try.func36 #[] rfl ?_; (with_reducible refine (l3_begun.calls k1  t1185 _ A51.out).mono ?_); rintro e w52 ⟨rfl, hb⟩; refine ⟨_, rfl, ?_⟩; have n0_ := aK (below_step bO hb); clear HB; have HB := n0_; clear n0_; (try clear hb)))
    go_ret
    exact ⟨eW, _, HBWN.out, bO⟩
   rw [if_pos c2] at H
   have c2b0 : decide (x47_1 < (l0.length : Int)) = true := decide_eq_true c2
   clear c2
   by_cases c3 : 0 ≤ x47_1
   rotate_left
   ·rw [if_neg c3] at H
    exact absurd H (by simp)
   rw [if_pos c3] at H
   have c3b0 : decide (0 ≤ x47_1) = true := decide_eq_true c3
   clear c3
   by_cases c4 : x47_1 < (l0.length : Int)
   rotate_left
   ·rw [if_neg c4] at H
    exact absurd H (by simp)
   rw [if_pos c4] at H
   have c4b0 : decide (x47_1 < (l0.length : Int)) = true := decide_eq_true c4
   clear c4
   obtain ⟨⟨t1187, t1188⟩, A5, H⟩ := oB H
   try dsimp only at H
   obtain ⟨⟨t1191, t1192⟩, A6, H⟩ := oB H
   try dsimp only at H
   have HC7 := Aside0.mk H
   clear H
   have p1186 : 0 ≤ (x47_1 : Int) := of_decide_eq_true (aA)
   have q1186 : x47_1 < (l0.length : Int) := of_decide_eq_true (aA)
   obtain ⟨ad1186, A1186_0, c1186_0, e1186, hx1186_0, hl1186_0, hi1186_0⟩ := at_L7 HR0.out x47_1 p1186 q1186
   cases e1186
   replace hx1186_0 := hW HB.out hx1186_0
   have HR1186_0 := Aside0.mk hi1186_0
   have HC1186_0 := Aside0.mk hl1186_0
   clear hi1186_0 hl1186_0
   replace p1186 := eq_true p1186
   replace q1186 := eq_true q1186
   go_upto_region 8 with (first | ((with_reducible refine gate_callee (f := 33) rfl ?_); refine gL (some 53) rfl Try.func33 #[.slice A1186_0 (rd_L7 l0 x47_1).length c1186_0] rfl ?_; (with_reducible refine (i_Complement.calls k1 _ _ (rd_L7 l0 x47_1) t1187 t1188 _ ?side1 ?side2 A5.out).mono ?_); (case side1 => repeat (first | exact (Kd.C_below HR1186_0.out HB.out) | (with_reducible refine Kd.C_alloc ?_ _) | (with_reducible refine Kd.C_drewN ?_ _) | (with_reducible refine Kd.C_drew ?_))); (case side2 => exact HC1186_0.out); rintro e w8 ⟨v1189, rfl, ho0, hb⟩; refine ⟨_, rfl, ?_⟩; have n0_ := aK (Kd.R_lower ho0 (below_size bO)); have n1_ := aK (below_step bO hb); clear HB; have HO1190 := n0_; have HB := n1_; clear n0_ n1_; (try clear hb ho0)) | ((with_reducible refine gate_callee (f := 68) rfl ?_); refine gL (some 58) rfl Try.func68 #[.slice A1186_0 (rd_L7 l0 x47_1).length c1186_0] rfl ?_; (with_reducible refine (r3_Complement.calls k1 _ _ (rd_L7 l0 x47_1) t1191 t1192 _ ?side1 ?side2 A6.out).mono ?_); (case side1 => repeat (first | exact (Kd.C_below HR1186_0.out HB.out) | (with_reducible refine Kd.C_alloc ?_ _) | (with_reducible refine Kd.C_drewN ?_ _) | (with_reducible refine Kd.C_drew ?_))); (case side2 => exact HC1186_0.out); rintro e w9 ⟨v1193, rfl, ho0, hb⟩; refine ⟨_, rfl, ?_⟩; have n0_ := aK (Kd.R_elder' (rX HO1190.out) (Kd.R_base ho0) hb); have n1_ := aK (Kd.R_lower (Kd.R_new' ho0 (Kd.R_lt (rX HO1190.out))) (below_size bO)); have n2_ := aK (below_step bO hb); clear HO1190 HB; have HO1190 := n0_; have HO1194 := n1_; have HB := n2_; clear n0_ n1_ n2_; (try clear hb ho0)))
   (try simp only [Act.put, List.setIfInBounds_toArray, List.set_cons_zero, List.set_cons_succ])
   go_cut [69] (fun v69 wc => ∃ (kq : Nat) (x69_6 : Bool), v69 = .bool x69_6 ∧ Aside0 (l3_IntervalCombines.j1 kq l0 (rd_L7 l0 x47_1) l0 (l0.length : Int) x47_1 x69_6 = some r) ∧ Aside0 (kq ≤ k1) ∧ Aside0 (Below w.heap.size w wc))
   case first =>
    have H := HC7.out
    clear HC7
    by_cases c10 : t1188 = t1192
    rotate_left
    ·rw [if_neg c10] at H
     have c10b0 : (t1188 == t1192) = false := beq_eq_false_iff_ne.mpr c10
     have c10b1 : (t1188 != t1192) = true := bne_iff_ne.mpr c10
     (first | rw [c10b0] | (simp only [i64_w, i32_w]; rw [c10b0]) | skip)
     have H' := Aside0.mk H
     clear H
     go_wp2
     go_meet
     case rel => exact ⟨_, (true), (by first | rfl | (simp; done) | (simp [*]; done)), H', ⟨by have := HK1.out; first | omega | exact Nat.le_refl _⟩, ⟨bO⟩⟩
    rw [if_pos c10] at H
    have c10b0 : (t1188 == t1192) = true := beq_iff_eq.mpr c10
    have c10b1 : (t1188 != t1192) = false := bne_eq_false_iff_eq.mpr c10
    clear c10
    (first | rw [c10b0] | (simp only [i64_w, i32_w]; rw [c10b0]) | skip)
    obtain ⟨t1195, A11, H⟩ := oB H
    try dsimp only at H
    have H' := Aside0.mk H
    clear H
    obtain ⟨Ao12, co12, eo12⟩ := Kd.R_slice HO1190.out
    subst eo12
    obtain ⟨Ao13, co13, eo13⟩ := Kd.R_slice HO1194.out
    subst eo13
    go_wp2_with (first | (go_at_call 40; (with_reducible refine (r3_Same.calls k1 _ _ t1187 _ _ t1191 t1195 _ ?side1 ?side2 ?side3 ?side4 A11.out).mono ?_); (case side1 => exact cX (Kd.R_reads' HO1190.out).2.2); (case side2 => exact (Kd.R_reads' HO1190.out).2.1); (case side3 => exact cX (Kd.R_reads' HO1194.out).2.2); (case side4 => exact (Kd.R_reads' HO1194.out).2.1); rintro e w' ⟨rfl, ⟨nd, rfl⟩⟩))
    go_meet
    case rel => exact ⟨_, (!t1195), (by first | rfl | (simp; done) | (simp [*]; done)), H', ⟨by have := HK1.out; first | omega | exact Nat.le_refl _⟩, ⟨bO⟩⟩
   case rest =>
    clear HC7
    try clear c1
    try clear p1
    try clear q1
    try clear hx1
    try clear c2
    try clear c2b0
    try clear p2
    try clear c3
    try clear c3b0
    try clear c4
    try clear c4b0
    try clear c6
    try clear c10
    try clear c10b0
    try clear c10b1
    try clear c11
    try clear p11
    try clear q11
    try clear hx11
    try clear hx1186_0
    try clear p1186
    try clear q1186
    obtain ⟨kq, x69_6, rfl, HA, HJ6, HB⟩ := hcut
    cases kq with
    | zero => exact absurd HA.out (by simp [l3_IntervalCombines.j1])
    | succ kj6 =>
     have H := HA.out
     clear HA
     simp only [l3_IntervalCombines.j1] at H
     by_cases c14 : x69_6 = true
     rotate_left
     ·replace c14 := Bool.eq_false_iff.mpr c14
      subst c14
      rw [if_neg (show ¬ (false = true) by decide)] at H
      have H' := Aside0.mk H
      clear H
      go_wp2
      go_loopg [72] kj6 (fun kq v72 w' => ∃ (x72_3 : Int), v72 = .int .i64 x72_3 ∧ Aside0 (l3_IntervalCombines.l1 kq l0 (rd_L7 l0 x47_1) l0 (l0.length : Int) x47_1 l0 (l0.length : Int) x72_3 = some r) ∧ Aside0 (kq ≤ kj6) ∧ Aside0 (Below w.heap.size w w'))
      case atStart => exact ⟨(0), (by first | rfl | (simp; done) | (simp [*]; done)), H', ⟨Nat.le_refl _⟩, ⟨bO⟩⟩
      case round =>
       clear H'
       try clear c1
       try clear p1
       try clear q1
       try clear hx1
       try clear c2
       try clear c2b0
       try clear p2
       try clear c3
       try clear c3b0
       try clear c4
       try clear c4b0
       try clear c6
       try clear c10
       try clear c10b0
       try clear c10b1
       try clear c11
       try clear p11
       try clear q11
       try clear hx11
       try clear c14
       try clear hx1186_0
       try clear p1
       try clear p11
       try clear p1186
       try clear p2
       try clear q1
       try clear q11
       try clear q1186
       obtain ⟨x72_3, rfl, HA, HK3, HB⟩ := hrel
       cases gk with
       | zero => exact absurd HA.out (by simp [l3_IntervalCombines.l1])
       | succ k3 =>
        have H := HA.out
        clear HA
        simp only [l3_IntervalCombines.l1] at H
        by_cases c15 : x72_3 < (l0.length : Int)
        rotate_left
        ·rw [if_neg c15] at H
         have c15b0 : decide (x72_3 < (l0.length : Int)) = false := decide_eq_false c15
         clear c15
         have H' := Aside0.mk H
         clear H
         go_wp2
         go_roundg k3
         case measure => have := HK1.out; have := HJ6.out; have := HK3.out; omega
         case rel => exact ⟨(wrap64 (x47_1 + 1)), (by first | rfl | (simp; done) | (simp [*]; done)), H', ⟨by have := HK1.out; have := HJ6.out; have := HK3.out; omega⟩, ⟨bO⟩⟩
        rw [if_pos c15] at H
        have c15b0 : decide (x72_3 < (l0.length : Int)) = true := decide_eq_true c15
        clear c15
        by_cases c16 : 0 ≤ x72_3
        rotate_left
        ·rw [if_neg c16] at H
         exact absurd H (by simp)
        rw [if_pos c16] at H
        have c16b0 : decide (0 ≤ x72_3) = true := decide_eq_true c16
        clear c16
        by_cases c17 : x72_3 < (l0.length : Int)
        rotate_left
        ·rw [if_neg c17] at H
         exact absurd H (by simp)
        rw [if_pos c17] at H
        have c17b0 : decide (x72_3 < (l0.length : Int)) = true := decide_eq_true c17
        clear c17
        obtain ⟨⟨t1197, t1198⟩, A18, H⟩ := oB H
        try dsimp only at H
        obtain ⟨⟨t1201, t1202⟩, A19, H⟩ := oB H
        try dsimp only at H
        obtain ⟨⟨t1205, t1206⟩, A20, H⟩ := oB H
        try dsimp only at H
        obtain ⟨⟨t1209, t1210⟩, A21, H⟩ := oB H
        try dsimp only at H
        obtain ⟨⟨t1213, t1214⟩, A22, H⟩ := oB H
        try dsimp only at H
        obtain ⟨⟨t1217, t1218⟩, A23, H⟩ := oB H
        try dsimp only at H
        obtain ⟨⟨t1221, t1222⟩, A24, H⟩ := oB H
        try dsimp only at H
        obtain ⟨⟨t1223, t1224⟩, A25, H⟩ := oB H
        try dsimp only at H
        by_cases c26 : t1198 = t1202
        rotate_left
        ·rw [if_neg c26] at H
         have c26b0 : (t1198 == t1202) = false := beq_eq_false_iff_ne.mpr c26
         have c26b1 : (t1198 != t1202) = true := bne_iff_ne.mpr c26
         exact absurd (H.trans (congrArg some HRT.out)) (by simp)
        rw [if_pos c26] at H
        have c26b0 : (t1198 == t1202) = true := beq_iff_eq.mpr c26
        have c26b1 : (t1198 != t1202) = false := bne_eq_false_iff_eq.mpr c26
        clear c26
        by_cases c27 : t1206 = t1210
        rotate_left
        ·rw [if_neg c27] at H
         have c27b0 : (t1206 == t1210) = false := beq_eq_false_iff_ne.mpr c27
         have c27b1 : (t1206 != t1210) = true := bne_iff_ne.mpr c27
         exact absurd (H.trans (congrArg some HRT.out)) (by simp)
        rw [if_pos c27] at H
        have c27b0 : (t1206 == t1210) = true := beq_iff_eq.mpr c27
        have c27b1 : (t1206 != t1210) = false := bne_eq_false_iff_eq.mpr c27
        clear c27
        by_cases c28 : t1214 = t1218
        rotate_left
        ·rw [if_neg c28] at H
         have c28b0 : (t1214 == t1218) = false := beq_eq_false_iff_ne.mpr c28
         have c28b1 : (t1214 != t1218) = true := bne_iff_ne.mpr c28
         exact absurd (H.trans (congrArg some HRT.out)) (by simp)
        rw [if_pos c28] at H
        have c28b0 : (t1214 == t1218) = true := beq_iff_eq.mpr c28
        have c28b1 : (t1214 != t1218) = false := bne_eq_false_iff_eq.mpr c28
        clear c28
        by_cases c29 : t1222 = t1224
        rotate_left
        ·rw [if_neg c29] at H
         have c29b0 : (t1222 == t1224) = false := beq_eq_false_iff_ne.mpr c29
         have c29b1 : (t1222 != t1224) = true := bne_iff_ne.mpr c29
         exact absurd (H.trans (congrArg some HRT.out)) (by simp)
        rw [if_pos c29] at H
        have c29b0 : (t1222 == t1224) = true := beq_iff_eq.mpr c29
        have c29b1 : (t1222 != t1224) = false := bne_eq_false_iff_eq.mpr c29
        clear c29
        by_cases c30 : (t1221 != t1223) = true
        rotate_left
        ·rw [if_neg c30] at H
         have c30b0 : (t1221 != t1223) = false := by simpa using c30
         (try (have c30b1 : decide (t1221 = t1223) = true := by simpa using c30))
         (try (have c30b2 : (t1221 == t1223) = true := by simpa using c30))
         clear c30
         obtain ⟨t1225, A31, H⟩ := oB H
         try dsimp only at H
         by_cases c32 : t1225 = true
         rotate_left
         ·replace c32 := Bool.eq_false_iff.mpr c32
          subst c32
          rw [if_neg (show ¬ (false = true) by decide)] at H
          exact absurd (H.trans (congrArg some HRT.out)) (by simp)
         subst c32
         rw [if_pos rfl] at H
         obtain ⟨t1226, A33, H⟩ := oB H
         try dsimp only at H
         by_cases c34 : t1226 = true
         rotate_left
         ·replace c34 := Bool.eq_false_iff.mpr c34
          subst c34
          rw [if_neg (show ¬ (false = true) by decide)] at H
          exact absurd (H.trans (congrArg some HRT.out)) (by simp)
         subst c34
         rw [if_pos rfl] at H
         obtain ⟨t1227, A35, H⟩ := oB H
         try dsimp only at H
         by_cases c36 : t1227 = true
         rotate_left
         ·replace c36 := Bool.eq_false_iff.mpr c36
          subst c36
          rw [if_neg (show ¬ (false = true) by decide)] at H
          exact absurd (H.trans (congrArg some HRT.out)) (by simp)
         subst c36
         rw [if_pos rfl] at H
         have H' := Aside0.mk H
         clear H
         have p1196 : 0 ≤ (x72_3 : Int) := of_decide_eq_true (aA)
         have q1196 : x72_3 < (l0.length : Int) := of_decide_eq_true (aA)
         obtain ⟨ad1196, A1196_0, c1196_0, e1196, hx1196_0, hl1196_0, hi1196_0⟩ := at_L7 HR0.out x72_3 p1196 q1196
         obtain rfl : ad1186 = ad1196 := (by injection e1196)
         replace hx1196_0 := hW HB.out hx1196_0
         have HR1196_0 := Aside0.mk hi1196_0
         have HC1196_0 := Aside0.mk hl1196_0
         clear hi1196_0 hl1196_0
         replace p1196 := eq_true p1196
         replace q1196 := eq_true q1196
         go_wp2_with (first | ((with_reducible refine gate_callee (f := 30) rfl ?_); refine gL (some 79) rfl Try.func30 #[.slice A1186_0 (rd_L7 l0 x47_1).length c1186_0, .slice A1196_0 (rd_L7 l0 x72_3).length c1196_0] rfl ?_; (with_reducible refine (i_Union.calls k3 _ _ (rd_L7 l0 x47_1) _ _ (rd_L7 l0 x72_3) t1197 t1198 _ ?side1 ?side2 ?side3 ?side4 A18.out).mono ?_); (case side1 => repeat (first | exact (Kd.C_below HR1186_0.out HB.out) | (with_reducible refine Kd.C_alloc ?_ _) | (with_reducible refine Kd.C_drewN ?_ _) | (with_reducible refine Kd.C_drew ?_))); (case side2 => exact HC1186_0.out); (case side3 => repeat (first | exact (Kd.C_below HR1196_0.out HB.out) | (with_reducible refine Kd.C_alloc ?_ _) | (with_reducible refine Kd.C_drewN ?_ _) | (with_reducible refine Kd.C_drew ?_))); (case side4 => exact HC1196_0.out); rintro e w37 ⟨v1199, rfl, ho0, hb⟩; refine ⟨_, rfl, ?_⟩; have n0_ := aK (Kd.R_lower ho0 (below_size bO)); have n1_ := aK (below_step bO hb); clear HB; have HO1200 := n0_; have HB := n1_; clear n0_ n1_; (try clear hb ho0)) | ((with_reducible refine gate_callee (f := 69) rfl ?_); refine gL (some 85) rfl Try.func69 #[.slice A1186_0 (rd_L7 l0 x47_1).length c1186_0, .slice A1196_0 (rd_L7 l0 x72_3).length c1196_0] rfl ?_; (with_reducible refine (r3_Union.calls k3 _ _ (rd_L7 l0 x47_1) _ _ (rd_L7 l0 x72_3) t1201 t1202 _ ?side1 ?side2 ?side3 ?side4 A19.out).mono ?_); (case side1 => repeat (first | exact (Kd.C_below HR1186_0.out HB.out) | (with_reducible refine Kd.C_alloc ?_ _) | (with_reducible refine Kd.C_drewN ?_ _) | (with_reducible refine Kd.C_drew ?_))); (case side2 => exact HC1186_0.out); (case side3 => repeat (first | exact (Kd.C_below HR1196_0.out HB.out) | (with_reducible refine Kd.C_alloc ?_ _) | (with_reducible refine Kd.C_drewN ?_ _) | (with_reducible refine Kd.C_drew ?_))); (case side4 => exact HC1196_0.out); rintro e w38 ⟨v1203, rfl, ho0, hb⟩; refine ⟨_, rfl, ?_⟩; have n0_ := aK (Kd.R_elder' (rX HO1200.out) (Kd.R_base ho0) hb); have n1_ := aK (Kd.R_lower (Kd.R_new' ho0 (Kd.R_lt (rX HO1200.out))) (below_size bO)); have n2_ := aK (below_step bO hb); clear HO1200 HB; have HO1200 := n0_; have HO1204 := n1_; have HB := n2_; clear n0_ n1_ n2_; (try clear hb ho0)) | ((with_reducible refine gate_callee (f := 31) rfl ?_); refine gL (some 91) rfl Try.func31 #[.slice A1186_0 (rd_L7 l0 x47_1).length c1186_0, .slice A1196_0 (rd_L7 l0 x72_3).length c1196_0] rfl ?_; (with_reducible refine (i_Intersect.calls k3 _ _ (rd_L7 l0 x47_1) _ _ (rd_L7 l0 x72_3) t1205 t1206 _ ?side1 ?side2 ?side3 ?side4 A20.out).mono ?_); (case side1 => repeat (first | exact (Kd.C_below HR1186_0.out HB.out) | (with_reducible refine Kd.C_alloc ?_ _) | (with_reducible refine Kd.C_drewN ?_ _) | (with_reducible refine Kd.C_drew ?_))); (case side2 => exact HC1186_0.out); (case side3 => repeat (first | exact (Kd.C_below HR1196_0.out HB.out) | (with_reducible refine Kd.C_alloc ?_ _) | (with_reducible refine Kd.C_drewN ?_ _) | (with_reducible refine Kd.C_drew ?_))); (case side4 => exact HC1196_0.out); rintro e w39 ⟨v1207, rfl, ho0, hb⟩; refine ⟨_, rfl, ?_⟩; have n0_ := aK (Kd.R_elder' (rX HO1200.out) (Kd.R_base ho0) hb); have n1_ := aK (Kd.R_elder' (rX HO1204.out) (Kd.R_base ho0) hb); have n2_ := aK (Kd.R_lower (Kd.R_new' (Kd.R_new' ho0 (Kd.R_lt (rX HO1200.out))) (Kd.R_lt (rX HO1204.out))) (below_size bO)); have n3_ := aK (below_step bO hb); clear HO1200 HO1204 HB; have HO1200 := n0_; have HO1204 := n1_; have HO1208 := n2_; have HB := n3_; clear n0_ n1_ n2_ n3_; (try clear hb ho0)) | ((with_reducible refine gate_callee (f := 70) rfl ?_); refine gL (some 97) rfl Try.func70 #[.slice A1186_0 (rd_L7 l0 x47_1).length c1186_0, .slice A1196_0 (rd_L7 l0 x72_3).length c1196_0] rfl ?_; (with_reducible refine (r3_Intersect.calls k3 _ _ (rd_L7 l0 x47_1) _ _ (rd_L7 l0 x72_3) t1209 t1210 _ ?side1 ?side2 ?side3 ?side4 A21.out).mono ?_); (case side1 => repeat (first | exact (Kd.C_below HR1186_0.out HB.out) | (with_reducible refine Kd.C_alloc ?_ _) | (with_reducible refine Kd.C_drewN ?_ _) | (with_reducible refine Kd.C_drew ?_))); (case side2 => exact HC1186_0.out); (case side3 => repeat (first | exact (Kd.C_below HR1196_0.out HB.out) | (with_reducible refine Kd.C_alloc ?_ _) | (with_reducible refine Kd.C_drewN ?_ _) | (with_reducible refine Kd.C_drew ?_))); (case side4 => exact HC1196_0.out); rintro e w40 ⟨v1211, rfl, ho0, hb⟩; refine ⟨_, rfl, ?_⟩; have n0_ := aK (Kd.R_elder' (rX HO1200.out) (Kd.R_base ho0) hb); have n1_ := aK (Kd.R_elder' (rX HO1204.out) (Kd.R_base ho0) hb); have n2_ := aK (Kd.R_elder' (rX HO1208.out) (Kd.R_base ho0) hb); have n3_ := aK (Kd.R_lower (Kd.R_new' (Kd.R_new' (Kd.R_new' ho0 (Kd.R_lt (rX HO1200.out))) (Kd.R_lt (rX HO1204.out))) (Kd.R_lt (rX HO1208.out))) (below_size bO)); have n4_ := aK (below_step bO hb); clear HO1200 HO1204 HO1208 HB; have HO1200 := n0_; have HO1204 := n1_; have HO1208 := n2_; have HO1212 := n3_; have HB := n4_; clear n0_ n1_ n2_ n3_ n4_; (try clear hb ho0)) | ((with_reducible refine gate_callee (f := 32) rfl ?_); refine gL (some 103) rfl Try.func32 #[.slice A1186_0 (rd_L7 l0 x47_1).length c1186_0, .slice A1196_0 (rd_L7 l0 x72_3).length c1196_0] rfl ?_; (with_reducible refine (i_Minus.calls k3 _ _ (rd_L7 l0 x47_1) _ _ (rd_L7 l0 x72_3) t1213 t1214 _ ?side1 ?side2 ?side3 ?side4 A22.out).mono ?_); (case side1 => repeat (first | exact (Kd.C_below HR1186_0.out HB.out) | (with_reducible refine Kd.C_alloc ?_ _) | (with_reducible refine Kd.C_drewN ?_ _) | (with_reducible refine Kd.C_drew ?_))); (case side2 => exact HC1186_0.out); (case side3 => repeat (first | exact (Kd.C_below HR1196_0.out HB.out) | (with_reducible refine Kd.C_alloc ?_ _) | (with_reducible refine Kd.C_drewN ?_ _) | (with_reducible refine Kd.C_drew ?_))); (case side4 => exact HC1196_0.out); rintro e w41 ⟨v1215, rfl, ho0, hb⟩; refine ⟨_, rfl, ?_⟩; have n0_ := aK (Kd.R_elder' (rX HO1200.out) (Kd.R_base ho0) hb); have n1_ := aK (Kd.R_elder' (rX HO1204.out) (Kd.R_base ho0) hb); have n2_ := aK (Kd.R_elder' (rX HO1208.out) (Kd.R_base ho0) hb); have n3_ := aK (Kd.R_elder' (rX HO1212.out) (Kd.R_base ho0) hb); have n4_ := aK (Kd.R_lower (Kd.R_new' (Kd.R_new' (Kd.R_new' (Kd.R_new' ho0 (Kd.R_lt (rX HO1200.out))) (Kd.R_lt (rX HO1204.out))) (Kd.R_lt (rX HO1208.out))) (Kd.R_lt (rX HO1212.out))) (below_size bO)); have n5_ := aK (below_step bO hb); clear HO1200 HO1204 HO1208 HO1212 HB; have HO1200 := n0_; have HO1204 := n1_; have HO1208 := n2_; have HO1212 := n3_; have HO1216 := n4_; have HB := n5_; clear n0_ n1_ n2_ n3_ n4_ n5_; (try clear hb ho0)) | ((with_reducible refine gate_callee (f := 71) rfl ?_); refine gL (some 109) rfl Try.func71 #[.slice A1186_0 (rd_L7 l0 x47_1).length c1186_0, .slice A1196_0 (rd_L7 l0 x72_3).length c1196_0] rfl ?_; (with_reducible refine (r3_Minus.calls k3 _ _ (rd_L7 l0 x47_1) _ _ (rd_L7 l0 x72_3) t1217 t1218 _ ?side1 ?side2 ?side3 ?side4 A23.out).mono ?_); (case side1 => repeat (first | exact (Kd.C_below HR1186_0.out HB.out) | (with_reducible refine Kd.C_alloc ?_ _) | (with_reducible refine Kd.C_drewN ?_ _) | (with_reducible refine Kd.C_drew ?_))); (case side2 => exact HC1186_0.out); (case side3 => repeat (first | exact (Kd.C_below HR1196_0.out HB.out) | (with_reducible refine Kd.C_alloc ?_ _) | (with_reducible refine Kd.C_drewN ?_ _) | (with_reducible refine Kd.C_drew ?_))); (case side4 => exact HC1196_0.out); rintro e w42 ⟨v1219, rfl, ho0, hb⟩; refine ⟨_, rfl, ?_⟩; have n0_ := aK (Kd.R_elder' (rX HO1200.out) (Kd.R_base ho0) hb); have n1_ := aK (Kd.R_elder' (rX HO1204.out) (Kd.R_base ho0) hb); have n2_ := aK (Kd.R_elder' (rX HO1208.out) (Kd.R_base ho0) hb); have n3_ := aK (Kd.R_elder' (rX HO1212.out) (Kd.R_base ho0) hb); have n4_ := aK (Kd.R_elder' (rX HO1216.out) (Kd.R_base ho0) hb); have n5_ := aK (Kd.R_lower (Kd.R_new' (Kd.R_new' (Kd.R_new' (Kd.R_new' (Kd.R_new' ho0 (Kd.R_lt (rX HO1200.out))) (Kd.R_lt (rX HO1204.out))) (Kd.R_lt (rX HO1208.out))) (Kd.R_lt (rX HO1212.out))) (Kd.R_lt (rX HO1216.out))) (below_size bO)); have n6_ := aK (below_step bO hb); clear HO1200 HO1204 HO1208 HO1212 HO1216 HB; have HO1200 := n0_; have HO1204 := n1_; have HO1208 := n2_; have HO1212 := n3_; have HO1216 := n4_; have HO1220 := n5_; have HB := n6_; clear n0_ n1_ n2_ n3_ n4_ n5_ n6_; (try clear hb ho0)) | ((with_reducible refine gate_callee (f := 34) rfl ?_); refine gL (some 115) rfl Try.func34 #[.slice A1186_0 (rd_L7 l0 x47_1).length c1186_0, .slice A1196_0 (rd_L7 l0 x72_3).length c1196_0] rfl ?_; (with_reducible refine (i_Covers.calls k3 _ _ (rd_L7 l0 x47_1) _ _ (rd_L7 l0 x72_3) t1221 t1222 _ ?side1 ?side2 ?side3 ?side4 A24.out).mono ?_); (case side1 => repeat (first | exact (Kd.C_below HR1186_0.out HB.out) | (with_reducible refine Kd.C_alloc ?_ _) | (with_reducible refine Kd.C_drewN ?_ _) | (with_reducible refine Kd.C_drew ?_))); (case side2 => exact HC1186_0.out); (case side3 => repeat (first | exact (Kd.C_below HR1196_0.out HB.out) | (with_reducible refine Kd.C_alloc ?_ _) | (with_reducible refine Kd.C_drewN ?_ _) | (with_reducible refine Kd.C_drew ?_))); (case side4 => exact HC1196_0.out); rintro e w43 ⟨rfl, hb⟩; refine ⟨_, rfl, ?_⟩; have n0_ := aK (Kd.R_below (rX HO1200.out) hb); have n1_ := aK (Kd.R_below (rX HO1204.out) hb); have n2_ := aK (Kd.R_below (rX HO1208.out) hb); have n3_ := aK (Kd.R_below (rX HO1212.out) hb); have n4_ := aK (Kd.R_below (rX HO1216.out) hb); have n5_ := aK (Kd.R_below (rX HO1220.out) hb); have n6_ := aK (below_step bO hb); clear HO1200 HO1204 HO1208 HO1212 HO1216 HO1220 HB; have HO1200 := n0_; have HO1204 := n1_; have HO1208 := n2_; have HO1212 := n3_; have HO1216 := n4_; have HO1220 := n5_; have HB := n6_; clear n0_ n1_ n2_ n3_ n4_ n5_ n6_; (try clear hb)) | ((with_reducible refine gate_callee (f := 72) rfl ?_); refine gL (some 121) rfl Try.func72 #[.slice A1186_0 (rd_L7 l0 x47_1).length c1186_0, .slice A1196_0 (rd_L7 l0 x72_3).length c1196_0] rfl ?_; (with_reducible refine (r3_Covers.calls k3 _ _ (rd_L7 l0 x47_1) _ _ (rd_L7 l0 x72_3) t1223 t1224 _ ?side1 ?side2 ?side3 ?side4 A25.out).mono ?_); (case side1 => repeat (first | exact (Kd.C_below HR1186_0.out HB.out) | (with_reducible refine Kd.C_alloc ?_ _) | (with_reducible refine Kd.C_drewN ?_ _) | (with_reducible refine Kd.C_drew ?_))); (case side2 => exact HC1186_0.out); (case side3 => repeat (first | exact (Kd.C_below HR1196_0.out HB.out) | (with_reducible refine Kd.C_alloc ?_ _) | (with_reducible refine Kd.C_drewN ?_ _) | (with_reducible refine Kd.C_drew ?_))); (case side4 => exact HC1196_0.out); rintro e w44 ⟨rfl, hb⟩; refine ⟨_, rfl, ?_⟩; have n0_ := aK (Kd.R_below (rX HO1200.out) hb); have n1_ := aK (Kd.R_below (rX HO1204.out) hb); have n2_ := aK (Kd.R_below (rX HO1208.out) hb); have n3_ := aK (Kd.R_below (rX HO1212.out) hb); have n4_ := aK (Kd.R_below (rX HO1216.out) hb); have n5_ := aK (Kd.R_below (rX HO1220.out) hb); have n6_ := aK (below_step bO hb); clear HO1200 HO1204 HO1208 HO1212 HO1216 HO1220 HB; have HO1200 := n0_; have HO1204 := n1_; have HO1208 := n2_; have HO1212 := n3_; have HO1216 := n4_; have HO1220 := n5_; have HB := n6_; clear n0_ n1_ n2_ n3_ n4_ n5_ n6_; (try clear hb); obtain ⟨Ao45, co45, eo45⟩ := Kd.R_slice HO1200.out; subst eo45; obtain ⟨Ao46, co46, eo46⟩ := Kd.R_slice HO1204.out; subst eo46) | (go_at_call 40; (with_reducible refine (r3_Same.calls k3 _ _ t1197 _ _ t1201 true _ ?side1 ?side2 ?side3 ?side4 A31.out).mono ?_); (case side1 => exact cX (Kd.R_reads' HO1200.out).2.2); (case side2 => exact (Kd.R_reads' HO1200.out).2.1); (case side3 => exact cX (Kd.R_reads' HO1204.out).2.2); (case side4 => exact (Kd.R_reads' HO1204.out).2.1); rintro e w' ⟨rfl, ⟨nd, rfl⟩⟩; obtain ⟨Ao47, co47, eo47⟩ := Kd.R_slice HO1208.out; subst eo47; obtain ⟨Ao48, co48, eo48⟩ := Kd.R_slice HO1212.out; subst eo48) | (go_at_call 40; (with_reducible refine (r3_Same.calls k3 _ _ t1205 _ _ t1209 true _ ?side1 ?side2 ?side3 ?side4 A33.out).mono ?_); (case side1 => exact cX (Kd.R_reads' HO1208.out).2.2); (case side2 => exact (Kd.R_reads' HO1208.out).2.1); (case side3 => exact cX (Kd.R_reads' HO1212.out).2.2); (case side4 => exact (Kd.R_reads' HO1212.out).2.1); rintro e w' ⟨rfl, ⟨nd, rfl⟩⟩; obtain ⟨Ao49, co49, eo49⟩ := Kd.R_slice HO1216.out; subst eo49; obtain ⟨Ao50, co50, eo50⟩ := Kd.R_slice HO1220.out; subst eo50) | (go_at_call 40; (with_reducible refine (r3_Same.calls k3 _ _ t1213 _ _ t1217 true _ ?side1 ?side2 ?side3 ?side4 A35.out).mono ?_); (case side1 => exact cX (Kd.R_reads' HO1216.out).2.2); (case side2 => exact (Kd.R_reads' HO1216.out).2.1); (case side3 => exact cX (Kd.R_reads' HO1220.out).2.2); (case side4 => exact (Kd.R_reads' HO1220.out).2.1); rintro e w' ⟨rfl, ⟨nd, rfl⟩⟩))
         go_roundg k3
         case measure => have := HK1.out; have := HJ6.out; have := HK3.out; omega
         case rel => exact ⟨(wrap64 (x72_3 + 1)), (by first | rfl | (simp; done) | (simp [*]; done)), H', ⟨by have := HK1.out; have := HJ6.out; have := HK3.out; omega⟩, ⟨bO⟩⟩
        rw [if_pos c30] at H
        have c30b0 : (t1221 != t1223) = true := c30
        (try (have c30b1 : decide (t1221 = t1223) = false := by simpa using c30))
        (try (have c30b2 : (t1221 == t1223) = false := by simpa using c30))
        (try (have c30b3 : ¬ (t1221 = t1223) := by simpa using c30))
        clear c30
        exact absurd (H.trans (congrArg some HRT.out)) (by simp)
     subst c14
     rw [if_pos rfl] at H
     exact absurd (H.trans (congrArg some HRT.out)) (by simp)
theorem l3_IntervalCombines.calls (k : Nat) (Ac : Option Addr) (cc : Nat) (lc : List Int) (Ar : Option Addr) (cr : Nat) (lr : List S65) (r : Bool) (wA : World) (hrc : Kd.C (Kd.int .u8) wA Ac lc.length lc) (hcc : lc.length ≤ cc) (hrr : Kd.C k65 wA Ar lr.length lr) (hcr : lr.length ≤ cr) (h : l3_IntervalCombines.f k lc lr = some r) (HRT : Aside0 (r = true)) :
  Calls Try.prog 17 #[.slice Ac lc.length cc, .slice Ar lr.length cr] wA fun e w' => e = .returned (.bool r) ∧ Below wA.heap.size wA w' :=
 (l3_IntervalCombines.callsN k Ac cc lc Ar cr lr r wA hrc hcc hrr hcr h HRT).mono fun _ _ ⟨he, _, h1, h2⟩ => ⟨he, h1.trans (h2.mono h1.size)⟩
end Go.Proofs.Ytpjcdacnhalclaa.Q
namespace Go.Proofs.Ytpjcdacnhalclaa.Q
open Go.RowKit Go.Proofs.YtpjcdacnhalclaaW.PrintWords Go.Proofs.YtpjcdacnhalclaaW.PrintLast Go.Proofs.YtpjcdacnhalclaaW.PrintMore
attribute [local go_sem] max2_int min2_int max_two min_two max_three min_three max_four min_four
section
open Go.Joins Go.ChangeShapes Go.WideShapes Go.Deep
variable {H : Type} {enc : TypeId × Value → H} {W : World} {base : Nat} {spare : Nat → Bool} {held : Bool}
theorem open_cells3 {P : Program} {t : TypeId} {f0 f1 f2 : Field} {fuel : Nat} {cs : List Value} {x : DataW H × List MemPlace} (hs : P.underlying t = some (.struct #[f0, f1, f2])) (hone : oneCellFields P #[f0, f1, f2] = true) (hC : P.cellsOf t = 3) (h : DataW.trod enc P W base spare held fuel t cs = some x) :
  ∃ v0 v1 v2 y0 y1 y2 n, cs = [v0, v1, v2] ∧ DataW.trod enc P W base spare held n f0.type [v0] = some y0 ∧ DataW.trod enc P W base spare held n f1.type [v1] = some y1 ∧ DataW.trod enc P W base spare held n f2.type [v2] = some y2 := by
 obtain ⟨y0, y1, y2, n, _, hl, h0, h1, h2⟩ := trod_struct3 hs h
 obtain ⟨o0, k0⟩ := hone_of hone 0 f0 rfl
 obtain ⟨o1, k1⟩ := hone_of hone 1 f1 rfl
 obtain ⟨o2, k2⟩ := hone_of hone 2 f2 rfl
 rw [hC] at hl
 match cs, hl with
 | [c0, c1, c2], _ => exact ⟨c0, c1, c2, y0, y1, y2, n, rfl, by simpa [o0, k0] using h0, by simpa [o1, k1] using h1, by simpa [o2, k2] using h2⟩
theorem open_value {fuel : Nat} {cs : List Value} {x : DataW H × List MemPlace} (h : DataW.trod enc Try.prog W base spare held fuel 24 cs = some x) : ∃ y : S24, cs = [.int .i64 y.f0, .int .i64 y.f1, .string y.f2] ∧ -9223372036854775808 ≤ y.f1 ∧ y.f1 ≤ 9223372036854775807 := by
 obtain ⟨v0, v1, v2, y0, y1, y2, n, rfl, h0, h1, h2⟩ := open_cells3 Try.underlying24 (by kernel_rfl) (by kernel_rfl) h
 obtain ⟨a, e0, _, _⟩ := DataW.trod_int Try.underlying3 h0
 obtain ⟨b, e1, _, w1⟩ := DataW.trod_int Try.underlying2 h1
 obtain ⟨c, e2, _, _⟩ := DataW.trod_string Try.underlying9 h2
 injection e0 with e0 _
 injection e1 with e1 _
 injection e2 with e2 _
 subst e0 e1 e2
 exact ⟨⟨a, b, c⟩, rfl, wf_int w1⟩
theorem cells24_ : Try.prog.cellsOf 24 = 3 := by kernel_rfl
end
end Go.Proofs.Ytpjcdacnhalclaa.Q
namespace Go.Proofs.Ytpjcdacnhalclaa.Q
open Go.RowKit Go.Proofs.YtpjcdacnhalclaaW.PrintWords Go.Proofs.YtpjcdacnhalclaaW.PrintLast Go.Proofs.YtpjcdacnhalclaaW.PrintMore
attribute [local go_sem] max2_int min2_int max_two min_two max_three min_three max_four min_four
section
open Go.Joins Go.ChangeShapes Go.WideShapes Go.Deep
variable {H : Type} {enc : TypeId × Value → H} {W : World} {base : Nat} {spare : Nat → Bool} {held : Bool}
theorem cells65_ : Try.prog.cellsOf 65 = 7 := by kernel_rfl
set_option maxRecDepth 100000 in
theorem open_ival {fuel : Nat} {cs : List Value} {x : DataW H × List MemPlace} (h : DataW.trod enc Try.prog W base spare held fuel 65 cs = some x) : ∃ y : S65, cs = [.int .i64 y.f0.f0, .int .i64 y.f0.f1, .string y.f0.f2, .int .i64 y.f1.f0, .int .i64 y.f1.f1, .string y.f1.f2, .bool y.f2] := by
 obtain ⟨y0, y1, y2, n, _, hl, h0, h1, h2⟩ := trod_struct3 Try.underlying65 h
 rw [cells65_] at hl
 match cs, hl with
 | [a, b, c, d, e, f, g], _ =>
  have h0 : DataW.trod enc Try.prog W base spare held n 24 ([a, b, c, d, e, f, g].take (Try.prog.cellsOf 24)) = some y0 := h0
  have h1 : DataW.trod enc Try.prog W base spare held n 24 ([d, e, f, g].take (Try.prog.cellsOf 24)) = some y1 := h1
  have h2 : DataW.trod enc Try.prog W base spare held n 4 ([g].take (Try.prog.cellsOf 4)) = some y2 := h2
  rw [cells24_] at h0 h1
  rw [show Try.prog.cellsOf 4 = 1 by kernel_rfl] at h2
  obtain ⟨u, e0, _⟩ := open_value (cs := [a, b, c]) h0
  obtain ⟨v, e1, _⟩ := open_value (cs := [d, e, f]) h1
  obtain ⟨q, e2, _⟩ := DataW.trod_bool (cs := [g]) Try.underlying4 h2
  simp only [List.cons.injEq, and_true] at e0 e1 e2
  obtain ⟨rfl, rfl, rfl⟩ := e0
  obtain ⟨rfl, rfl, rfl⟩ := e1
  subst e2
  exact ⟨⟨u, v, q⟩, rfl⟩
theorem open_ivals {fuel : Nat} {cs : List Value} {x : DataW H × List MemPlace} (h : DataW.trod enc Try.prog W base spare held fuel 36 cs = some x) : ∃ A c l, cs = [.slice A l.length c] ∧ l.length ≤ c ∧ Kd.C k65 W A l.length l := by
 rcases open_slice Try.underlying36 h with ⟨rfl, _⟩ | ⟨a, len, cap, m, n, D, Pl, rfl, _, hl, hm, hmm, hxd, hi⟩
 ·exact ⟨none, 0, [], rfl, Nat.le_refl _, Kd.C_nil _ _⟩
 ·have hlm : len ≤ m := by rw [hmm]; split <;> omega
  have hx : ∀ i : Nat, i < len → ∃ y : S65, W.cells? base (a.add (i * 7)) 7 = some [.int .i64 y.f0.f0, .int .i64 y.f0.f1, .string y.f0.f2, .int .i64 y.f1.f0, .int .i64 y.f1.f1, .string y.f1.f2, .bool y.f2] := by
   intro i hil
   obtain ⟨cs', hc, ht⟩ := hi i (by omega)
   rw [cells65_] at hc
   obtain ⟨y, rfl⟩ := open_ival ht
   exact ⟨y, hc⟩
  refine ⟨some a, cap, (List.finRange len).map (fun j => (hx j.1 j.2).choose), ?_, ?_, ?_⟩
  ·simp
  ·simpa using hl
  ·refine ⟨by simp, by have := hm; unfold maxLen at this; simp; omega, fun _ => ⟨a, rfl, fun j p hj => ?_⟩⟩
   obtain ⟨hj1, rfl⟩ := List.getElem?_eq_some_iff.1 hj
   have hjl : j < len := by simpa using hj1
   simp only [List.getElem_map, List.getElem_finRange]
   have hs := (hx j hjl).choose_spec
   obtain ⟨_, _, hat⟩ := World.cells?_some hs
   refine ⟨_, rfl, k65_mk _ _, fun i u hu => ?_⟩
   have hi3 : i < 7 := by have := (List.getElem?_eq_some_iff.1 hu).1; simpa using this
   have h1 := hat i hi3
   rw [hu] at h1
   rw [Go.Deep.add_add] at h1
   exact h1
end
end Go.Proofs.Ytpjcdacnhalclaa.Q
