/- A part of a proof: facts of functions that the law calls; conditions stand in each. -/
import Derived.Test.YtpjcdacnhalclaaM12x2
import Derived.Test.YtpjcdacnhalclaaM12x9
import Derived.Test.YtpjcdacnhalclaaM12x8
import Derived.Test.YtpjcdacnhalclaaM12x7
import Derived.Test.YtpjcdacnhalclaaM12x6
import Derived.Test.YtpjcdacnhalclaaM12x10
import Derived.Test.YtpjcdacnhalclaaM12x4
import Derived.Deep.Slices
import Derived.Test.YtpjcdacnhalclaaRows
set_option linter.unusedVariables false
set_option linter.unusedSimpArgs false
namespace Go.Proofs.Ytpjcdacnhalclaa.Q
open Go.RowKit Go.Proofs.YtpjcdacnhalclaaW.PrintWords Go.Proofs.YtpjcdacnhalclaaW.PrintLast Go.Proofs.YtpjcdacnhalclaaW.PrintMore
attribute [local go_sem] max2_int min2_int max_two min_two max_three min_three max_four min_four
def r1_Has.l0 : Nat → List (S24) → List (List (S24)) → Int → Int → Option (Bool)
 | 0, _, _, _, _ => none
 | k + 1, x1, x7, x8, x9 => if x9 < x8 then (if 0 ≤ x9 then (if x9 < (x7.length : Int) then ((r1_CompareRows.f k (rd_L4 x7 x9) x1).bind fun t921 => (if t921 = 0 then (some true) else (r1_Has.l0 k x1 x7 x8 (wrap64 (x9 + 1))))) else (none)) else (none)) else (some false)
def r1_Has.f (k : Nat) (l0 : List (List (S24))) (l1 : List (S24)) : Option (Bool) := r1_Has.l0 k l1 l0 (l0.length : Int) 0
set_option maxHeartbeats 8000000 in
set_option maxRecDepth 100000 in
theorem r1_Has.calls (k : Nat) (A0 : Option Addr) (c0 : Nat) (l0 : List (List (S24))) (A1 : Option Addr) (c1 : Nat) (l1 : List (S24)) (r : Bool) (w : World) (hr0 : Kd.C (Kd.slice 24 k24) w A0 l0.length l0) (hc0 : l0.length ≤ c0) (hr1 : Kd.C k24 w A1 l1.length l1) (hc1 : l1.length ≤ c1) (h : r1_Has.f k l0 l1 = some r) :
  Calls Try.prog 59 #[.slice A0 l0.length c0, .slice A1 l1.length c1] w fun e w' => e = .returned (.bool r) ∧ Below w.heap.size w w' := by
 have HR0 := Aside0.mk hr0
 have HC0 := Aside0.mk hc0
 clear hr0 hc0
 have HR1 := Aside0.mk hr1
 have HC1 := Aside0.mk hc1
 clear hr1 hc1
 have HB := aK (Below.refl w.heap.size w)
 have H : (r1_Has.l0 k l1 l0 (l0.length : Int) 0) = some r := h
 clear h
 have H' := Aside0.mk H
 clear H
 go_enter Try.func59, Try.ntmps59
 go_wp2
 go_loopg [9] k (fun kq v9 w' => ∃ (x9_1 : Int), v9 = .int .i64 x9_1 ∧ Aside0 (r1_Has.l0 kq l1 l0 (l0.length : Int) x9_1 = some r) ∧ Aside0 (kq ≤ k) ∧ Aside0 (Below w.heap.size w w'))
 case atStart => exact ⟨(0), (by first | rfl | (simp; done) | (simp [*]; done)), H', ⟨Nat.le_refl _⟩, ⟨bO⟩⟩
 case round =>
  clear H'
  try clear c1
  try clear p2
  obtain ⟨x9_1, rfl, HA, HK1, HB⟩ := hrel
  cases gk with
  | zero => exact absurd HA.out (by simp [r1_Has.l0])
  | succ k1 =>
   have H := HA.out
   clear HA
   simp only [r1_Has.l0] at H
   by_cases c3 : x9_1 < (l0.length : Int)
   rotate_left
   ·rw [if_neg c3] at H
    have c3b0 : decide (x9_1 < (l0.length : Int)) = false := decide_eq_false c3
    clear c3
    obtain rfl := Option.some.inj H
    go_wp2
    go_ret
    exact ⟨eW, bO⟩
   rw [if_pos c3] at H
   have c3b0 : decide (x9_1 < (l0.length : Int)) = true := decide_eq_true c3
   clear c3
   by_cases c4 : 0 ≤ x9_1
   rotate_left
   ·rw [if_neg c4] at H
    exact absurd H (by simp)
   rw [if_pos c4] at H
   have c4b0 : decide (0 ≤ x9_1) = true := decide_eq_true c4
   clear c4
   by_cases c5 : x9_1 < (l0.length : Int)
   rotate_left
   ·rw [if_neg c5] at H
    exact absurd H (by simp)
   rw [if_pos c5] at H
   have c5b0 : decide (x9_1 < (l0.length : Int)) = true := decide_eq_true c5
   clear c5
   obtain ⟨t921, A6, H⟩ := oB H
   try dsimp only at H
   by_cases c7 : t921 = 0
   rotate_left
   ·rw [if_neg c7] at H
    have c7b0 : (t921 == 0) = false := beq_eq_false_iff_ne.mpr c7
    have c7b1 : (t921 != 0) = true := bne_iff_ne.mpr c7
    have H' := Aside0.mk H
    clear H
    have p920 : 0 ≤ (x9_1 : Int) := of_decide_eq_true (aA)
    have q920 : x9_1 < (l0.length : Int) := of_decide_eq_true (aA)
    obtain ⟨ad920, A920_0, c920_0, e920, hx920_0, hl920_0, hi920_0⟩ := at_L4 HR0.out x9_1 p920 q920
    cases e920
    replace hx920_0 := hW HB.out hx920_0
    have HR920_0 := Aside0.mk hi920_0
    have HC920_0 := Aside0.mk hl920_0
    clear hi920_0 hl920_0
    replace p920 := eq_true p920
    replace q920 := eq_true q920
    go_wp2_with (first | ((with_reducible refine gate_callee (f := 53) rfl ?_); refine gL (some 15) rfl Try.func53 #[.slice A920_0 (rd_L4 l0 x9_1).length c920_0, .slice A1 l1.length c1] rfl ?_; (with_reducible refine (r1_CompareRows.calls k1 _ _ (rd_L4 l0 x9_1) _ _ l1 t921 _ ?side1 ?side2 ?side3 ?side4 A6.out).mono ?_); (case side1 => repeat (first | exact (Kd.C_below HR920_0.out HB.out) | (with_reducible refine Kd.C_alloc ?_ _) | (with_reducible refine Kd.C_drewN ?_ _) | (with_reducible refine Kd.C_drew ?_))); (case side2 => exact HC920_0.out); (case side3 => repeat (first | exact (Kd.C_below HR1.out HB.out) | (with_reducible refine Kd.C_alloc ?_ _) | (with_reducible refine Kd.C_drewN ?_ _) | (with_reducible refine Kd.C_drew ?_))); (case side4 => exact HC1.out); rintro e w9 ⟨rfl, hb⟩; refine ⟨_, rfl, ?_⟩; have n0_ := aK (below_step bO hb); clear HB; have HB := n0_; clear n0_; (try clear hb)))
    go_roundg k1
    case measure => have := HK1.out; omega
    case rel => exact ⟨(wrap64 (x9_1 + 1)), (by first | rfl | (simp; done) | (simp [*]; done)), H', ⟨by have := HK1.out; omega⟩, ⟨bO⟩⟩
   rw [if_pos c7] at H
   have c7b0 : (t921 == 0) = true := beq_iff_eq.mpr c7
   have c7b1 : (t921 != 0) = false := bne_eq_false_iff_eq.mpr c7
   clear c7
   obtain rfl := Option.some.inj H
   have p920 : 0 ≤ (x9_1 : Int) := of_decide_eq_true (aA)
   have q920 : x9_1 < (l0.length : Int) := of_decide_eq_true (aA)
   obtain ⟨ad920, A920_0, c920_0, e920, hx920_0, hl920_0, hi920_0⟩ := at_L4 HR0.out x9_1 p920 q920
   cases e920
   replace hx920_0 := hW HB.out hx920_0
   have HR920_0 := Aside0.mk hi920_0
   have HC920_0 := Aside0.mk hl920_0
   clear hi920_0 hl920_0
   replace p920 := eq_true p920
   replace q920 := eq_true q920
   go_wp2_with (first | ((with_reducible refine gate_callee (f := 53) rfl ?_); refine gL (some 15) rfl Try.func53 #[.slice A920_0 (rd_L4 l0 x9_1).length c920_0, .slice A1 l1.length c1] rfl ?_; (with_reducible refine (r1_CompareRows.calls k1 _ _ (rd_L4 l0 x9_1) _ _ l1 t921 _ ?side1 ?side2 ?side3 ?side4 A6.out).mono ?_); (case side1 => repeat (first | exact (Kd.C_below HR920_0.out HB.out) | (with_reducible refine Kd.C_alloc ?_ _) | (with_reducible refine Kd.C_drewN ?_ _) | (with_reducible refine Kd.C_drew ?_))); (case side2 => exact HC920_0.out); (case side3 => repeat (first | exact (Kd.C_below HR1.out HB.out) | (with_reducible refine Kd.C_alloc ?_ _) | (with_reducible refine Kd.C_drewN ?_ _) | (with_reducible refine Kd.C_drew ?_))); (case side4 => exact HC1.out); rintro e w8 ⟨rfl, hb⟩; refine ⟨_, rfl, ?_⟩; have n0_ := aK (below_step bO hb); clear HB; have HB := n0_; clear n0_; (try clear hb)))
   go_ret
   exact ⟨eW, bO⟩
mutual
def l1_ValueSets.j0 : Nat → List (List (S24)) → List (S24) → List (List (S24)) → Bool → Option (Bool)
 | 0, _, _, _, _ => none
 | k + 1, x1, x2, x8, x37 => if x37 = true then (some false) else (l1_ValueSets.l0 k x1 x2 x8 x1 (x1.length : Int) 0)
def l1_ValueSets.l0 : Nat → List (List (S24)) → List (S24) → List (List (S24)) → List (List (S24)) → Int → Int → Option (Bool)
 | 0, _, _, _, _, _, _ => none
 | k + 1, x1, x2, x8, x38, x39, x40 => if x40 < x39 then (if 0 ≤ x40 then (if x40 < (x38.length : Int) then ((v_Has.f k x8 (rd_L4 x38 x40)).bind fun t935 => (if t935 = true then ((v_Has.f k x1 (rd_L4 x38 x40)).bind fun t936 => (if t936 = true then (l1_ValueSets.l0 k x1 x2 x8 x38 x39 (wrap64 (x40 + 1))) else (some false))) else (some false))) else (none)) else (none)) else ((l1_begun.f k).bind fun t931 => (if t931 = true then ((v_Has.f k x8 x2).bind fun t932 => ((v_Has.f k x1 x2).bind fun t933 => (some (t932 == t933)))) else (some false)))
end
def l1_ValueSets.g (k : Nat) (l0 : List Int) (l1 : List (List (S24))) (l2 : List (S24)) : Option (Bool) := (v_Set.f k l1).bind fun t922 => ((r1_Set.f k l1).bind fun t925 => ((r1_Same.f k t922 t925).bind fun t928 => (if t928 = true then ((v_Has.f k l1 l2).bind fun t929 => ((r1_Has.f k l1 l2).bind fun t930 => (l1_ValueSets.j0 k l1 l2 t922 (t929 != t930)))) else (l1_ValueSets.j0 k l1 l2 t922 true))))
def l1_ValueSets.f (k : Nat) (lc : List Int) (ls : List (List S24)) (l2 : List S24) : Option Bool := (cs_New.f lc 90).bind fun s => (l1_rows.f k s.1 s.2).bind fun q => if q.1.length < 65536 then l1_ValueSets.g k lc (ls.take 8 ++ q.1) l2 else none
set_option maxHeartbeats 8000000 in
set_option maxRecDepth 100000 in
theorem l1_ValueSets.callsN (k : Nat) (Ac : Option Addr) (cc : Nat) (lc : List Int) (As : Option Addr) (cs : Nat) (ls : List (List S24)) (A2 : Option Addr) (c2 : Nat) (l2 : List S24) (r : Bool) (wA : World) (hrc : Kd.C (Kd.int .u8) wA Ac lc.length lc) (hcc : lc.length ≤ cc) (hrs : Kd.C (Kd.slice 24 k24) wA As ls.length ls) (hcs : ls.length ≤ cs) (hr2 : Kd.C k24 wA A2 l2.length l2) (hc2 : l2.length ≤ c2) (h : l1_ValueSets.f k lc ls l2 = some r) (HRT : Aside0 (r = true)) :
  Calls Try.prog 12 #[.slice Ac lc.length cc, .slice As ls.length cs, .slice A2 l2.length c2] wA fun e w' => e = .returned (.bool r) ∧ ∃ wb, Below wA.heap.size wA wb ∧ Below wb.heap.size wb w' := by
 have HRc := Aside0.mk hrc
 have HCc := Aside0.mk hcc
 have HRs := Aside0.mk hrs
 have HCs := Aside0.mk hcs
 clear hrc hcc hrs hcs
 have HRx2 := Aside0.mk hr2
 have HC2 := Aside0.mk hc2
 clear hr2 hc2
 have HB := aK (Below.refl wA.heap.size wA)
 unfold l1_ValueSets.f at h
 obtain ⟨⟨t1, t2⟩, A2_, h⟩ := Option.bind_eq_some_iff.mp h
 obtain ⟨⟨t3, t4⟩, A3_, h⟩ := Option.bind_eq_some_iff.mp h
 have hlt : t3.length < 65536 := by
  rcases Nat.lt_or_ge t3.length 65536 with c | c
  ·exact c
  ·rw [if_neg (Nat.not_lt.2 c)] at h; cases h
 rw [if_pos hlt] at h
 have LT := Aside0.mk hlt
 have AN := Aside0.mk A2_
 have AR := Aside0.mk A3_
 obtain ⟨l1, hl1⟩ : ∃ l1, l1 = ls.take 8 ++ t3 := ⟨_, rfl⟩
 have HG : Aside0 (l1_ValueSets.g k lc l1 l2 = some r) := ⟨by rw [hl1]; exact h⟩
 have HL := Aside0.mk hl1
 clear h hlt A2_ A3_ hl1
 go_enter Try.func12, Try.ntmps12
 go_upto_region 2 with (first | ((with_reducible refine gate_callee (f := 18) rfl ?_); refine gL (some 12) rfl Try.func18 #[.slice Ac lc.length cc, .int .i64 90] rfl ?_; (with_reducible refine (cs_New.calls _ _ lc 90 t1 t2 wA _ ?side1 ?side2 ?side3 AN.out).mono ?_); (case side1 => exact bO); (case side2 => exact HRc.out); (case side3 => exact HCc.out); rintro e w3 ⟨g, rfl, ⟨w, BWN, BNW, hIN⟩, hb, hb2⟩; refine ⟨_, rfl, ?_⟩; have HI := Aside0.mk hIN; have HBW := Aside0.mk BWN; have HB1 := Aside0.mk BNW; clear hIN BWN BNW hb hb2 HB))
 (try simp only [Act.put, List.setIfInBounds_toArray, List.set_cons_zero, List.set_cons_succ])
 have HBS := Aside0.mk HB1.out.size
 have HBA := aK (HBW.out.trans (HB1.out.mono HBW.out.size))
 go_cut [1] (fun v1 wc => ∃ (A1 : Option Addr) (c1 : Nat), v1 = .slice A1 l1.length c1 ∧ Aside0 (Kd.C (Kd.slice 24 k24) wc A1 l1.length l1) ∧ Aside0 (l1.length ≤ c1) ∧ Aside0 (Below wA.heap.size wA wc))
 case first =>
  obtain ⟨i0, hi0, _, hsz0, _⟩ := info_parts info54
  obtain ⟨m, hm⟩ : ∃ m : Nat, m = min ls.length 8 := ⟨_, rfl⟩
  have hm1 : m ≤ ls.length := by omega
  have ht8 : ls.take m = ls.take 8 := by
   rcases Nat.lt_or_ge 8 ls.length with c | c
   ·rw [show m = 8 from by omega]
   ·rw [List.take_of_length_le (by omega : ls.length ≤ m), List.take_of_length_le c]
  have hmin : (if (8 : Int) < (ls.length : Int) then (8 : Int) else (ls.length : Int)) = (m : Int) := by split <;> omega
  obtain ⟨hcut0, _, _⟩ := print_take_of (P := Try.prog) (fun _ : List S24 => (.bool true : Value)) [] 55 54 .i64 Try.underlying55 hi0 hsz0 As cs ls (m : Int) (by omega) (by omega) HCs.out
  have hcut : ∀ W : World, (Instr.slice 55 (.slice As ls.length cs) none (some (.int .i64 (m : Int))) none).run Try.prog W = .ok (.slice As m cs) W := by
   intro W
   rw [hcut0 W]
   congr 2
   rw [List.length_take]
   show min m ls.length = m
   omega
  have HM := Aside0.mk hm1
  have HM8 := aK (show m ≤ 8 by omega)
  have HT8 := Aside0.mk ht8
  clear hcut0 hi0 hsz0 hm hm1 ht8
  go_wp2_with (first | ((with_reducible refine gate_builtin (b := .append) (xs := #[.const (.slice none 0 0), .tmp 17]) rfl ?_); at_builtin; refine Kd.N_append_rows (Kd.slice 24 k24) (w0 := w3) w3.heap.size rfl (.const (.slice none 0 0)) (.tmp 17) 55 54 (.slice none 0 0) 24 rfl Try.underlying55 info54 rfl (by decide) (by omega) (.slice none 0 0) [] (ls.take 8) As _ cs (fun k_ => k_ ≠ g) (fun k_ => k_ < wA.heap.size) rfl rfl (Kd.N_nil _ _ _ _ _) ?aF (fun k_ hk_ => ⟨fun e_ => by have h_ := IsS75.ge HI.out; have h2_ := HBW.out.size; omega, by simp [Value.ownBlock]⟩) (fun k_ hk_ => IsS75.fresh HI.out k_ hk_) (Below.refl _ _) (Nat.le_refl _) (by have h_ := HM8.out; simp only [List.length_nil]; omega) ?_; (case aF => have q := Kd.F_take (m := m) (Kd.F_step (Kd.C_F (Kd.heap_slice 24 k24_heap) HRs.out) (fun k_ hk_ _ => HBA.out.block k_ hk_)) HM.out; rw [show (ls.take m).length = m from (by rw [List.length_take]; have h_ := HM.out; omega), HT8.out] at q; exact q); intro v18 w4 ho hb hg_ hat_; obtain ⟨lx, hlx⟩ : ∃ lx, lx = ls.take 8 := ⟨_, rfl⟩; rw [List.nil_append, ← hlx] at ho; have HX := Aside0.mk hlx; clear hlx; have HO := Aside0.mk ho; have n0_ := aK (IsS75.below HI.out hb); have n1_ := aK (below_step HB1.out hb); clear HI HB1; have HI := n0_; have HB1 := n1_; clear n0_ n1_ ho hb hg_ hat_; obtain ⟨Av, cv, ev⟩ := Kd.N_slice HO.out; subst ev) | ((with_reducible refine gate_callee (f := 51) rfl ?_); refine gL (some 20) rfl Try.func51 #[.pointer (some ⟨g, 0, none⟩)] rfl ?_; (with_reducible refine (l1_rows.calls k g t1 t2 t3 t4 w _ ?side1 ?side2 AR.out).mono ?_); (case side1 => exact HI.out); (case side2 => exact HB1.out); rintro e w5 ⟨v20, rfl, ho, hi, hb, hk⟩; refine ⟨_, rfl, ?_⟩; have HV := aK (Kd.N_lt HO.out); have n0_ := aK (Kd.N_keep HO.out hk (fun _ h_ => h_)); clear HO; have HO := n0_; have HO2 := Aside0.mk ho; have HB2 := Aside0.mk hb; clear n0_ ho hi hb hk HI HB1; obtain ⟨A9, c9, e9⟩ := Kd.N_slice HO2.out; subst e9) | ((with_reducible refine gate_builtin (b := .append) (xs := #[.tmp 18, .tmp 20]) rfl ?_); at_builtin; refine Kd.N_append_rows (Kd.slice 24 k24) (w0 := w) w.heap.size rfl (.tmp 18) (.tmp 20) 55 54 (.slice none 0 0) 24 rfl Try.underlying55 info54 rfl (by decide) (by omega) (.slice Av lx.length cv) lx t3 A9 _ c9 (fun _ => True) (fun k_ => w4.heap.size ≤ k_) rfl rfl ?aO ?aF ?aP (fun _ _ => trivial) ?aB ?aS ?aL ?_; (case aO => exact Kd.N_mono (Kd.N_lower HO.out HBS.out) (fun _ _ => trivial)); (case aF => exact Kd.N_F HO2.out); (case aP => exact fun k_ hk_ => ⟨trivial, fun he => by have h_ := HV.out _ he.symm; omega⟩); (case aB => exact HB2.out); (case aS => exact HB2.out.size); (case aL => have h_ := LT.out; have h2_ : lx.length ≤ 8 := (by rw [HX.out, List.length_take]; omega); show (lx.length + t3.length) * 24 ≤ _; omega); intro v3 w6 ho3 hb hg_ hat_; have HBF := aK (HBW.out.trans (hb.mono HBW.out.size)); rw [HX.out, ← HL.out] at ho3; have HO3 := Aside0.mk ho3; clear ho3 hb hg_ hat_ HO HO2 HB2 HV; obtain ⟨A1, c1, e3⟩ := Kd.N_slice HO3.out; subst e3; have HRF := aK (Kd.N_reads' HO3.out).2.2; have HCF := aK (Kd.N_reads' HO3.out).2.1; clear HO3))
  go_meet
  exact ⟨A1, c1, rfl, HRF, HCF, HBF⟩
 obtain ⟨A1, c1, rfl, HR1, HC1, HBWN⟩ := hcut
 obtain ⟨w, hw_⟩ : ∃ w, w = wc := ⟨_, rfl⟩
 subst hw_
 have HR2 := aK (Kd.C_below HRx2.out HBWN.out)
 clear HRx2 HRc HCc HRs HCs AN AR LT HL HBS HBA HBW HB1 HI
 have HB := aK (Below.refl w.heap.size w)
 have H : ((v_Set.f k l1).bind fun t922 => ((r1_Set.f k l1).bind fun t925 => ((r1_Same.f k t922 t925).bind fun t928 => (if t928 = true then ((v_Has.f k l1 l2).bind fun t929 => ((r1_Has.f k l1 l2).bind fun t930 => (l1_ValueSets.j0 k l1 l2 t922 (t929 != t930)))) else (l1_ValueSets.j0 k l1 l2 t922 true))))) = some r := HG.out
 clear HG
 obtain ⟨t922, A4, H⟩ := oB H
 try dsimp only at H
 have HC5 := Aside0.mk H
 clear H
 go_upto_region 4 with (first | ((with_reducible refine gate_callee (f := 54) rfl ?_); refine gL (some 23) rfl Try.func54 #[.slice A1 l1.length c1] rfl ?_; (with_reducible refine (v_Set.calls k _ _ l1 t922 _ ?side1 ?side2 A4.out).mono ?_); (case side1 => exact cX HR1.out); (case side2 => exact HC1.out); rintro e w6 ⟨v923, rfl, ho0, hb⟩; refine ⟨_, rfl, ?_⟩; have n0_ := aK (Kd.S_lower ho0 (below_size bO)); have n1_ := aK (below_step bO hb); clear HB; have HO924 := n0_; have HB := n1_; clear n0_ n1_; (try clear hb ho0)))
 (try simp only [Act.put, List.setIfInBounds_toArray, List.set_cons_zero, List.set_cons_succ])
 go_cut [37] (fun v37 wc => ∃ (kq : Nat) (x37_4 : Bool), v37 = .bool x37_4 ∧ Aside0 (l1_ValueSets.j0 kq l1 l2 t922 x37_4 = some r) ∧ Aside0 (kq ≤ k) ∧ Aside0 (Kd.S (Kd.slice 24 k24) 54 wc w.heap.size (fun _ => True) v923 t922) ∧ Aside0 (Below w.heap.size w wc))
 case first =>
  have H := HC5.out
  clear HC5
  obtain ⟨t925, A7, H⟩ := oB H
  try dsimp only at H
  obtain ⟨t928, A8, H⟩ := oB H
  try dsimp only at H
  by_cases c9 : t928 = true
  rotate_left
  ·replace c9 := Bool.eq_false_iff.mpr c9
   subst c9
   rw [if_neg (show ¬ (false = true) by decide)] at H
   have H' := Aside0.mk H
   clear H
   go_wp2_with (first | ((with_reducible refine gate_callee (f := 57) rfl ?_); refine gL (some 26) rfl Try.func57 #[.slice A1 l1.length c1] rfl ?_; (with_reducible refine (r1_Set.calls k _ _ l1 t925 _ ?side1 ?side2 A7.out).mono ?_); (case side1 => repeat (first | exact (Kd.C_below HR1.out HB.out) | (with_reducible refine Kd.C_alloc ?_ _) | (with_reducible refine Kd.C_drewN ?_ _) | (with_reducible refine Kd.C_drew ?_))); (case side2 => exact HC1.out); rintro e w18 ⟨v926, rfl, ho0, hb⟩; refine ⟨_, rfl, ?_⟩; have n0_ := aK (Kd.S_elder' (by (with_reducible repeat (first | apply Kd.S_alloc | apply Kd.S_drewN | apply Kd.S_drew)); exact HO924.out) (Kd.S_base ho0) hb); have n1_ := aK (Kd.S_lower (Kd.S_new' ho0 (Kd.S_lt (by (with_reducible repeat (first | apply Kd.S_alloc | apply Kd.S_drewN | apply Kd.S_drew)); exact HO924.out))) (below_size bO)); have n2_ := aK (below_step bO hb); clear HO924 HB; have HO924 := n0_; have HO927 := n1_; have HB := n2_; clear n0_ n1_ n2_; (try clear hb ho0); obtain ⟨Ao19, co19, eo19⟩ := Kd.S_slice HO924.out; subst eo19; obtain ⟨Ao20, co20, eo20⟩ := Kd.S_slice HO927.out; subst eo20) | ((with_reducible refine gate_callee (f := 56) rfl ?_); refine gL (some 27) rfl Try.func56 #[.slice Ao19 t922.length co19, .slice Ao20 t925.length co20] rfl ?_; (with_reducible refine (r1_Same.calls k _ _ t922 _ _ t925 false _ ?side1 ?side2 ?side3 ?side4 A8.out).mono ?_); (case side1 => exact cX (Kd.S_reads' HO924.out).2.2); (case side2 => exact (Kd.S_reads' HO924.out).2.1); (case side3 => exact cX (Kd.S_reads' HO927.out).2.2); (case side4 => exact (Kd.S_reads' HO927.out).2.1); rintro e w21 ⟨rfl, hb⟩; refine ⟨_, rfl, ?_⟩; have n0_ := aK (Kd.S_below (by (with_reducible repeat (first | apply Kd.S_alloc | apply Kd.S_drewN | apply Kd.S_drew)); exact HO924.out) hb); have n1_ := aK (Kd.S_below (by (with_reducible repeat (first | apply Kd.S_alloc | apply Kd.S_drewN | apply Kd.S_drew)); exact HO927.out) hb); have n2_ := aK (below_step bO hb); clear HO924 HO927 HB; have HO924 := n0_; have HO927 := n1_; have HB := n2_; clear n0_ n1_ n2_; (try clear hb)))
   go_meet
   case rel => exact ⟨_, (true), (by first | rfl | (simp; done) | (simp [*]; done)), H', ⟨by first | omega | exact Nat.le_refl _⟩, ⟨by (with_reducible repeat (first | apply Kd.S_alloc | apply Kd.S_drewN | apply Kd.S_drew)); exact Kd.S_mono HO924.out (fun _ hk => trivial)⟩, ⟨bO⟩⟩
  subst c9
  rw [if_pos rfl] at H
  obtain ⟨t929, A10, H⟩ := oB H
  try dsimp only at H
  obtain ⟨t930, A11, H⟩ := oB H
  try dsimp only at H
  have H' := Aside0.mk H
  clear H
  go_wp2_with (first | ((with_reducible refine gate_callee (f := 57) rfl ?_); refine gL (some 26) rfl Try.func57 #[.slice A1 l1.length c1] rfl ?_; (with_reducible refine (r1_Set.calls k _ _ l1 t925 _ ?side1 ?side2 A7.out).mono ?_); (case side1 => repeat (first | exact (Kd.C_below HR1.out HB.out) | (with_reducible refine Kd.C_alloc ?_ _) | (with_reducible refine Kd.C_drewN ?_ _) | (with_reducible refine Kd.C_drew ?_))); (case side2 => exact HC1.out); rintro e w12 ⟨v926, rfl, ho0, hb⟩; refine ⟨_, rfl, ?_⟩; have n0_ := aK (Kd.S_elder' (by (with_reducible repeat (first | apply Kd.S_alloc | apply Kd.S_drewN | apply Kd.S_drew)); exact HO924.out) (Kd.S_base ho0) hb); have n1_ := aK (Kd.S_lower (Kd.S_new' ho0 (Kd.S_lt (by (with_reducible repeat (first | apply Kd.S_alloc | apply Kd.S_drewN | apply Kd.S_drew)); exact HO924.out))) (below_size bO)); have n2_ := aK (below_step bO hb); clear HO924 HB; have HO924 := n0_; have HO927 := n1_; have HB := n2_; clear n0_ n1_ n2_; (try clear hb ho0); obtain ⟨Ao13, co13, eo13⟩ := Kd.S_slice HO924.out; subst eo13; obtain ⟨Ao14, co14, eo14⟩ := Kd.S_slice HO927.out; subst eo14) | ((with_reducible refine gate_callee (f := 56) rfl ?_); refine gL (some 27) rfl Try.func56 #[.slice Ao13 t922.length co13, .slice Ao14 t925.length co14] rfl ?_; (with_reducible refine (r1_Same.calls k _ _ t922 _ _ t925 true _ ?side1 ?side2 ?side3 ?side4 A8.out).mono ?_); (case side1 => exact cX (Kd.S_reads' HO924.out).2.2); (case side2 => exact (Kd.S_reads' HO924.out).2.1); (case side3 => exact cX (Kd.S_reads' HO927.out).2.2); (case side4 => exact (Kd.S_reads' HO927.out).2.1); rintro e w15 ⟨rfl, hb⟩; refine ⟨_, rfl, ?_⟩; have n0_ := aK (Kd.S_below (by (with_reducible repeat (first | apply Kd.S_alloc | apply Kd.S_drewN | apply Kd.S_drew)); exact HO924.out) hb); have n1_ := aK (Kd.S_below (by (with_reducible repeat (first | apply Kd.S_alloc | apply Kd.S_drewN | apply Kd.S_drew)); exact HO927.out) hb); have n2_ := aK (below_step bO hb); clear HO924 HO927 HB; have HO924 := n0_; have HO927 := n1_; have HB := n2_; clear n0_ n1_ n2_; (try clear hb)) | (go_at_call 58; (with_reducible refine (v_Has.calls k _ _ l1 _ _ l2 t929 _ ?side1 ?side2 ?side3 ?side4 A10.out).mono ?_); (case side1 => repeat (first | exact (Kd.C_below HR1.out HB.out) | (with_reducible refine Kd.C_alloc ?_ _) | (with_reducible refine Kd.C_drewN ?_ _) | (with_reducible refine Kd.C_drew ?_))); (case side2 => exact HC1.out); (case side3 => repeat (first | exact (Kd.C_below HR2.out HB.out) | (with_reducible refine Kd.C_alloc ?_ _) | (with_reducible refine Kd.C_drewN ?_ _) | (with_reducible refine Kd.C_drew ?_))); (case side4 => exact HC2.out); rintro e w16 ⟨rfl, hb⟩; have n0_ := aK (Kd.S_below (by (with_reducible repeat (first | apply Kd.S_alloc | apply Kd.S_drewN | apply Kd.S_drew)); exact HO924.out) hb); have n1_ := aK (Kd.S_below (by (with_reducible repeat (first | apply Kd.S_alloc | apply Kd.S_drewN | apply Kd.S_drew)); exact HO927.out) hb); have n2_ := aK (below_step bO hb); clear HO924 HO927 HB; have HO924 := n0_; have HO927 := n1_; have HB := n2_; clear n0_ n1_ n2_; (try clear hb)) | (go_at_call 59; (with_reducible refine (r1_Has.calls k _ _ l1 _ _ l2 t930 _ ?side1 ?side2 ?side3 ?side4 A11.out).mono ?_); (case side1 => repeat (first | exact (Kd.C_below HR1.out HB.out) | (with_reducible refine Kd.C_alloc ?_ _) | (with_reducible refine Kd.C_drewN ?_ _) | (with_reducible refine Kd.C_drew ?_))); (case side2 => exact HC1.out); (case side3 => repeat (first | exact (Kd.C_below HR2.out HB.out) | (with_reducible refine Kd.C_alloc ?_ _) | (with_reducible refine Kd.C_drewN ?_ _) | (with_reducible refine Kd.C_drew ?_))); (case side4 => exact HC2.out); rintro e w17 ⟨rfl, hb⟩; have n0_ := aK (Kd.S_below (by (with_reducible repeat (first | apply Kd.S_alloc | apply Kd.S_drewN | apply Kd.S_drew)); exact HO924.out) hb); have n1_ := aK (Kd.S_below (by (with_reducible repeat (first | apply Kd.S_alloc | apply Kd.S_drewN | apply Kd.S_drew)); exact HO927.out) hb); have n2_ := aK (below_step bO hb); clear HO924 HO927 HB; have HO924 := n0_; have HO927 := n1_; have HB := n2_; clear n0_ n1_ n2_; (try clear hb)))
  go_meet
  case rel => exact ⟨_, ((t929 != t930)), (by first | rfl | (simp; done) | (simp [*]; done)), H', ⟨by first | omega | exact Nat.le_refl _⟩, ⟨by (with_reducible repeat (first | apply Kd.S_alloc | apply Kd.S_drewN | apply Kd.S_drew)); exact Kd.S_mono HO924.out (fun _ hk => trivial)⟩, ⟨bO⟩⟩
 case rest =>
  clear HC5
  try clear c1
  try clear c2
  try clear p2
  try clear c5
  try clear c9
  try clear c12
  obtain ⟨kq, x37_4, rfl, HA, HJ4, HO_8, HB⟩ := hcut
  cases kq with
  | zero => exact absurd HA.out (by simp [l1_ValueSets.j0])
  | succ kj4 =>
   have H := HA.out
   clear HA
   simp only [l1_ValueSets.j0] at H
   by_cases c22 : x37_4 = true
   rotate_left
   ·replace c22 := Bool.eq_false_iff.mpr c22
    subst c22
    rw [if_neg (show ¬ (false = true) by decide)] at H
    have H' := Aside0.mk H
    clear H
    go_wp2
    go_loopg [40] kj4 (fun kq v40 w' => ∃ (x40_2 : Int), v40 = .int .i64 x40_2 ∧ Aside0 (l1_ValueSets.l0 kq l1 l2 t922 l1 (l1.length : Int) x40_2 = some r) ∧ Aside0 (kq ≤ kj4) ∧ Aside0 (Kd.S (Kd.slice 24 k24) 54 w' w.heap.size (fun _ => True) v923 t922) ∧ Aside0 (Below w.heap.size w w'))
    case atStart => exact ⟨(0), (by first | rfl | (simp; done) | (simp [*]; done)), H', ⟨Nat.le_refl _⟩, ⟨by (with_reducible repeat (first | apply Kd.S_alloc | apply Kd.S_drewN | apply Kd.S_drew)); exact HO_8.out⟩, ⟨bO⟩⟩
    case round =>
     clear H'
     try clear c1
     try clear c2
     try clear p2
     try clear c5
     try clear c9
     try clear c12
     try clear c22
     try clear p2
     obtain ⟨x40_2, rfl, HA, HK2, HO_8, HB⟩ := hrel
     cases gk with
     | zero => exact absurd HA.out (by simp [l1_ValueSets.l0])
     | succ k2 =>
      have H := HA.out
      clear HA
      simp only [l1_ValueSets.l0] at H
      by_cases c23 : x40_2 < (l1.length : Int)
      rotate_left
      ·rw [if_neg c23] at H
       have c23b0 : decide (x40_2 < (l1.length : Int)) = false := decide_eq_false c23
       clear c23
       obtain ⟨t931, A33, H⟩ := oB H
       try dsimp only at H
       by_cases c34 : t931 = true
       rotate_left
       ·replace c34 := Bool.eq_false_iff.mpr c34
        subst c34
        rw [if_neg (show ¬ (false = true) by decide)] at H
        exact absurd (H.trans (congrArg some HRT.out)) (by simp)
       subst c34
       rw [if_pos rfl] at H
       obtain ⟨t932, A35, H⟩ := oB H
       try dsimp only at H
       obtain ⟨t933, A36, H⟩ := oB H
       try dsimp only at H
       obtain rfl := Option.some.inj H
       go_wp2_with (first | ((with_reducible refine gate_callee (f := 20) rfl ?_); refine gL (some 55) rfl Try.func20 #[] rfl ?_; (with_reducible refine (l1_begun.calls k2  true _ A33.out).mono ?_); rintro e w37 ⟨rfl, hb⟩; refine ⟨_, rfl, ?_⟩; have n0_ := aK (Kd.S_below (by (with_reducible repeat (first | apply Kd.S_alloc | apply Kd.S_drewN | apply Kd.S_drew)); exact HO_8.out) hb); have n1_ := aK (below_step bO hb); clear HO_8 HB; have HO_8 := n0_; have HB := n1_; clear n0_ n1_; (try clear hb); obtain ⟨Ao38, co38, eo38⟩ := Kd.S_slice HO_8.out; subst eo38) | (go_at_call 58; (with_reducible refine (v_Has.calls k2 _ _ t922 _ _ l2 t932 _ ?side1 ?side2 ?side3 ?side4 A35.out).mono ?_); (case side1 => exact cX (Kd.S_reads' HO_8.out).2.2); (case side2 => exact (Kd.S_reads' HO_8.out).2.1); (case side3 => repeat (first | exact (Kd.C_below HR2.out HB.out) | (with_reducible refine Kd.C_alloc ?_ _) | (with_reducible refine Kd.C_drewN ?_ _) | (with_reducible refine Kd.C_drew ?_))); (case side4 => exact HC2.out); rintro e w39 ⟨rfl, hb⟩; have n0_ := aK (Kd.S_below (by (with_reducible repeat (first | apply Kd.S_alloc | apply Kd.S_drewN | apply Kd.S_drew)); exact HO_8.out) hb); have n1_ := aK (below_step bO hb); clear HO_8 HB; have HO_8 := n0_; have HB := n1_; clear n0_ n1_; (try clear hb)) | (go_at_call 58; (with_reducible refine (v_Has.calls k2 _ _ l1 _ _ l2 t933 _ ?side1 ?side2 ?side3 ?side4 A36.out).mono ?_); (case side1 => repeat (first | exact (Kd.C_below HR1.out HB.out) | (with_reducible refine Kd.C_alloc ?_ _) | (with_reducible refine Kd.C_drewN ?_ _) | (with_reducible refine Kd.C_drew ?_))); (case side2 => exact HC1.out); (case side3 => repeat (first | exact (Kd.C_below HR2.out HB.out) | (with_reducible refine Kd.C_alloc ?_ _) | (with_reducible refine Kd.C_drewN ?_ _) | (with_reducible refine Kd.C_drew ?_))); (case side4 => exact HC2.out); rintro e w40 ⟨rfl, hb⟩; have n0_ := aK (Kd.S_below (by (with_reducible repeat (first | apply Kd.S_alloc | apply Kd.S_drewN | apply Kd.S_drew)); exact HO_8.out) hb); have n1_ := aK (below_step bO hb); clear HO_8 HB; have HO_8 := n0_; have HB := n1_; clear n0_ n1_; (try clear hb)))
       go_ret
       exact ⟨eW, _, HBWN.out, bO⟩
      rw [if_pos c23] at H
      have c23b0 : decide (x40_2 < (l1.length : Int)) = true := decide_eq_true c23
      clear c23
      by_cases c24 : 0 ≤ x40_2
      rotate_left
      ·rw [if_neg c24] at H
       exact absurd H (by simp)
      rw [if_pos c24] at H
      have c24b0 : decide (0 ≤ x40_2) = true := decide_eq_true c24
      clear c24
      by_cases c25 : x40_2 < (l1.length : Int)
      rotate_left
      ·rw [if_neg c25] at H
       exact absurd H (by simp)
      rw [if_pos c25] at H
      have c25b0 : decide (x40_2 < (l1.length : Int)) = true := decide_eq_true c25
      clear c25
      obtain ⟨t935, A26, H⟩ := oB H
      try dsimp only at H
      by_cases c27 : t935 = true
      rotate_left
      ·replace c27 := Bool.eq_false_iff.mpr c27
       subst c27
       rw [if_neg (show ¬ (false = true) by decide)] at H
       exact absurd (H.trans (congrArg some HRT.out)) (by simp)
      subst c27
      rw [if_pos rfl] at H
      obtain ⟨t936, A28, H⟩ := oB H
      try dsimp only at H
      by_cases c29 : t936 = true
      rotate_left
      ·replace c29 := Bool.eq_false_iff.mpr c29
       subst c29
       rw [if_neg (show ¬ (false = true) by decide)] at H
       exact absurd (H.trans (congrArg some HRT.out)) (by simp)
      subst c29
      rw [if_pos rfl] at H
      have H' := Aside0.mk H
      clear H
      have p934 : 0 ≤ (x40_2 : Int) := of_decide_eq_true (aA)
      have q934 : x40_2 < (l1.length : Int) := of_decide_eq_true (aA)
      obtain ⟨ad934, A934_0, c934_0, e934, hx934_0, hl934_0, hi934_0⟩ := at_L4 HR1.out x40_2 p934 q934
      cases e934
      replace hx934_0 := hW HB.out hx934_0
      have HR934_0 := Aside0.mk hi934_0
      have HC934_0 := Aside0.mk hl934_0
      clear hi934_0 hl934_0
      replace p934 := eq_true p934
      replace q934 := eq_true q934
      obtain ⟨Ao30, co30, eo30⟩ := Kd.S_slice HO_8.out
      subst eo30
      go_wp2_with (first | ((with_reducible refine gate_callee (f := 58) rfl ?_); refine gL (some 46) rfl Try.func58 #[.slice Ao30 t922.length co30, .slice A934_0 (rd_L4 l1 x40_2).length c934_0] rfl ?_; (with_reducible refine (v_Has.calls k2 _ _ t922 _ _ (rd_L4 l1 x40_2) true _ ?side1 ?side2 ?side3 ?side4 A26.out).mono ?_); (case side1 => exact cX (Kd.S_reads' HO_8.out).2.2); (case side2 => exact (Kd.S_reads' HO_8.out).2.1); (case side3 => repeat (first | exact (Kd.C_below HR934_0.out HB.out) | (with_reducible refine Kd.C_alloc ?_ _) | (with_reducible refine Kd.C_drewN ?_ _) | (with_reducible refine Kd.C_drew ?_))); (case side4 => exact HC934_0.out); rintro e w31 ⟨rfl, hb⟩; refine ⟨_, rfl, ?_⟩; have n0_ := aK (Kd.S_below (by (with_reducible repeat (first | apply Kd.S_alloc | apply Kd.S_drewN | apply Kd.S_drew)); exact HO_8.out) hb); have n1_ := aK (below_step bO hb); clear HO_8 HB; have HO_8 := n0_; have HB := n1_; clear n0_ n1_; (try clear hb)) | (go_at_call 58; (with_reducible refine (v_Has.calls k2 _ _ l1 _ _ (rd_L4 l1 x40_2) true _ ?side1 ?side2 ?side3 ?side4 A28.out).mono ?_); (case side1 => repeat (first | exact (Kd.C_below HR1.out HB.out) | (with_reducible refine Kd.C_alloc ?_ _) | (with_reducible refine Kd.C_drewN ?_ _) | (with_reducible refine Kd.C_drew ?_))); (case side2 => exact HC1.out); (case side3 => repeat (first | exact (Kd.C_below HR934_0.out HB.out) | (with_reducible refine Kd.C_alloc ?_ _) | (with_reducible refine Kd.C_drewN ?_ _) | (with_reducible refine Kd.C_drew ?_))); (case side4 => exact HC934_0.out); rintro e w32 ⟨rfl, hb⟩; have n0_ := aK (Kd.S_below (by (with_reducible repeat (first | apply Kd.S_alloc | apply Kd.S_drewN | apply Kd.S_drew)); exact HO_8.out) hb); have n1_ := aK (below_step bO hb); clear HO_8 HB; have HO_8 := n0_; have HB := n1_; clear n0_ n1_; (try clear hb)))
      go_roundg k2
      case measure => have := HJ4.out; have := HK2.out; omega
      case rel => exact ⟨(wrap64 (x40_2 + 1)), (by first | rfl | (simp; done) | (simp [*]; done)), H', ⟨by have := HJ4.out; have := HK2.out; omega⟩, ⟨by (with_reducible repeat (first | apply Kd.S_alloc | apply Kd.S_drewN | apply Kd.S_drew)); exact HO_8.out⟩, ⟨bO⟩⟩
   subst c22
   rw [if_pos rfl] at H
   exact absurd (H.trans (congrArg some HRT.out)) (by simp)
theorem l1_ValueSets.calls (k : Nat) (Ac : Option Addr) (cc : Nat) (lc : List Int) (As : Option Addr) (cs : Nat) (ls : List (List S24)) (A2 : Option Addr) (c2 : Nat) (l2 : List S24) (r : Bool) (wA : World) (hrc : Kd.C (Kd.int .u8) wA Ac lc.length lc) (hcc : lc.length ≤ cc) (hrs : Kd.C (Kd.slice 24 k24) wA As ls.length ls) (hcs : ls.length ≤ cs) (hr2 : Kd.C k24 wA A2 l2.length l2) (hc2 : l2.length ≤ c2) (h : l1_ValueSets.f k lc ls l2 = some r) (HRT : Aside0 (r = true)) :
  Calls Try.prog 12 #[.slice Ac lc.length cc, .slice As ls.length cs, .slice A2 l2.length c2] wA fun e w' => e = .returned (.bool r) ∧ Below wA.heap.size wA w' :=
 (l1_ValueSets.callsN k Ac cc lc As cs ls A2 c2 l2 r wA hrc hcc hrs hcs hr2 hc2 h HRT).mono fun _ _ ⟨he, _, h1, h2⟩ => ⟨he, h1.trans (h2.mono h1.size)⟩
end Go.Proofs.Ytpjcdacnhalclaa.Q
namespace Go.Proofs.Ytpjcdacnhalclaa.Q
open Go.RowKit Go.Proofs.YtpjcdacnhalclaaW.PrintWords Go.Proofs.YtpjcdacnhalclaaW.PrintLast Go.Proofs.YtpjcdacnhalclaaW.PrintMore
attribute [local go_sem] max2_int min2_int max_two min_two max_three min_three max_four min_four
section
open Go.Joins Go.ChangeShapes Go.WideShapes Go.Deep
variable {H : Type} {enc : TypeId × Value → H} {W : World} {base : Nat} {spare : Nat → Bool} {held : Bool}
theorem open_cells3 {P : Program} {t : TypeId} {f0 f1 f2 : Field} {fuel : Nat} {cs : List Value} {x : DataW H × List MemPlace} (hs : P.underlying t = some (.struct #[f0, f1, f2])) (hone : oneCellFields P #[f0, f1, f2] = true) (hC : P.cellsOf t = 3) (h : DataW.trod enc P W base spare held fuel t cs = some x) :
  ∃ v0 v1 v2 y0 y1 y2 n, cs = [v0, v1, v2] ∧ DataW.trod enc P W base spare held n f0.type [v0] = some y0 ∧ DataW.trod enc P W base spare held n f1.type [v1] = some y1 ∧ DataW.trod enc P W base spare held n f2.type [v2] = some y2 := by
 obtain ⟨y0, y1, y2, n, _, hl, h0, h1, h2⟩ := trod_struct3 hs h
 obtain ⟨o0, k0⟩ := hone_of hone 0 f0 rfl
 obtain ⟨o1, k1⟩ := hone_of hone 1 f1 rfl
 obtain ⟨o2, k2⟩ := hone_of hone 2 f2 rfl
 rw [hC] at hl
 match cs, hl with
 | [c0, c1, c2], _ => exact ⟨c0, c1, c2, y0, y1, y2, n, rfl, by simpa [o0, k0] using h0, by simpa [o1, k1] using h1, by simpa [o2, k2] using h2⟩
theorem open_value {fuel : Nat} {cs : List Value} {x : DataW H × List MemPlace} (h : DataW.trod enc Try.prog W base spare held fuel 24 cs = some x) : ∃ y : S24, cs = [.int .i64 y.f0, .int .i64 y.f1, .string y.f2] ∧ -9223372036854775808 ≤ y.f1 ∧ y.f1 ≤ 9223372036854775807 := by
 obtain ⟨v0, v1, v2, y0, y1, y2, n, rfl, h0, h1, h2⟩ := open_cells3 Try.underlying24 (by kernel_rfl) (by kernel_rfl) h
 obtain ⟨a, e0, _, _⟩ := DataW.trod_int Try.underlying3 h0
 obtain ⟨b, e1, _, w1⟩ := DataW.trod_int Try.underlying2 h1
 obtain ⟨c, e2, _, _⟩ := DataW.trod_string Try.underlying9 h2
 injection e0 with e0 _
 injection e1 with e1 _
 injection e2 with e2 _
 subst e0 e1 e2
 exact ⟨⟨a, b, c⟩, rfl, wf_int w1⟩
theorem bytes24 : Try.prog.bytesOf 24 = 32 := by kernel_rfl
theorem weights_all {P : Program} {e : TypeId} {d : DataW H} {n : Nat} (hn : n ∈ d.weights P e) : ∀ {ds : List (DataW H)}, d ∈ ds → n ∈ DataW.weightsAll P e ds
 | [], h => by simp at h
 | d0 :: ds, h => by
  rw [DataW.weightsAll, List.mem_append]
  rcases List.mem_cons.1 h with e | e
  ·exact .inl (e ▸ hn)
  ·exact .inr (weights_all hn e)
theorem cells54 : Try.prog.cellsOf 54 = 1 := by kernel_rfl
theorem cells24_ : Try.prog.cellsOf 24 = 3 := by kernel_rfl
theorem open_row {fuel : Nat} {cs : List Value} {x : DataW H × List MemPlace} (h : DataW.trod enc Try.prog W base spare held fuel 54 cs = some x) : ∃ A c l, cs = [.slice A l.length c] ∧ l.length ≤ c ∧ Kd.C k24 W A l.length l ∧ (∀ y ∈ l, -9223372036854775808 ≤ y.f1 ∧ y.f1 ≤ 9223372036854775807) ∧ ∀ B, (∀ n ∈ x.1.weights Try.prog 54, n ≤ B) → l.length * 32 ≤ B := by
 rcases open_slice Try.underlying54 h with ⟨rfl, _⟩ | ⟨a, len, cap, m, n, D, Pl, rfl, _, hl, hm, hmm, hxd, hi⟩
 ·exact ⟨none, 0, [], rfl, Nat.le_refl _, Kd.C_nil _ _, by simp, by simp⟩
 ·have hlm : len ≤ m := by rw [hmm]; split <;> omega
  have hx : ∀ i : Nat, i < len → ∃ y : S24, W.cells? base (a.add (i * 3)) 3 = some [.int .i64 y.f0, .int .i64 y.f1, .string y.f2] ∧ -9223372036854775808 ≤ y.f1 ∧ y.f1 ≤ 9223372036854775807 := by
   intro i hil
   obtain ⟨cs', hc, ht⟩ := hi i (by omega)
   rw [cells24_] at hc
   obtain ⟨y, rfl, hy⟩ := open_value ht
   exact ⟨y, hc, hy⟩
  refine ⟨some a, cap, (List.finRange len).map (fun j => (hx j.1 j.2).choose), ?_, ?_, ?_, ?_, ?_⟩
  ·simp
  ·simpa using hl
  ·refine ⟨by simp, by have := hm; unfold maxLen at this; simp; omega, fun _ => ⟨a, rfl, fun j p hj => ?_⟩⟩
   obtain ⟨hj1, rfl⟩ := List.getElem?_eq_some_iff.1 hj
   have hjl : j < len := by simpa using hj1
   simp only [List.getElem_map, List.getElem_finRange]
   have hs := (hx j hjl).choose_spec.1
   obtain ⟨_, _, hat⟩ := World.cells?_some hs
   refine ⟨_, rfl, k24_mk _ _, fun i u hu => ?_⟩
   have hi3 : i < 3 := by have := (List.getElem?_eq_some_iff.1 hu).1; simpa using this
   have h1 := hat i hi3
   rw [hu] at h1
   rw [Go.Deep.add_add] at h1
   exact h1
  ·intro y hy
   obtain ⟨j, _, rfl⟩ := List.mem_map.1 hy
   exact (hx j.1 j.2).choose_spec.2
  ·intro B hB
   have h1 := hB ((len + (m - len)) * 32) (by rw [hxd]; simp [DataW.weights, Try.underlying54, bytes24])
   simp only [List.length_map, List.length_finRange]
   omega
theorem open_rows {fuel : Nat} {cs : List Value} {x : DataW H × List MemPlace} (h : DataW.trod enc Try.prog W base spare held fuel 55 cs = some x) (hB : ∀ n ∈ x.1.weights Try.prog 55, n ≤ 140737488351232) : ∃ A c l, cs = [.slice A l.length c] ∧ l.length ≤ c ∧ Kd.C (Kd.slice 24 k24) W A l.length l ∧ ∀ r ∈ l, r.length < 4398046511104 := by
 rcases open_slice Try.underlying55 h with ⟨rfl, _⟩ | ⟨a, len, cap, m, n, D, Pl, rfl, _, hl, hm, hmm, hxd, hi⟩
 ·exact ⟨none, 0, [], rfl, Nat.le_refl _, Kd.C_nil _ _, by simp⟩
 ·have hlm : len ≤ m := by rw [hmm]; split <;> omega
  have hx : ∀ i : Nat, i < len → ∃ y : List S24, ∃ A c, W.cells? base (a.add (i * 1)) 1 = some [.slice A y.length c] ∧ y.length ≤ c ∧ Kd.C k24 W A y.length y ∧ y.length < 4398046511104 := by
   intro i hil
   obtain ⟨cs', hc, ht⟩ := hi i (by omega)
   rw [cells54] at hc
   obtain ⟨A, c, l, rfl, h1, h2, _, h3⟩ := open_row ht
   refine ⟨l, A, c, hc, h1, h2, ?_⟩
   have := h3 140737488351232 fun n hn => hB n (by
    rw [hxd]
    simp only [DataW.weights, Try.underlying55, List.mem_cons, List.mem_append]
    exact .inr (.inl (weights_all hn (List.mem_map.2 ⟨i, by simpa using hil, rfl⟩))))
   omega
  refine ⟨some a, cap, (List.finRange len).map (fun j => (hx j.1 j.2).choose), ?_, ?_, ?_, ?_⟩
  ·simp
  ·simpa using hl
  ·refine ⟨by simp, by have := hm; unfold maxLen at this; simp; omega, fun _ => ⟨a, rfl, fun j p hj => ?_⟩⟩
   obtain ⟨hj1, rfl⟩ := List.getElem?_eq_some_iff.1 hj
   have hjl : j < len := by simpa using hj1
   simp only [List.getElem_map, List.getElem_finRange]
   obtain ⟨A, c, hs, h1, h2, _⟩ := (hx j hjl).choose_spec
   obtain ⟨_, _, hat⟩ := World.cells?_some hs
   refine ⟨_, rfl, ⟨A, c, rfl, h1, h2⟩, fun i u hu => ?_⟩
   have hi1 : i < 1 := by have := (List.getElem?_eq_some_iff.1 hu).1; simpa using this
   have h3 := hat i hi1
   rw [hu] at h3
   rw [Go.Deep.add_add] at h3
   exact h3
  ·intro y hy
   obtain ⟨j, _, rfl⟩ := List.mem_map.1 hy
   obtain ⟨A, c, _, _, _, h5⟩ := (hx j.1 j.2).choose_spec
   exact h5
end
end Go.Proofs.Ytpjcdacnhalclaa.Q
namespace Go.Proofs.Ytpjcdacnhalclaa.Q
open Go.RowKit Go.Proofs.YtpjcdacnhalclaaW.PrintWords Go.Proofs.YtpjcdacnhalclaaW.PrintLast Go.Proofs.YtpjcdacnhalclaaW.PrintMore
attribute [local go_sem] max2_int min2_int max_two min_two max_three min_three max_four min_four
theorem cc_Cells.l0_ok (L : List Int) : ∀ (m : Nat) (x : List S24) (i : Int), StOk L i → x.length + m ≤ 1000 → ∃ r j, Ev (fun k => cc_Cells.l0 k m x L i) (r, j) ∧ StOk L j ∧ r.length = x.length + m
 | 0, x, i, h, _ => ⟨x, i, Ev.step (fun k => by rw [cc_Cells.l0, if_neg (by omega)]) (Ev.now _), h, rfl⟩
 | m + 1, x, i, h, hl => by
  obtain ⟨a, b, c, j, e, h2, -, -, -⟩ := cc_Any.ok h
  obtain ⟨r, j', e2, h3, hr⟩ := cc_Cells.l0_ok L m (x ++ [⟨a, b, c⟩]) j h2 (by simp; omega)
  have hw : wrap64 (((m + 1 : Nat) : Int) - 1) = (m : Int) := by unfold wrap64; omega
  refine ⟨r, j', Ev.step (fun k => by rw [cc_Cells.l0, if_pos (by omega), hw]) (Ev.bind e ?_), h3, by rw [hr]; simp; omega⟩
  exact Ev.congr (fun k => if_pos (by omega)) e2
theorem cc_Cells.ok {L : List Int} {i : Int} (h : StOk L i) (n : Int) (h0 : 0 ≤ n) (h1 : n ≤ 100) : ∃ r j, Ev (fun k => cc_Cells.f k L i n) (r, j) ∧ StOk L j ∧ (r.length : Int) ≤ 100 := by
 obtain ⟨m, rfl⟩ := Int.eq_ofNat_of_zero_le h0
 obtain ⟨r, j, e, h2, hr⟩ := cc_Cells.l0_ok L m [] i h (by simp; omega)
 exact ⟨r, j, e, h2, by rw [hr]; simp; omega⟩
theorem rd_L4_mem (x : List (List S24)) (i : Int) (h0 : 0 ≤ i) (h1 : i < x.length) : rd_L4 x i ∈ x := by
 unfold rd_L4
 rw [List.getD_eq_getElem?_getD, List.getElem?_eq_getElem (by omega)]
 exact List.getElem_mem _
theorem l1_rows.l0_ok (L : List Int) : ∀ (m : Nat) (x : List (List S24)) (i : Int), StOk L i → x.length + m ≤ 100 → (∀ r ∈ x, r.length ≤ 100) → ∃ r j, Ev (fun k => l1_rows.l0 k x m L i) (r, j) ∧ StOk L j ∧ r.length ≤ 100 ∧ ∀ q ∈ r, q.length ≤ 100
 | 0, x, i, h, hl, hx => ⟨x, i, Ev.step (fun k => by rw [l1_rows.l0, if_neg (by omega)]) (Ev.now _), h, by omega, hx⟩
 | m + 1, x, i, h, hl, hx => by
  have hw : wrap64 (((m + 1 : Nat) : Int) - 1) = (m : Int) := by unfold wrap64; omega
  obtain ⟨n, j1, e1, h1, n0, -, n3⟩ := cc_Int.ok h 3 (by omega)
  have n3 := n3 (by omega)
  obtain ⟨row, j2, e2, h2, hrow⟩ := cc_Cells.ok h1 n n0 (by omega)
  have more : ∀ (y : List S24) (j : Int), StOk L j → y.length ≤ 100 → ∃ r j', Ev (fun k => if x.length < 5864062014805 then l1_rows.l0 k (x ++ [y]) m L j else none) (r, j') ∧ StOk L j' ∧ r.length ≤ 100 ∧ ∀ q ∈ r, q.length ≤ 100 := by
   intro y j hj hy
   obtain ⟨r, j', e, h3, h4⟩ := l1_rows.l0_ok L m (x ++ [y]) j hj (by simp; omega) (fun q hq => by
    rcases List.mem_append.1 hq with c | c
    ·exact hx q c
    ·simp at c; exact c ▸ hy)
   exact ⟨r, j', Ev.congr (fun k => if_pos (by omega)) e, h3, h4⟩
  have st : ∀ res, Ev (fun k => if (x.length : Int) > 0 then ((cc_Bool.f L j2 3).bind fun bt848 => (if bt848.1 = true then ((cc_Int.f L bt848.2 (x.length : Int)).bind fun bt850 => (if 0 ≤ bt850.1 then (if bt850.1 < (x.length : Int) then (if x.length < 5864062014805 then (l1_rows.l0 k (x ++ [rd_L4 x bt850.1]) m L bt850.2) else (none)) else (none)) else (none))) else (if x.length < 5864062014805 then (l1_rows.l0 k (x ++ [row]) m L bt848.2) else (none)))) else (if x.length < 5864062014805 then (l1_rows.l0 k (x ++ [row]) m L j2) else (none))) res → Ev (fun k => l1_rows.l0 k x ((m + 1 : Nat) : Int) L i) res := by
   intro res hr
   refine Ev.step (fun k => by rw [l1_rows.l0, if_pos (by omega), e1, Option.bind_some, hw]) ?_
   exact Ev.bind e2 hr
  by_cases hx0 : (x.length : Int) > 0
  ·obtain ⟨b, j3, e3, h3⟩ := cc_Bool.ok h2 3 (by omega) (by omega)
   by_cases hb : b = true
   ·obtain ⟨n', j4, e4, h4, p0, -, p1⟩ := cc_Int.ok h3 (x.length : Int) (by omega)
    have p1 := p1 (by omega)
    obtain ⟨r, j', e, h5⟩ := more (rd_L4 x n') j4 h4 (hx _ (rd_L4_mem x n' p0 p1))
    refine ⟨r, j', st _ (Ev.congr (fun k => ?_) e), h5⟩
    rw [if_pos hx0, e3, Option.bind_some, if_pos hb, e4, Option.bind_some, if_pos p0, if_pos p1]
   ·obtain ⟨r, j', e, h5⟩ := more row j3 h3 (by omega)
    refine ⟨r, j', st _ (Ev.congr (fun k => ?_) e), h5⟩
    rw [if_pos hx0, e3, Option.bind_some, if_neg hb]
  ·obtain ⟨r, j', e, h5⟩ := more row j2 h2 (by omega)
   refine ⟨r, j', st _ (Ev.congr (fun k => ?_) e), h5⟩
   rw [if_neg hx0]
theorem l1_rows.ok {L : List Int} {i : Int} (h : StOk L i) : ∃ r j, Ev (fun k => l1_rows.f k L i) (r, j) ∧ StOk L j ∧ r.length ≤ 100 ∧ ∀ q ∈ r, q.length ≤ 100 := by
 obtain ⟨n, j, e, h2, n0, -, n7⟩ := cc_Int.ok h 7 (by omega)
 have n7 := n7 (by omega)
 obtain ⟨m, rfl⟩ := Int.eq_ofNat_of_zero_le n0
 obtain ⟨r, j', e2, h3⟩ := l1_rows.l0_ok L m [] j h2 (by simp; omega) (by simp)
 refine ⟨r, j', ?_, h3⟩
 unfold l1_rows.f
 rw [e]
 exact e2
theorem v_CompareRows.ev (x y : List S24) (hx : x.length ≤ 9223372036854775807) : Ev (fun k => v_CompareRows.f k x y) (cmpL x y) := ⟨2 * x.length + 2, fun k hk => v_CompareRows.some_ x y hx k hk⟩
theorem ded_mem : ∀ (l : List (List S24)) (o : Option (List S24)) (v : List S24), v ∈ ded o l → v ∈ l
 | [], _, _, h => by simp [ded] at h
 | x :: l, none, v, h => by
  rw [ded] at h
  rcases List.mem_cons.1 h with e | e
  ·exact e ▸ List.mem_cons.2 (.inl rfl)
  ·exact List.mem_cons.2 (.inr (ded_mem l _ v e))
 | x :: l, some p, v, h => by
  rw [ded] at h
  split at h
  ·exact List.mem_cons.2 (.inr (ded_mem l _ v h))
  ·rcases List.mem_cons.1 h with e | e
   ·exact e ▸ List.mem_cons.2 (.inl rfl)
   ·exact List.mem_cons.2 (.inr (ded_mem l _ v e))
theorem mem_ded : ∀ (l : List (List S24)) (o : Option (List S24)) (v : List S24), v ∈ l → v ∈ ded o l ∨ o = some v
 | [], _, _, h => by simp at h
 | x :: l, none, v, h => by
  rw [ded]
  rcases List.mem_cons.1 h with e | e
  ·exact .inl (e ▸ List.mem_cons.2 (.inl rfl))
  ·rcases mem_ded l (some x) v e with c | c
   ·exact .inl (List.mem_cons.2 (.inr c))
   ·injection c with c
    exact .inl (c ▸ List.mem_cons.2 (.inl rfl))
 | x :: l, some p, v, h => by
  rw [ded]
  by_cases hc : cmpL p x = 0
  ·rw [if_pos hc]
   have hpx := cmpL_zero.1 hc
   rcases List.mem_cons.1 h with e | e
   ·exact .inr (by rw [e, hpx])
   ·rcases mem_ded l (some x) v e with c | c
    ·exact .inl c
    ·exact .inr (by rw [hpx]; exact c)
  ·rw [if_neg hc]
   rcases List.mem_cons.1 h with e | e
   ·exact .inl (e ▸ List.mem_cons.2 (.inl rfl))
   ·rcases mem_ded l (some x) v e with c | c
    ·exact .inl (List.mem_cons.2 (.inr c))
    ·injection c with c
     exact .inl (c ▸ List.mem_cons.2 (.inl rfl))
theorem setOf_mem (l : List (List S24)) (v : List S24) : v ∈ setOf l ↔ v ∈ l := by
 unfold setOf
 constructor
 ·intro h
  exact List.mem_mergeSort.1 (ded_mem _ _ _ h)
 ·intro h
  rcases mem_ded _ none v (List.mem_mergeSort.2 h) with c | c
  ·exact c
  ·cases c
theorem setOf_len (l : List (List S24)) : (setOf l).length ≤ l.length := by
 unfold setOf
 rw [← List.length_mergeSort (le := leL) l]
 exact ded_len _ _
theorem rd_L4_at (x : List (List S24)) (i : Nat) (h : i < x.length) : rd_L4 x (i : Int) = x[i] := by
 unfold rd_L4
 rw [List.getD_eq_getElem?_getD, Int.toNat_natCast, List.getElem?_eq_getElem h]
 rfl
def hasB (l : List (List S24)) (v : List S24) : Bool := l.any fun x => cmpL x v == 0
theorem hasB_iff {l : List (List S24)} {v : List S24} : hasB l v = true ↔ v ∈ l := by
 unfold hasB
 rw [List.any_eq_true]
 constructor
 ·rintro ⟨x, hx, h⟩
  exact cmpL_zero.1 (eq_of_beq h) ▸ hx
 ·exact fun h => ⟨v, h, by rw [cmpL_self]; rfl⟩
theorem v_Has.l0_ev (l : List (List S24)) (hl : l.length < 4611686018427387904) (hr : ∀ r ∈ l, r.length ≤ 9223372036854775807) (v : List S24) : ∀ (m i : Nat), l.length - i = m → i ≤ l.length → Ev (fun k => v_Has.l0 k v l l.length i) (hasB (l.drop i) v) := by
 intro m
 induction m with
 | zero =>
  intro i hm hi
  rw [List.drop_eq_nil_iff.2 (by omega : l.length ≤ i), show hasB [] v = false from rfl]
  exact Ev.step (fun k => by rw [v_Has.l0, if_neg (by omega)]) (Ev.now _)
 | succ m ih =>
  intro i hm hi
  have hil : i < l.length := by omega
  have hw : wrap64 ((i : Int) + 1) = ((i + 1 : Nat) : Int) := wrap64_succ (by omega)
  have hd : hasB (l.drop i) v = ((cmpL l[i] v == 0) || hasB (l.drop (i + 1)) v) := by rw [List.drop_eq_getElem_cons hil]; rfl
  rw [hd]
  refine Ev.step (fun k => by rw [v_Has.l0, if_pos (by omega), if_pos (by omega), if_pos (by omega), rd_L4_at l i hil, hw]) ?_
  refine Ev.bind (v_CompareRows.ev l[i] v (hr _ (List.getElem_mem hil))) ?_
  by_cases hc : cmpL l[i] v = 0
  ·simp only [hc, if_true, beq_self_eq_true, Bool.true_or]
   exact Ev.now _
  ·rw [beq_eq_false_iff_ne.2 hc, Bool.false_or]
   exact Ev.congr (fun k => if_neg hc) (ih (i + 1) (by omega) (by omega))
theorem v_Has.ev (l : List (List S24)) (hl : l.length < 4611686018427387904) (hr : ∀ r ∈ l, r.length ≤ 9223372036854775807) (v : List S24) : Ev (fun k => v_Has.f k l v) (hasB l v) := v_Has.l0_ev l hl hr v l.length 0 rfl (Nat.zero_le _)
theorem r1_Has.l0_ev (l : List (List S24)) (hl : l.length < 4611686018427387904) (hr : ∀ r ∈ l, r.length ≤ 9223372036854775807) (v : List S24) : ∀ (m i : Nat), l.length - i = m → i ≤ l.length → Ev (fun k => r1_Has.l0 k v l l.length i) (hasB (l.drop i) v) := by
 intro m
 induction m with
 | zero =>
  intro i hm hi
  rw [List.drop_eq_nil_iff.2 (by omega : l.length ≤ i), show hasB [] v = false from rfl]
  exact Ev.step (fun k => by rw [r1_Has.l0, if_neg (by omega)]) (Ev.now _)
 | succ m ih =>
  intro i hm hi
  have hil : i < l.length := by omega
  have hw : wrap64 ((i : Int) + 1) = ((i + 1 : Nat) : Int) := wrap64_succ (by omega)
  have hd : hasB (l.drop i) v = ((cmpL l[i] v == 0) || hasB (l.drop (i + 1)) v) := by rw [List.drop_eq_getElem_cons hil]; rfl
  rw [hd]
  refine Ev.step (fun k => by rw [r1_Has.l0, if_pos (by omega), if_pos (by omega), if_pos (by omega), rd_L4_at l i hil, hw]) ?_
  refine Ev.bind (r1_CompareRows.ev l[i] v (hr _ (List.getElem_mem hil))) ?_
  by_cases hc : cmpL l[i] v = 0
  ·simp only [hc, if_true, beq_self_eq_true, Bool.true_or]
   exact Ev.now _
  ·rw [beq_eq_false_iff_ne.2 hc, Bool.false_or]
   exact Ev.congr (fun k => if_neg hc) (ih (i + 1) (by omega) (by omega))
theorem r1_Has.ev (l : List (List S24)) (hl : l.length < 4611686018427387904) (hr : ∀ r ∈ l, r.length ≤ 9223372036854775807) (v : List S24) : Ev (fun k => r1_Has.f k l v) (hasB l v) := r1_Has.l0_ev l hl hr v l.length 0 rfl (Nat.zero_le _)
theorem r1_Same.l0_ev (l : List (List S24)) (hl : l.length < 4611686018427387904) (hr : ∀ r ∈ l, r.length ≤ 9223372036854775807) : ∀ (m i : Nat), l.length - i = m → i ≤ l.length → Ev (fun k => r1_Same.l0 k l l l.length i) true := by
 intro m
 induction m with
 | zero =>
  intro i hm hi
  exact Ev.step (fun k => by rw [r1_Same.l0, if_neg (by omega)]) (Ev.now _)
 | succ m ih =>
  intro i hm hi
  have hil : i < l.length := by omega
  have hw : wrap64 ((i : Int) + 1) = ((i + 1 : Nat) : Int) := wrap64_succ (by omega)
  refine Ev.step (fun k => by rw [r1_Same.l0, if_pos (by omega), if_pos (by omega), if_pos (by omega), if_pos (by omega), rd_L4_at l i hil, hw]) ?_
  refine Ev.bind (r1_CompareRows.ev l[i] l[i] (hr _ (List.getElem_mem hil))) ?_
  exact Ev.congr (fun k => if_pos (cmpL_self _)) (ih (i + 1) (by omega) (by omega))
theorem r1_Same.self (l : List (List S24)) (hl : l.length < 4611686018427387904) (hr : ∀ r ∈ l, r.length ≤ 9223372036854775807) : Ev (fun k => r1_Same.f k l l) true := by
 unfold r1_Same.f
 exact Ev.congr (fun k => if_pos rfl) (r1_Same.l0_ev l hl hr l.length 0 rfl (Nat.zero_le _))
structure OkR (l : List (List S24)) : Prop where
 len : l.length < 65536
 row : ∀ r ∈ l, r.length < 4398046511104
theorem OkR.ok {l : List (List S24)} (h : OkR l) : okRows l = true := by
 unfold okRows
 rw [Bool.and_eq_true]
 exact ⟨decide_eq_true h.len, List.all_eq_true.2 fun r hr => decide_eq_true (h.row r hr)⟩
theorem OkR.set {l : List (List S24)} (h : OkR l) : OkR (setOf l) := ⟨Nat.lt_of_le_of_lt (setOf_len l) h.len, fun r hr => h.row r ((setOf_mem l r).1 hr)⟩
theorem OkR.big {l : List (List S24)} (h : OkR l) : ∀ r ∈ l, r.length ≤ 9223372036854775807 := fun r hr => by have := h.row r hr; omega
theorem OkR.small {l : List (List S24)} (h : OkR l) : l.length < 4611686018427387904 := by have := h.len; omega
theorem v_Set.ev {l : List (List S24)} (h : OkR l) : Ev (fun k => v_Set.f k l) (setOf l) := Ev.congr (fun k => by unfold v_Set.f; rw [if_pos h.ok]) (Ev.now _)
theorem r1_Set.ev {l : List (List S24)} (h : OkR l) : Ev (fun k => r1_Set.f k l) (setOf l) := Ev.congr (fun k => by unfold r1_Set.f; rw [if_pos h.ok]) (Ev.now _)
theorem made_ok {ls L : List (List S24)} (h1 : ∀ r ∈ ls, r.length < 4398046511104) (h2 : L.length ≤ 100) (h3 : ∀ q ∈ L, q.length ≤ 100) : OkR (ls.take 8 ++ L) where
 len := by rw [List.length_append, List.length_take]; omega
 row := fun r hr => by
  rcases List.mem_append.1 hr with c | c
  ·exact h1 r (List.mem_of_mem_take c)
  ·have := h3 r c; omega
theorem l1_ValueSets.l0_ev {l : List (List S24)} (h : OkR l) (v : List S24) : ∀ (m i : Nat), l.length - i = m → i ≤ l.length → Ev (fun k => l1_ValueSets.l0 k l v (setOf l) l l.length i) true := by
 intro m
 induction m with
 | zero =>
  intro i hm hi
  refine Ev.step (fun k => by rw [l1_ValueSets.l0, if_neg (by omega)]) ?_
  refine Ev.bind l1_begun.ev ?_
  simp only [if_true]
  refine Ev.bind (v_Has.ev _ h.set.small h.set.big v) ?_
  refine Ev.bind (v_Has.ev _ h.small h.big v) ?_
  have : hasB (setOf l) v = hasB l v := by rw [Bool.eq_iff_iff, hasB_iff, hasB_iff, setOf_mem]
  rw [this, beq_self_eq_true]
  exact Ev.now _
 | succ m ih =>
  intro i hm hi
  have hil : i < l.length := by omega
  have hsm := h.small
  have hw : wrap64 ((i : Int) + 1) = ((i + 1 : Nat) : Int) := wrap64_succ (by omega)
  refine Ev.step (fun k => by rw [l1_ValueSets.l0, if_pos (by omega), if_pos (by omega), if_pos (by omega), rd_L4_at l i hil, hw]) ?_
  have hm1 : l[i] ∈ l := List.getElem_mem hil
  refine Ev.bind (v_Has.ev _ h.set.small h.set.big l[i]) ?_
  simp only [hasB_iff.2 ((setOf_mem l _).2 hm1), if_true]
  refine Ev.bind (v_Has.ev _ h.small h.big l[i]) ?_
  simp only [hasB_iff.2 hm1, if_true]
  exact ih (i + 1) (by omega) (by omega)
theorem l1_ValueSets.pure (l : List Int) (hl : ∀ x ∈ l, 0 ≤ x ∧ x ≤ 255) (ls : List (List S24)) (_hm : ls.length ≤ 9223372036854775807) (hls : ∀ r ∈ ls, r.length < 4398046511104) (v : List S24) (_hv : v.length ≤ 9223372036854775807) : ∃ k, l1_ValueSets.f k l ls v = some true := by
 refine Ev.rounds (g := fun k => l1_ValueSets.f k l ls v) ?_
 unfold l1_ValueSets.f
 obtain ⟨hn, hst⟩ := cs_New.ok hl 90 (by omega) (by omega)
 rw [hn]
 simp only [Option.bind_some]
 obtain ⟨L, j, e, -, h1, h2⟩ := l1_rows.ok hst
 refine Ev.bind e ?_
 refine Ev.congr (fun k => if_pos (by show L.length < _; omega)) ?_
 have ok := made_ok hls h1 h2
 unfold l1_ValueSets.g
 refine Ev.bind (v_Set.ev ok) ?_
 refine Ev.bind (r1_Set.ev ok) ?_
 refine Ev.bind (r1_Same.self _ ok.set.small ok.set.big) ?_
 simp only [if_true]
 refine Ev.bind (v_Has.ev _ ok.small ok.big v) ?_
 refine Ev.bind (r1_Has.ev _ ok.small ok.big v) ?_
 rw [bne_self_eq_false]
 refine Ev.step (fun k => by rw [l1_ValueSets.j0, if_neg (by decide)]) ?_
 exact l1_ValueSets.l0_ev ok v _ 0 rfl (Nat.zero_le _)
end Go.Proofs.Ytpjcdacnhalclaa.Q
namespace Go.Proofs.Ytpjcdacnhalclaa.valueSets
open Go.ChangeShapes Go.WideShapes Go.ChangeAt Go.RowKit Go.Joins
open Go.ChangeMaps (open_string shut_string)
open Go.Proofs.YtpjcdacnhalclaaW.PrintWords Go.Proofs.YtpjcdacnhalclaaW.PrintLast Go.Proofs.YtpjcdacnhalclaaW.PrintMore
set_option maxRecDepth 100000 in
theorem lifted (os : Os) (started : os.Started) (H : Type) (enc : TypeId × Value → H) :
  ReturnsInHanded {} Try.checked os 12 .any (Rows.valueSetsSpec.pre6 enc Try.prog Try.f12 Rows.valueSetsRow.domain false) (Rows.valueSetsSpec.post enc Try.prog Try.f12 false true false false) := by
 refine returnsInHanded_of_change_sized (C := Try.checked) Q.own started (by kernel_rfl) Try.func12
  (ChangeSpec.witness6 (enc := enc) (C := Try.checked) false ⟨#[], #[.slice none 0 0, .slice none 0 0, .slice none 0 0], []⟩ 8 (by kernel_rfl) (by kernel_rfl) (by kernel_rfl) (by kernel_rfl)) ?_
 intro W base args ds gs before hval0 hW hcnd hsz0 _
 have hsz : (DataW.weightsEach Try.prog (Try.f12.params.toList ++ Rows.valueSetsSpec.plain.varTypes Try.prog) (ds ++ gs)).all (· ≤ reachBytes) = true := hsz0
 have hval : ∀ (j : Nat) t v, Try.f12.params[j]? = some t → args[j]? = some v → Value.okWide Try.prog W .any base t v := hval0
 have hW' := hW
 obtain ⟨p, q, hA0, hV, rfl, hfz, hnd⟩ := hW
 have hA : DataW.TrodAll enc Try.prog W 0 (fun _ => true) true Try.f12.params.toList args.toList ds p := hA0
 rw [Try.params12] at hA hval hsz
 obtain ⟨v0, vs0, d0, ds0, p0, q0, hargs, rfl, rfl, h0, r0⟩ := trodAll_cons hA
 obtain ⟨v1, vs1, d1, ds1, p1, q1, rfl, rfl, rfl, h1, r1⟩ := trodAll_cons r0
 obtain ⟨v2, vs2, d2, ds2, p2, q2, rfl, rfl, rfl, h2, r2⟩ := trodAll_cons r1
 obtain ⟨rfl, rfl, rfl⟩ := trodAll_nil r2
 obtain rfl : args = #[v0, v1, v2] := by cases args; simp_all
 obtain ⟨rfl, rfl⟩ := trodVars_none hV
 have k0 := h0
 have lt0 : ∀ x ∈ p0, x.block < W.heap.size := by obtain ⟨m, hm⟩ := k0; exact DataW.trod_lt m _ _ _ hm
 obtain ⟨a0, len0, cap0, rfl⟩ := okWide_slice Try.underlying22 (hval 0 22 v0 rfl rfl)
 obtain ⟨z0, w0⟩ : ∃ zs, Q.IsRow .u8 W a0 len0 cap0 zs := by
  obtain ⟨fuel, hf⟩ := h0
  rcases open_ints Try.underlying22 Try.underlying5 (by kernel_rfl) hf with ⟨hcs, _⟩ | ⟨x, l, c, zs, hcs, _, hl, hm, hz, _, hcell, hwz⟩
  ·simp [Value.cells] at hcs
   obtain ⟨rfl, rfl, rfl⟩ := hcs
   exact ⟨[], .inl ⟨rfl, rfl, rfl, rfl⟩⟩
  ·simp [Value.cells] at hcs
   obtain ⟨rfl, rfl, rfl⟩ := hcs
   exact ⟨zs, .inr ⟨_, rfl, hl, hm, by simpa using hz, hcell, hwz⟩⟩
 obtain ⟨l0, rfl, hr0, hm0, hw0, hc0⟩ := ReadsInt.ofRowC w0
 have k1 := h1
 have lt1 : ∀ x ∈ p1, x.block < W.heap.size := by obtain ⟨m, hm⟩ := k1; exact DataW.trod_lt m _ _ _ hm
 obtain ⟨a1, len1, cap1, rfl⟩ := okWide_slice Try.underlying55 (hval 1 55 v1 rfl rfl)
 obtain ⟨fu1, hf1⟩ := h1
 obtain ⟨A1, c1, l1, e1, hc1, hr1, hb1⟩ := Q.open_rows hf1 (fun n_ hn_ => (by have h_ := List.all_eq_true.1 hsz _ (DataW.weights_mem_each (j := 1) (t := 55) (d := d1) rfl rfl n_ hn_); simpa using h_ : n_ ≤ reachBytes))
 simp [Value.cells] at e1
 obtain ⟨rfl, rfl, rfl⟩ := e1
 have k2 := h2
 have lt2 : ∀ x ∈ p2, x.block < W.heap.size := by obtain ⟨m, hm⟩ := k2; exact DataW.trod_lt m _ _ _ hm
 obtain ⟨a2, len2, cap2, rfl⟩ := okWide_slice Try.underlying54 (hval 2 54 v2 rfl rfl)
 obtain ⟨fu2, hf2⟩ := h2
 obtain ⟨A2, c2, l2, e2, hc2, hr2, hb2⟩ := Q.open_row hf2
 simp [Value.cells] at e2
 obtain ⟨rfl, rfl, rfl⟩ := e2
 clear hA0 hval0 hsz0 hsz
 obtain ⟨k, hk⟩ := Q.l1_ValueSets.pure l0 (fun x hx => Q.wf_byte (hw0 x hx)) l1 (Kd.C_max hr1) hb1 l2 (Kd.C_max hr2)
 refine (Q.l1_ValueSets.calls k _ _ l0 _ _ l1 _ _ l2 true W (Kd.C_of_reads (d := (0 : Int)) (h1 := fun _ => rfl) hr0) hc0 hr1 hc1 hr2 hc2 hk ⟨rfl⟩).mono fun e W' ⟨he, bel⟩ => ?_
 subst he
 exact ⟨_, rfl, _, _, _, [], _, [], hW', trodAll_mk1 (shut_bool Try.underlying4 _), (trodAll_cons_mk (Below.trod Q.laidOut (by kernel_rfl) (of_decide_eq_true (by kernel_rfl)) k0 bel lt0) (trodAll_cons_mk (Below.trod Q.laidOut (by kernel_rfl) (of_decide_eq_true (by kernel_rfl)) k1 bel lt1) (trodAll_cons_mk (Below.trod Q.laidOut (by kernel_rfl) (of_decide_eq_true (by kernel_rfl)) k2 bel lt2) trodAll_mk0))), rfl, bel.frame _, fun h => by cases h⟩
theorem over : Rows.valueSetsRow.holds Try.pinned (OpenSpec.ofChange Rows.valueSetsSpec) :=
 OpenClaim.holds_of_wide 12 Try.f12 rfl rfl rfl rfl rfl rfl rfl ⟨rfl, rfl, rfl, rfl, rfl⟩ rfl rfl rfl rfl rfl (by kernel_rfl) Try.func12 (by kernel_rfl)
  (of_decide_eq_true (by kernel_rfl)) (by unfold Func.isWrapper; first | (rw [if_pos (by decide +kernel)]; kernel_rfl) | (rw [if_neg (by decide +kernel)]; exact ⟨rfl, rfl⟩))
  (fun os started H enc _ => lifted os started H enc)
theorem proved : Rows.ValueSetsSaid := over
end Go.Proofs.Ytpjcdacnhalclaa.valueSets
namespace Go.Proofs.Ytpjcdacnhalclaa
theorem valueSets_holds : Rows.ValueSetsSaid := valueSets.proved
#print axioms valueSets_holds
end Go.Proofs.Ytpjcdacnhalclaa
