/- A part of a proof: facts of functions that the law calls; conditions stand in each. -/
import Derived.Test.YtpjcdacnhalclaaM14x3
import Derived.Test.YtpjcdacnhalclaaM14x16
import Derived.Test.YtpjcdacnhalclaaM14x7
import Derived.Test.YtpjcdacnhalclaaM14x12
set_option linter.unusedVariables false
set_option linter.unusedSimpArgs false
namespace Go.Proofs.Ytpjcdacnhalclaa.Q
open Go.RowKit Go.Proofs.YtpjcdacnhalclaaW.PrintWords Go.Proofs.YtpjcdacnhalclaaW.PrintLast Go.Proofs.YtpjcdacnhalclaaW.PrintMore
attribute [local go_sem] max2_int min2_int max_two min_two max_three min_three max_four min_four
mutual
def r1_sorted.l0 {w0 : World} : Nat → List (Hdr w0) → List (Hdr w0) → List (Hdr w0) → Option (List (Hdr w0))
 | 0, _, _, _ => none
 | k + 1, x3, x4, x5 => if (x3.length : Int) > 0 then (r1_sorted.j1 k x3 x4 x5 (decide ((x4.length : Int) > 0))) else (r1_sorted.j1 k x3 x4 x5 false)
def r1_sorted.j1 {w0 : World} : Nat → List (Hdr w0) → List (Hdr w0) → List (Hdr w0) → Bool → Option (List (Hdr w0))
 | 0, _, _, _, _ => none
 | k + 1, x3, x4, x5, x33 => if x33 = true then (if 0 < (x3.length : Int) then (if 0 < (x4.length : Int) then ((r1_CompareRows.f k (rdH x3 0).xs (rdH x4 0).xs).bind fun t177 => (if t177 ≤ 0 then (if x5.length < 5864062014805 then (if 1 ≤ (x3.length : Int) then (r1_sorted.l0 k (x3.drop (1 : Int).toNat) x4 (x5 ++ [rdH x3 0])) else (none)) else (none)) else (if x5.length < 5864062014805 then (if 1 ≤ (x4.length : Int) then (r1_sorted.l0 k x3 (x4.drop (1 : Int).toNat) (x5 ++ [rdH x4 0])) else (none)) else (none)))) else (none)) else (none)) else (if x5.length + x3.length < 5864062014805 then ((some (x5 ++ x3 : List (Hdr w0))).bind fun y192 => (if y192.length + x4.length < 5864062014805 then (some (y192 ++ x4)) else (none))) else (none))
def r1_sorted.f {w0 : World} : Nat → List (Hdr w0) → Option (List (Hdr w0))
 | 0, _ => none
 | k + 1, l0 => if (l0.length : Int) < 2 then (if ([] : List (Hdr w0)).length + l0.length < 5864062014805 then (some (([] : List (Hdr w0)) ++ l0)) else (none)) else (if 0 ≤ (wrap64 ((l0.length : Int) / 2)) then (if (wrap64 ((l0.length : Int) / 2)) ≤ (l0.length : Int) then ((r1_sorted.f k (l0.take ((wrap64 ((l0.length : Int) / 2)) : Int).toNat)).bind fun t168 => ((r1_sorted.f k (l0.drop ((wrap64 ((l0.length : Int) / 2)) : Int).toNat)).bind fun t172 => (r1_sorted.l0 k t168 t172 ([] : List (Hdr w0))))) else (none)) else (none))
end
def r1_sorted.T3 : Bool × List (List Nat × List Nat) := (true, [([], []), ([], []), ([1], [1]), ([2], [2]), ([0, 3], [0, 3]), ([4], [4]), ([], []), ([], []), ([7], [7]), ([8], [8]), ([6, 9], [6, 9]), ([10, 5], [10]), ([5, 11, 0, 1, 2, 3, 4, 5], [5]), ([11, 12, 0, 1, 2, 3, 4, 5, 6, 7, 8, 9, 10, 11, 12], [11])])
def r1_sorted.B3 : List Nat := [0, 0, 2, 6, 15, 31, 0, 0, 128, 384, 960, 2047, 4095, 8191]
theorem r1_sorted.tab3 : rtab .any (opsOf Try.f90 3) = r1_sorted.T3 := by kernel_rfl
theorem r1_sorted.bits3 : waitsOk r1_sorted.T3.2 r1_sorted.B3 = true := by kernel_rfl
def r1_sorted.T6 : Bool × List (List Nat × List Nat) := (true, [([], []), ([0], [0]), ([1], [1]), ([], []), ([3], [3]), ([4], [4]), ([2, 5], [2, 5]), ([6], [6])])
def r1_sorted.B6 : List Nat := [0, 1, 3, 0, 8, 24, 63, 127]
theorem r1_sorted.tab6 : rtab .any (opsOf Try.f90 6) = r1_sorted.T6 := by kernel_rfl
theorem r1_sorted.bits6 : waitsOk r1_sorted.T6.2 r1_sorted.B6 = true := by kernel_rfl
def r1_sorted.T7 : Bool × List (List Nat × List Nat) := (true, [([], []), ([], []), ([1], [1]), ([2], [2]), ([3], [3]), ([0, 4], [0, 4]), ([], []), ([6], [6]), ([5, 5, 0, 1, 2, 3, 4, 5], [0, 5]), ([7, 8, 0, 1, 2, 3, 4, 5, 6, 7, 8], [1, 6, 7])])
def r1_sorted.B7 : List Nat := [0, 0, 2, 6, 14, 31, 0, 64, 63, 511]
theorem r1_sorted.tab7 : rtab .any (opsOf Try.f90 7) = r1_sorted.T7 := by kernel_rfl
theorem r1_sorted.bits7 : waitsOk r1_sorted.T7.2 r1_sorted.B7 = true := by kernel_rfl
def r1_sorted.T8 : Bool × List (List Nat × List Nat) := (true, [([], []), ([], []), ([1], [1]), ([2], [2]), ([3], [3]), ([0, 4], [0, 4]), ([], []), ([6], [6]), ([5, 5, 0, 1, 2, 3, 4, 5], [0, 5]), ([7, 8, 0, 1, 2, 3, 4, 5, 6, 7, 8], [1, 6, 7])])
def r1_sorted.B8 : List Nat := [0, 0, 2, 6, 14, 31, 0, 64, 63, 511]
theorem r1_sorted.tab8 : rtab .any (opsOf Try.f90 8) = r1_sorted.T8 := by kernel_rfl
theorem r1_sorted.bits8 : waitsOk r1_sorted.T8.2 r1_sorted.B8 = true := by kernel_rfl
set_option maxHeartbeats 8000000 in
set_option maxRecDepth 100000 in
theorem r1_sorted.calls {w0 : World} (k : Nat) : ∀ (A0 : Option Addr) (c0 : Nat) (l0 : List (Hdr w0)) (r : List (Hdr w0)) (w : World) (hr0 : Kd.C (kH w0) w A0 l0.length l0) (hc0 : l0.length ≤ c0) (h : r1_sorted.f k l0 = some r) (hB0 : Below w0.heap.size w0 w) (hlen : l0.length < 65536),
  Calls Try.prog 90 #[.slice A0 l0.length c0] w fun e w' => ∃ v0_ : Value, e = .returned (v0_) ∧ Kd.R (kH w0) 54 w' w.heap.size (fun _ => True) v0_ r ∧ Below w.heap.size w w' := by
 induction k using Nat.strongRecOn with
 | _ k ih =>
 intro A0 c0 l0 r w hr0 hc0 h hB0 hlen
 have HB0 := Aside0.mk hB0
 have HLN := Aside0.mk hlen
 clear hlen
 clear hB0
 cases k with
 | zero => exact absurd h (by simp [r1_sorted.f])
 | succ k =>
 simp only [r1_sorted.f] at h
 have HR0 := Aside0.mk hr0
 have HC0 := Aside0.mk hc0
 clear hr0 hc0
 have HB := aK (Below.refl w.heap.size w)
 have H : (if (l0.length : Int) < 2 then (if ([] : List (Hdr w0)).length + l0.length < 5864062014805 then (some (([] : List (Hdr w0)) ++ l0)) else (none)) else (if 0 ≤ (wrap64 ((l0.length : Int) / 2)) then (if (wrap64 ((l0.length : Int) / 2)) ≤ (l0.length : Int) then ((r1_sorted.f k (l0.take ((wrap64 ((l0.length : Int) / 2)) : Int).toNat)).bind fun t168 => ((r1_sorted.f k (l0.drop ((wrap64 ((l0.length : Int) / 2)) : Int).toNat)).bind fun t172 => (r1_sorted.l0 k t168 t172 ([] : List (Hdr w0))))) else (none)) else (none))) = some r := h
 clear h
 by_cases c2 : (l0.length : Int) < 2
 rotate_left
 ·rw [if_neg c2] at H
  have c2b0 : decide ((l0.length : Int) < 2) = false := decide_eq_false c2
  have c2b1 : decide (l0.length < 2) = false := decide_eq_false (by omega)
  clear c2
  obtain ⟨ji5, hji5⟩ : ∃ j_ : Int, (wrap64 ((l0.length : Int) / 2)) = j_ := ⟨_, rfl⟩
  replace H : (if 0 ≤ (ji5) then (if (ji5) ≤ (l0.length : Int) then ((r1_sorted.f k (l0.take ((ji5) : Int).toNat)).bind fun t168 => ((r1_sorted.f k (l0.drop ((ji5) : Int).toNat)).bind fun t172 => (r1_sorted.l0 k t168 t172 ([] : List (Hdr w0))))) else (none)) else (none)) = some r := by first | (rw [hji5] at H; exact H) | (simp only [hji5] at H ⊢; exact H)
  have hji5w : (IntKind.i64.wrap ((l0.length : Int) / 2)) = ji5 := (i64_w _).trans hji5
  by_cases c6 : 0 ≤ (ji5)
  rotate_left
  ·rw [if_neg c6] at H
   exact absurd H (by simp)
  rw [if_pos c6] at H
  have c6b0 := eq_true c6
  have c6b1 : decide (0 ≤ (ji5)) = true := decide_eq_true c6
  clear c6
  by_cases c7 : (ji5) ≤ (l0.length : Int)
  rotate_left
  ·rw [if_neg c7] at H
   exact absurd H (by simp)
  rw [if_pos c7] at H
  have c7b0 := eq_true c7
  have c7b1 : decide ((ji5) ≤ (l0.length : Int)) = true := decide_eq_true c7
  clear c7
  obtain ⟨t168, A8, H⟩ := oB H
  try dsimp only at H
  have c9b0 := eq_true (of_decide_eq_true (aA) : 0 ≤ (ji5))
  have c10b0 := eq_true (of_decide_eq_true (aA) : (ji5) ≤ (l0.length : Int))
  obtain ⟨t172, A11, H⟩ := oB H
  try dsimp only at H
  have H' := Aside0.mk H
  clear H
  go_enter Try.func90, Try.ntmps90
  try go_wp2
  have n0_ := aK (below_drew1 HB.out)
  clear HB
  have HB := n0_
  clear n0_
  obtain ⟨i013, hi013, _, hsz13, _⟩ := info_parts info54
  obtain ⟨hcut13, hA13, hC13⟩ := print_take_of (P := Try.prog) (Hdr.enc (w := w0)) default 55 54 .i64 Try.underlying55 hi013 hsz13 A0 c0 l0 (ji5) (of_decide_eq_true (aA)) (of_decide_eq_true (aA)) HC0.out
  have HR167 := aK (Kd.C_of_reads (h1 := fun _ => rfl) (hA13 _ (Kd.reads_of_C HR0.out)))
  have HC167 := Aside0.mk hC13
  clear hA13 hC13 hi013 hsz13
  obtain ⟨i014, hi014, _, hsz14, _⟩ := info_parts info54
  obtain ⟨A14, hcut14, hA14, hC14⟩ := print_drop_of (P := Try.prog) (Hdr.enc (w := w0)) default 55 54 .i64 Try.underlying55 hi014 hsz14 A0 c0 l0 (ji5) (of_decide_eq_true (aA)) (of_decide_eq_true (aA)) HC0.out
  have HR171 := aK (Kd.C_of_reads (h1 := fun _ => rfl) (hA14 _ (Kd.reads_of_C HR0.out)))
  have HC171 := Aside0.mk hC14
  clear hA14 hC14 hi014 hsz14
  refine start_ (n := 14) (S := fun w' => True) (ds := []) #[false, false, false, false, false, false, false, false, false, false, false, false, false, false] (by kernel_rfl) rfl rfl trivial (fun hHeld => ?_); refine with_tabW r1_sorted.tab3 r1_sorted.bits3 (fun HT_ HW_ => ?_)
  generalize w.drew = w12 at HB HR167 HR171 hHeld ⊢
  refine pY (i := 0) (N := some 11) (tf 1 13) rfl rfl HT_.out ?_
  refine pY (i := 1) (N := some 12) (tf 2 12) rfl rfl HT_.out ?_
  refine pY (i := 2) (N := some 13) (tf 3 11) rfl rfl HT_.out ?_
  refine pY (i := 3) (N := some 14) (tf 4 10) rfl rfl HT_.out ?_
  refine pY (i := 4) (N := some 15) (tf 5 9) rfl rfl HT_.out ?_
  refine pY (i := 6) (N := some 17) #[true, true, true, true, true, false, true, false, false, false, false, false, false, false] rfl rfl HT_.out ?_
  refine pY (i := 7) (N := some 18) #[true, true, true, true, true, false, true, true, false, false, false, false, false, false] rfl rfl HT_.out ?_
  refine pY (i := 8) (N := some 19) #[true, true, true, true, true, false, true, true, true, false, false, false, false, false] rfl rfl HT_.out ?_
  refine pY (i := 9) (N := some 20) #[true, true, true, true, true, false, true, true, true, true, false, false, false, false] rfl rfl HT_.out ?_
  refine pY (i := 10) (N := some 21) #[true, true, true, true, true, false, true, true, true, true, true, false, false, false] rfl rfl HT_.out ?_
  refine one_ (i := 5) (N := some 16) (tf 11 3) rfl rfl (one_of HT_.out (by kernel_rfl)) (by decide) (fun K hK => ?_)
  refine goes_ Try.func90 (by kernel_rfl) rfl #[.slice A0 (l0.take ((ji5) : Int).toNat).length c0] (by rfl) rfl rfl (by (try simp only [List.map_toArray, List.map_cons, List.map_nil]); first | done | (rw [show (l0.take ((ji5) : Int).toNat).length = (ji5).toNat from (by rw [List.length_take]; have h_ : ((ji5) : Int) ≤ (l0.length : Int) := of_decide_eq_true (aA); omega)] <;> rfl) | (simp only [hji5]; rfl) | rfl | (simp only [List.length_drop, List.length_take]; rfl)) ?_
  with_reducible refine (ih k (by omega) _ _ (l0.take ((ji5) : Int).toNat) t168 _ ?side1 ?side2 A8.out ?sideB0 ?sideL0).mono ?_
  (case sideL0 => have h_ := HLN.out; (first | rw [List.length_take] | rw [List.length_drop]); omega)
  (case sideB0 => exact below_step HB0.out bO)
  (case side1 => repeat (first | exact (Kd.C_below HR167.out HB.out) | (with_reducible refine Kd.C_alloc ?_ _) | (with_reducible refine Kd.C_drewN ?_ _) | (with_reducible refine Kd.C_drew ?_)))
  (case side2 => exact HC167.out)
  rintro e w15 ⟨v169, rfl, ho0, hb⟩
  refine ⟨_, rfl, ?_⟩
  have n0_ := aK (Kd.R_lower ho0 (below_size bO))
  have n1_ := aK (below_step bO hb)
  clear HB
  have HO170 := n0_
  have HB := n1_
  clear n0_ n1_
  (try clear hb)
  (try clear hb2)
  (try clear hk)
  (try clear hi)
  (try clear ho0)
  refine hK.out _ _ trivial (fun hHeld => ?_)
  clear hK K
  refine norm_ (a' := ?_) ?_ ?_
  rotate_left
  ·show Act.put _ (some 16) _ = _
   simp only [Act.put, List.setIfInBounds_toArray, List.set_cons_zero, List.set_cons_succ, i64_w, i32_w]
   rfl
  refine one_ (i := 11) (N := some 22) (tf 12 2) rfl rfl (one_of HT_.out (by kernel_rfl)) (by decide) (fun K hK => ?_)
  refine goes_ Try.func90 (by kernel_rfl) rfl #[.slice A14 (l0.drop ((ji5) : Int).toNat).length (c0 - (ji5).toNat)] (by rfl) rfl rfl (by (try simp only [List.map_toArray, List.map_cons, List.map_nil]); first | done | (rw [show (l0.drop ((ji5) : Int).toNat).length = (l0.length - (ji5).toNat) from List.length_drop] <;> rfl) | (simp only [hji5]; rfl) | rfl | (simp only [List.length_drop, List.length_take]; rfl)) ?_
  with_reducible refine (ih k (by omega) _ _ (l0.drop ((ji5) : Int).toNat) t172 _ ?side1 ?side2 A11.out ?sideB0 ?sideL0).mono ?_
  (case sideL0 => have h_ := HLN.out; (first | rw [List.length_take] | rw [List.length_drop]); omega)
  (case sideB0 => exact below_step HB0.out bO)
  (case side1 => repeat (first | exact (Kd.C_below HR171.out HB.out) | (with_reducible refine Kd.C_alloc ?_ _) | (with_reducible refine Kd.C_drewN ?_ _) | (with_reducible refine Kd.C_drew ?_)))
  (case side2 => exact HC171.out)
  rintro e w16 ⟨v173, rfl, ho0, hb⟩
  refine ⟨_, rfl, ?_⟩
  have n0_ := aK (Kd.R_elder' (rX HO170.out) (Kd.R_base ho0) hb)
  have n1_ := aK (Kd.R_lower (Kd.R_new' ho0 (Kd.R_lt (rX HO170.out))) (below_size bO))
  have n2_ := aK (below_step bO hb)
  clear HO170
  clear HB
  have HO170 := n0_
  have HO174 := n1_
  have HB := n2_
  clear n0_ n1_ n2_
  (try clear hb)
  (try clear hb2)
  (try clear hk)
  (try clear hi)
  (try clear ho0)
  refine hK.out _ _ trivial (fun hHeld => ?_)
  clear hK K
  refine norm_ (a' := ?_) ?_ ?_
  rotate_left
  ·show Act.put _ (some 22) _ = _
   simp only [Act.put, List.setIfInBounds_toArray, List.set_cons_zero, List.set_cons_succ, i64_w, i32_w]
   rfl
  refine pY (i := 12) (N := some 3) (tf 13 1) rfl rfl HT_.out ?_
  refine pY (i := 13) (N := some 4) (tf 14 0) rfl rfl HT_.out ?_
  refine done_ (done_of HT_.out (by kernel_rfl)) ?_
  obtain ⟨i54, hi54, hz54, hs54, hb54⟩ := info_parts info54
  have hmk : ∀ W : World, (Instr.makeSlice 55 (.int .i64 0) (.int .i64 (l0.length : Int))).run Try.prog W = .ok (.slice (some ⟨W.heap.size, 0, none⟩) 0 l0.length) (W.alloc (.cells (List.replicate l0.length (.slice none 0 0)).toArray 54)) := by
   intro W
   have h := run_make_rowN (P := Try.prog) 55 54 i54 (.slice none 0 0) Try.underlying55 hi54 hz54 .i64 .i64 0 l0.length (Nat.zero_le _) (by rw [hb54]; have h_ := HLN.out; omega) (by have h_ := HLN.out; omega) W
   rw [hs54] at h
   rw [show ((0 : Nat) : Int) = 0 from rfl] at h
   rw [h]
   congr 3
   exact madeCells_one _ _
  go_wp2
  clear hmk hi54 hz54 hs54 hb54
  go_loopg [3, 4, 5] k (fun kq v3 v4 v5 w' => ∃ (x3_1 : List (Hdr w0)) (x4_1 : List (Hdr w0)) (x5_1 : List (Hdr w0)), Aside0 (r1_sorted.l0 kq x3_1 x4_1 x5_1 = some r) ∧ Aside0 (kq ≤ k) ∧ Aside0 (Kd.Q (kH w0) 54 w' w.heap.size (fun k_ => some k_ ≠ (v4 : Value).ownBlock ∧ some k_ ≠ (v5 : Value).ownBlock) v3 x3_1) ∧ Aside0 (Kd.Q (kH w0) 54 w' w.heap.size (fun k_ => some k_ ≠ (v3 : Value).ownBlock ∧ some k_ ≠ (v5 : Value).ownBlock) v4 x4_1) ∧ Aside0 (Kd.R (kH w0) 54 w' w.heap.size (fun k_ => some k_ ≠ (v3 : Value).ownBlock ∧ some k_ ≠ (v4 : Value).ownBlock) v5 x5_1) ∧ Aside0 (Below w.heap.size w w'))
  case atStart => exact ⟨(t168), (t172), (([] : List (Hdr w0))), H', ⟨Nat.le_refl _⟩, ⟨Kd.Q_of_R (by (with_reducible repeat (first | apply Kd.R_alloc | apply Kd.R_drewN | apply Kd.R_drew)); exact Kd.R_mono (Kd.R_elderB HO170.out w16.heap.size (Nat.le_refl _)) (fun _ hk => ⟨hk.1.2, fun e_ => hk.2 (by simpa [Value.ownBlock] using e_)⟩))⟩, ⟨Kd.Q_of_R (by (with_reducible repeat (first | apply Kd.R_alloc | apply Kd.R_drewN | apply Kd.R_drew)); exact Kd.R_mono (Kd.R_elderB HO174.out w16.heap.size (Nat.le_refl _)) (fun _ hk => ⟨hk.1.2, fun e_ => hk.2 (by simpa [Value.ownBlock] using e_)⟩))⟩, ⟨Kd.R_lower (R_room l0.length _ _ (by simp) (by have h_ := HLN.out; unfold maxLen; omega) ⟨fun e_ => Nat.lt_irrefl _ (Kd.R_lt HO170.out _ e_.symm), fun e_ => Nat.lt_irrefl _ (Kd.R_lt HO174.out _ e_.symm)⟩) HB.out.size⟩, ⟨bO⟩⟩
  case round =>
   clear H'
   try clear c1
   try clear c2
   try clear c2b0
   try clear c2b1
   try clear p2
   try clear c3
   try clear c6
   try clear c6b0
   try clear c6b1
   try clear p6
   try clear c7
   try clear c7b0
   try clear c7b1
   try clear c9
   try clear c9b0
   try clear c10
   try clear c10b0
   obtain ⟨x3_1, x4_1, x5_1, HA, HK1, HO_3, HO_4, HO_5, HB⟩ := hrel
   cases gk with
   | zero => exact absurd HA.out (by simp [r1_sorted.l0])
   | succ k1 =>
    have H := HA.out
    clear HA
    simp only [r1_sorted.l0] at H
    have HC17 := Aside0.mk H
    clear H
    go_upto_region 5 with (fail)
    go_cut [33] (fun v33 wc => ∃ (kq : Nat) (x33_16 : Bool), v33 = .bool x33_16 ∧ Aside0 (r1_sorted.j1 kq x3_1 x4_1 x5_1 x33_16 = some r) ∧ Aside0 (kq ≤ k1) ∧ Aside0 (Kd.Q (kH w0) 54 wc w.heap.size (fun k_ => some k_ ≠ (u4 : Value).ownBlock ∧ some k_ ≠ (u5 : Value).ownBlock) u3 x3_1) ∧ Aside0 (Kd.Q (kH w0) 54 wc w.heap.size (fun k_ => some k_ ≠ (u3 : Value).ownBlock ∧ some k_ ≠ (u5 : Value).ownBlock) u4 x4_1) ∧ Aside0 (Kd.R (kH w0) 54 wc w.heap.size (fun k_ => some k_ ≠ (u3 : Value).ownBlock ∧ some k_ ≠ (u4 : Value).ownBlock) u5 x5_1) ∧ Aside0 (Below w.heap.size w wc))
    case first =>
     have H := HC17.out
     clear HC17
     by_cases c18 : (x3_1.length : Int) > 0
     rotate_left
     ·rw [if_neg c18] at H
      have c18b0 : decide (0 < (x3_1.length : Int)) = false := decide_eq_false c18
      have c18b1 : decide (0 < x3_1.length) = false := decide_eq_false (by omega)
      clear c18
      (first | rw [c18b0] | (simp only [i64_w, i32_w]; rw [c18b0]) | skip)
      have H' := Aside0.mk H
      clear H
      obtain ⟨Ao21, co21, eo21, _⟩ := Kd.Q_slice HO_3.out
      subst eo21
      go_wp2
      go_meet
      case rel => exact ⟨_, (false), (by first | rfl | (simp; done) | (simp [*]; done)), H', ⟨by have := HK1.out; first | omega | exact Nat.le_refl _⟩, ⟨by (with_reducible repeat (first | apply Kd.Q_alloc | apply Kd.Q_drewN | apply Kd.Q_drew)); exact HO_3.out⟩, ⟨by (with_reducible repeat (first | apply Kd.Q_alloc | apply Kd.Q_drewN | apply Kd.Q_drew)); exact HO_4.out⟩, ⟨rX HO_5.out⟩, ⟨bO⟩⟩
     rw [if_pos c18] at H
     have c18b0 : decide (0 < (x3_1.length : Int)) = true := decide_eq_true c18
     have c18b1 : decide (0 < x3_1.length) = true := decide_eq_true (by omega)
     clear c18
     (first | rw [c18b0] | (simp only [i64_w, i32_w]; rw [c18b0]) | skip)
     have H' := Aside0.mk H
     clear H
     obtain ⟨Ao19, co19, eo19, _⟩ := Kd.Q_slice HO_3.out
     subst eo19
     obtain ⟨Ao20, co20, eo20, _⟩ := Kd.Q_slice HO_4.out
     subst eo20
     go_wp2
     go_meet
     case rel => exact ⟨_, (decide ((x4_1.length : Int) > 0)), (by first | rfl | (simp; done) | (simp [*]; done)), H', ⟨by have := HK1.out; first | omega | exact Nat.le_refl _⟩, ⟨by (with_reducible repeat (first | apply Kd.Q_alloc | apply Kd.Q_drewN | apply Kd.Q_drew)); exact HO_3.out⟩, ⟨by (with_reducible repeat (first | apply Kd.Q_alloc | apply Kd.Q_drewN | apply Kd.Q_drew)); exact HO_4.out⟩, ⟨rX HO_5.out⟩, ⟨bO⟩⟩
    case rest =>
     clear HC17
     try clear c1
     try clear c2
     try clear c2b0
     try clear c2b1
     try clear p2
     try clear c3
     try clear c6
     try clear c6b0
     try clear c6b1
     try clear p6
     try clear c7
     try clear c7b0
     try clear c7b1
     try clear c9
     try clear c9b0
     try clear c10
     try clear c10b0
     try clear c18
     try clear c18b0
     try clear c18b1
     try clear p2
     try clear p6
     obtain ⟨kq, x33_16, rfl, HA, HJ16, HO_3, HO_4, HO_5, HB⟩ := hcut
     cases kq with
     | zero => exact absurd HA.out (by simp [r1_sorted.j1])
     | succ kj16 =>
      have H := HA.out
      clear HA
      simp only [r1_sorted.j1] at H
      by_cases c22 : x33_16 = true
      rotate_left
      ·replace c22 := Bool.eq_false_iff.mpr c22
       subst c22
       rw [if_neg (show ¬ (false = true) by decide)] at H
       by_cases c45 : x5_1.length + x3_1.length < 5864062014805
       rotate_left
       ·rw [if_neg c45] at H
        exact absurd H (by simp)
       rw [if_pos c45] at H
       have LMc45 := Aside0.mk c45
       clear c45
       obtain ⟨y192, hy192⟩ : ∃ y_ : List (Hdr w0), y_ = (x5_1 ++ x3_1) := ⟨_, rfl⟩
       replace H : (if y192.length + x4_1.length < 5864062014805 then (some (y192 ++ x4_1)) else (none)) = some r := by first | (rw [hy192]; with_reducible exact H) | (have H2_ := (Option.bind_some _ _).symm.trans H; rw [hy192]; with_reducible exact H2_) | (have H2_ := (Option.bind_some _ _).symm.trans H; with_reducible exact H2_) | with_reducible exact H | (rw [hy192]; exact H) | exact H
       have Ny192 := Aside0.mk hy192
       clear hy192
       by_cases c46 : y192.length + x4_1.length < 5864062014805
       rotate_left
       ·rw [if_neg c46] at H
        exact absurd H (by simp)
       rw [if_pos c46] at H
       have LMc46 := Aside0.mk c46
       clear c46
       obtain ⟨y195, hy195⟩ : ∃ y_ : List (Hdr w0), y_ = (y192 ++ x4_1) := ⟨_, rfl⟩
       replace H : (some y195) = some r := by first | (rw [hy195]; with_reducible exact H) | (have H2_ := (Option.bind_some _ _).symm.trans H; rw [hy195]; with_reducible exact H2_) | (have H2_ := (Option.bind_some _ _).symm.trans H; with_reducible exact H2_) | with_reducible exact H | (rw [hy195]; exact H) | exact H
       have Ny195 := Aside0.mk hy195
       clear hy195
       obtain rfl := Option.some.inj H
       obtain ⟨Ao48, co48, eo48, _⟩ := Kd.Q_slice HO_3.out
       subst eo48
       go_wp2_with (first | ((with_reducible refine gate_builtin (b := .append) (xs := #[.tmp 58, .tmp 59]) rfl ?_); (try (refine gate_guard (by rfl) ?_; dsimp only)); at_builtin; refine Kd.R_append_rows (kH w0) (w0 := w) w.heap.size rfl (.tmp 58) (.tmp 59) 55 54 (.slice none 0 0) 24 rfl Try.underlying55 info54 rfl Nat.one_pos (by omega) u5 x5_1 x3_1 _ _ _ (fun k_ => some k_ ≠ (.slice Ao48 x3_1.length co48 : Value).ownBlock ∧ some k_ ≠ (u4 : Value).ownBlock) (fun _ => False) rfl rfl ?aO ?aR (fun _ _ h => h) (fun _ h => h.elim) ?aF ?aB ?aS ?aL ?_; (case aR => exact cX (Kd.Q_reads' HO_3.out).2.2); (case aB => exact bO); (case aF => exact (fun k_ hk => ⟨Kd.fresh' (Kd.Q_lt (by (with_reducible repeat (first | apply Kd.Q_alloc | apply Kd.Q_drewN | apply Kd.Q_drew)); exact HO_3.out)) k_ hk, Kd.fresh' (Kd.Q_lt (by (with_reducible repeat (first | apply Kd.Q_alloc | apply Kd.Q_drewN | apply Kd.Q_drew)); exact HO_4.out)) k_ hk⟩)); (case aO => exact (rX HO_5.out)); (case aS => exact (below_size bO)); (case aL => have := LMc45.out; omega); intro v193 w47 ho hb hg hat; rw [← Ny192.out] at ho; have n0_ := aK (Kd.Q_after (ok := (fun k_ => some k_ ≠ (u4 : Value).ownBlock)) (by (with_reducible repeat (first | apply Kd.Q_alloc | apply Kd.Q_drewN | apply Kd.Q_drew)); exact HO_3.out) hg hat); have n1_ := aK (Kd.Q_after (ok := (fun k_ => some k_ ≠ (.slice Ao48 x3_1.length co48 : Value).ownBlock)) (by (with_reducible repeat (first | apply Kd.Q_alloc | apply Kd.Q_drewN | apply Kd.Q_drew)); exact HO_4.out) hg hat); have n2_ := aK (hb); have n3_ := aK (ho); clear HO_3 HO_4 HB HO_5; have HO_3 := n0_; have HO_4 := n1_; have HB := n2_; have HO194 := n3_; clear n0_ n1_ n2_ n3_ ho hb hg hat; obtain ⟨Ao50, co50, eo50, _⟩ := Kd.Q_slice HO_4.out; subst eo50) | ((with_reducible refine gate_builtin (b := .append) (xs := #[.tmp 60, .tmp 61]) rfl ?_); (try (refine gate_guard (by rfl) ?_; dsimp only)); at_builtin; refine Kd.R_append_rows (kH w0) (w0 := w) w.heap.size rfl (.tmp 60) (.tmp 61) 55 54 (.slice none 0 0) 24 rfl Try.underlying55 info54 rfl Nat.one_pos (by omega) v193 y192 x4_1 _ _ _ (fun k_ => some k_ ≠ (.slice Ao48 x3_1.length co48 : Value).ownBlock ∧ some k_ ≠ (.slice Ao50 x4_1.length co50 : Value).ownBlock) (fun _ => False) rfl rfl ?aO ?aR (fun _ _ h => h) (fun _ h => h.elim) ?aF ?aB ?aS ?aL ?_; (case aR => exact cX (Kd.Q_reads' HO_4.out).2.2); (case aB => exact bO); (case aF => exact (fun k_ hk => ⟨Kd.fresh' (Kd.Q_lt (by (with_reducible repeat (first | apply Kd.Q_alloc | apply Kd.Q_drewN | apply Kd.Q_drew)); exact HO_3.out)) k_ hk, Kd.fresh' (Kd.Q_lt (by (with_reducible repeat (first | apply Kd.Q_alloc | apply Kd.Q_drewN | apply Kd.Q_drew)); exact HO_4.out)) k_ hk⟩)); (case aO => exact (rX HO194.out)); (case aS => exact (below_size bO)); (case aL => have := LMc46.out; omega); intro v196 w49 ho hb hg hat; rw [← Ny195.out] at ho; have n0_ := aK (Kd.Q_after (ok := (fun k_ => some k_ ≠ (.slice Ao50 x4_1.length co50 : Value).ownBlock)) (by (with_reducible repeat (first | apply Kd.Q_alloc | apply Kd.Q_drewN | apply Kd.Q_drew)); exact HO_3.out) hg hat); have n1_ := aK (Kd.Q_after (ok := (fun k_ => some k_ ≠ (.slice Ao48 x3_1.length co48 : Value).ownBlock)) (by (with_reducible repeat (first | apply Kd.Q_alloc | apply Kd.Q_drewN | apply Kd.Q_drew)); exact HO_4.out) hg hat); have n2_ := aK (hb); have n3_ := aK (ho); clear HO_3 HO_4 HB HO194; have HO_3 := n0_; have HO_4 := n1_; have HB := n2_; have HO197 := n3_; clear n0_ n1_ n2_ n3_ ho hb hg hat))
       go_ret
       exact ⟨_, by first | rfl | (simp [errW_none, errW_some] <;> rfl) | (simp only [← hji5]; first | rfl | (simp [errW_none, errW_some] <;> rfl)) | (simp [*, errW_none, errW_some] <;> rfl), by (with_reducible repeat (first | apply Kd.R_alloc | apply Kd.R_drewN | apply Kd.R_drew)); exact Kd.R_mono HO197.out (fun _ hk => trivial), bO⟩
      subst c22
      rw [if_pos rfl] at H
      by_cases c23 : 0 < (x3_1.length : Int)
      rotate_left
      ·rw [if_neg c23] at H
       exact absurd H (by simp)
      rw [if_pos c23] at H
      have c23b0 : decide (0 < (x3_1.length : Int)) = true := decide_eq_true c23
      have c23b1 : decide (0 < x3_1.length) = true := decide_eq_true (by omega)
      clear c23
      by_cases c24 : 0 < (x4_1.length : Int)
      rotate_left
      ·rw [if_neg c24] at H
       exact absurd H (by simp)
      rw [if_pos c24] at H
      have c24b0 : decide (0 < (x4_1.length : Int)) = true := decide_eq_true c24
      have c24b1 : decide (0 < x4_1.length) = true := decide_eq_true (by omega)
      clear c24
      obtain ⟨t177, A25, H⟩ := oB H
      try dsimp only at H
      by_cases c26 : t177 ≤ 0
      rotate_left
      ·rw [if_neg c26] at H
       have c26b0 : decide (t177 ≤ 0) = false := decide_eq_false c26
       clear c26
       by_cases c36 : x5_1.length < 5864062014805
       rotate_left
       ·rw [if_neg c36] at H
        exact absurd H (by simp)
       rw [if_pos c36] at H
       have LMc36 := Aside0.mk c36
       clear c36
       obtain ⟨y186, hy186⟩ : ∃ y_ : List (Hdr w0), y_ = (x5_1 ++ [rdH x4_1 0]) := ⟨_, rfl⟩
       replace H : (if 1 ≤ (x4_1.length : Int) then (r1_sorted.l0 kj16 x3_1 (x4_1.drop (1 : Int).toNat) y186) else (none)) = some r := by first | (rw [hy186]; with_reducible exact H) | (have H2_ := (Option.bind_some _ _).symm.trans H; rw [hy186]; with_reducible exact H2_) | (have H2_ := (Option.bind_some _ _).symm.trans H; with_reducible exact H2_) | with_reducible exact H | (rw [hy186]; exact H) | exact H
       have Ny186 := Aside0.mk hy186
       clear hy186
       by_cases c37 : 1 ≤ (x4_1.length : Int)
       rotate_left
       ·rw [if_neg c37] at H
        exact absurd H (by simp)
       rw [if_pos c37] at H
       have c37b0 := eq_true c37
       have c37b1 : decide (1 ≤ (x4_1.length : Int)) = true := decide_eq_true c37
       clear c37
       obtain ⟨y189, hy189⟩ : ∃ y_ : List (Hdr w0), y_ = (x4_1.drop (1 : Int).toNat) := ⟨_, rfl⟩
       replace H : (r1_sorted.l0 kj16 x3_1 y189 y186) = some r := by first | (rw [hy189]; with_reducible exact H) | (have H2_ := (Option.bind_some _ _).symm.trans H; rw [hy189]; with_reducible exact H2_) | (have H2_ := (Option.bind_some _ _).symm.trans H; with_reducible exact H2_) | with_reducible exact H | (rw [hy189]; exact H) | exact H
       have Ny189 := Aside0.mk hy189
       clear hy189
       have H' := Aside0.mk H
       clear H
       try go_wp2
       have n0_ := aK (Kd.Q_drew HO_3.out)
       have n1_ := aK (Kd.Q_drew HO_4.out)
       have n2_ := aK (Kd.R_drew HO_5.out)
       have n3_ := aK (below_drew1 HB.out)
       clear HO_3
       clear HO_4
       clear HO_5
       clear HB
       have HO_3 := n0_
       have HO_4 := n1_
       have HO_5 := n2_
       have HB := n3_
       clear n0_ n1_ n2_ n3_
       obtain ⟨Ao39, co39, eo39, _⟩ := Kd.Q_slice HO_3.out
       (first | subst eo39 | (injection eo39 with f1_ f2_ f3_; have f4_ := f1_.symm; have f5_ := f3_.symm; clear f1_ f2_ f3_; subst f4_; subst f5_))
       have p175 : 0 ≤ (0 : Int) := (by omega)
       have q175 : 0 < (x3_1.length : Int) := of_decide_eq_true (aA)
       obtain ⟨ad175, e175, hx175_0⟩ := kH_at (Kd.Q_reads' HO_3.out).2.2 0 p175 q175
       cases e175
       have qi175 : (0 < x3_1.length) = True := eq_true (by omega)
       (try rw [show ((0 : Int)).toNat = 0 from rfl] at hx175_0)
       (try rw [Addr.add_zero'] at hx175_0)
       replace p175 := eq_true p175
       replace q175 := eq_true q175
       obtain ⟨Ao40, co40, eo40, _⟩ := Kd.Q_slice HO_4.out
       (first | subst eo40 | (injection eo40 with f1_ f2_ f3_; have f4_ := f1_.symm; have f5_ := f3_.symm; clear f1_ f2_ f3_; subst f4_; subst f5_))
       have p176 : 0 ≤ (0 : Int) := (by omega)
       have q176 : 0 < (x4_1.length : Int) := of_decide_eq_true (aA)
       obtain ⟨ad176, e176, hx176_0⟩ := kH_at (Kd.Q_reads' HO_4.out).2.2 0 p176 q176
       cases e176
       have qi176 : (0 < x4_1.length) = True := eq_true (by omega)
       (try rw [show ((0 : Int)).toNat = 0 from rfl] at hx176_0)
       (try rw [Addr.add_zero'] at hx176_0)
       replace p176 := eq_true p176
       replace q176 := eq_true q176
       refine start_ (n := 8) (S := fun w' => w'.cell? ad175 = some (.slice (rdH x3_1 0).A (rdH x3_1 0).xs.length (rdH x3_1 0).c) ∧ w'.cell? ad176 = some (.slice (rdH x4_1 0).A (rdH x4_1 0).xs.length (rdH x4_1 0).c)) (ds := []) #[false, false, false, false, false, false, false, false] (by kernel_rfl) rfl rfl ⟨hx175_0, hx176_0⟩ (fun hHeld => ?_); refine with_tabW r1_sorted.tab6 r1_sorted.bits6 (fun HT_ HW_ => ?_)
       generalize wc.drew = w38 at HO_3 HO_4 HO_5 HB hx175_0 hx176_0 hHeld ⊢
       refine pY (i := 0) (N := some 34) (tf 1 7) rfl rfl HT_.out ?_
       refine pY (i := 1) (N := some 35) (tf 2 6) rfl rfl HT_.out ?_
       refine pY (i := 3) (N := some 37) #[true, true, false, true, false, false, false, false] rfl rfl HT_.out ?_
       refine pY (i := 4) (N := some 38) #[true, true, false, true, true, false, false, false] rfl rfl HT_.out ?_
       refine take_ (i := 2) (N := some 36) (v := ?_) (a' := ?_) (tf 5 3) rfl rfl (take_ofW HT_.out HW_.out (by kernel_rfl)) (fun _ _ _ h => h) (Or.inl ⟨by rfl, ?_⟩) hHeld ?_ ?_
       rotate_left
       ·rintro w' ⟨s0, s1⟩
        go_simp
        with_reducible rfl
       rotate_left
       ·exact aP
       refine take_ (i := 5) (N := some 39) (v := ?_) (a' := ?_) (tf 6 2) rfl rfl (take_ofW HT_.out HW_.out (by kernel_rfl)) (fun _ _ _ h => h) (Or.inl ⟨by rfl, ?_⟩) hHeld ?_ ?_
       rotate_left
       ·rintro w' ⟨s0, s1⟩
        go_simp
        with_reducible rfl
       rotate_left
       ·exact aP
       refine one_ (i := 6) (N := some 40) (tf 7 1) rfl rfl (one_of HT_.out (by kernel_rfl)) (by decide) (fun K hK => ?_)
       refine goes_ Try.func53 (by kernel_rfl) rfl #[.slice (rdH x3_1 0).A (rdH x3_1 0).xs.length (rdH x3_1 0).c, .slice (rdH x4_1 0).A (rdH x4_1 0).xs.length (rdH x4_1 0).c] (by rfl) rfl rfl (by (try simp only [List.map_toArray, List.map_cons, List.map_nil]); first | done | rfl | (simp only [List.length_drop, List.length_take]; rfl)) ?_
       with_reducible refine (r1_CompareRows.calls kj16 _ _ (rdH x3_1 0).xs _ _ (rdH x4_1 0).xs t177 _ ?sideA ?sideB ?sideC ?sideD A25.out).mono ?_
       (case sideA => exact Kd.C_below (rdH x3_1 0).rd (below_step HB0.out bO))
       (case sideB => exact (rdH x3_1 0).le)
       (case sideC => exact Kd.C_below (rdH x4_1 0).rd (below_step HB0.out bO))
       (case sideD => exact (rdH x4_1 0).le)
       rintro e w41 ⟨rfl, hb⟩
       have HS0_ := (hb.cell (World.block_lt_of_cell? _ _ (hHeld.1))).trans (hHeld.1)
       have HS1_ := (hb.cell (World.block_lt_of_cell? _ _ (hHeld.2))).trans (hHeld.2)
       refine ⟨_, rfl, ?_⟩
       have n0_ := aK (Kd.Q_below (by (with_reducible repeat (first | apply Kd.Q_alloc | apply Kd.Q_drewN | apply Kd.Q_drew)); exact HO_3.out) hb)
       have n1_ := aK (Kd.Q_below (by (with_reducible repeat (first | apply Kd.Q_alloc | apply Kd.Q_drewN | apply Kd.Q_drew)); exact HO_4.out) hb)
       have n2_ := aK (Kd.R_below (rX HO_5.out) hb)
       have n3_ := aK (below_step bO hb)
       clear HO_3
       clear HO_4
       clear HO_5
       clear HB
       have HO_3 := n0_
       have HO_4 := n1_
       have HO_5 := n2_
       have HB := n3_
       clear n0_ n1_ n2_ n3_
       (try clear hb)
       (try clear hb2)
       (try clear hk)
       (try clear hi)
       refine hK.out _ _ ⟨HS0_, HS1_⟩ (fun hHeld => ?_)
       clear hK K
       refine norm_ (a' := ?_) ?_ ?_
       rotate_left
       ·show Act.put _ (some 40) _ = _
        simp only [Act.put, List.setIfInBounds_toArray, List.set_cons_zero, List.set_cons_succ, i64_w, i32_w]
        rfl
       refine pY (i := 7) (N := some 41) (tf 8 0) rfl rfl HT_.out ?_
       refine done_ (done_of HT_.out (by kernel_rfl)) ?_
       try go_wp2
       have n0_ := aK (Kd.Q_drew HO_3.out)
       have n1_ := aK (Kd.Q_drew HO_4.out)
       have n2_ := aK (Kd.R_drew HO_5.out)
       have n3_ := aK (below_drew1 HB.out)
       clear HO_3
       clear HO_4
       clear HO_5
       clear HB
       have HO_3 := n0_
       have HO_4 := n1_
       have HO_5 := n2_
       have HB := n3_
       clear n0_ n1_ n2_ n3_
       have p185 : 0 ≤ (0 : Int) := (by omega)
       have q185 : 0 < (x4_1.length : Int) := of_decide_eq_true (aA)
       obtain ⟨ad185, e185, hx185_0⟩ := kH_at (Kd.Q_reads' HO_4.out).2.2 0 p185 q185
       obtain rfl : ad176 = ad185 := (by injection e185)
       have qi185 : (0 < x4_1.length) = True := eq_true (by omega)
       (try rw [show ((0 : Int)).toNat = 0 from rfl] at hx185_0)
       (try rw [Addr.add_zero'] at hx185_0)
       replace p185 := eq_true p185
       replace q185 := eq_true q185
       have q43 : (1 : Int) ≤ ((x4_1.length : Int) : Int) := of_decide_eq_true (aA)
       obtain ⟨i043, hi043, _, hsz43, _⟩ := info_parts info54
       have hcut43 := cut_from (P := Try.prog) 55 54 .i64 Try.underlying55 hi043 1 hsz43 (some ad176) x4_1.length co40 1 (by omega) q43
       have hr43 := Kd.Q_drop (k := (1 : Int).toNat) HO_4.out (by omega)
       obtain ⟨A43, hA43⟩ : ∃ A1, A1 = (if co40 = (1 : Int).toNat then (some ad176) else ((some ad176) : Option Addr).map (·.add ((1 : Int).toNat * 1))) := ⟨_, rfl⟩
       obtain ⟨c43, hc43⟩ : ∃ c1, c1 = co40 - (1 : Int).toNat := ⟨_, rfl⟩
       have hy43 : y189.length = x4_1.length - (1 : Int).toNat := (by rw [Ny189.out, List.length_drop])
       rw [← Ny189.out] at hr43
       rw [← hy43, ← hA43, ← hc43] at hcut43
       replace hr43 : Kd.Q (kH w0) 54 _ w.heap.size (fun k_ => some k_ ≠ (.slice (some ad175) x3_1.length co39 : Value).ownBlock ∧ some k_ ≠ (u5 : Value).ownBlock) (.slice A43 y189.length c43) y189 := (by rw [hA43, hc43, hy43]; exact hr43)
       have HE43 : Aside0 ((Value.slice A43 y189.length c43).ownBlock = (.slice (some ad176) x4_1.length co40 : Value).ownBlock) := ⟨by rw [hA43]; split <;> (cases ((some ad176) : Option Addr) <;> rfl)⟩
       clear hy43 hi043 hsz43 HO_4 hA43 hc43
       have HO191 := Aside0.mk hr43
       clear hr43
       replace q43 := eq_true q43
       have n_ := aK (Kd.Q_mono (ok' := fun k_ => (some k_ ≠ (.slice A43 y189.length c43 : Value).ownBlock ∧ some k_ ≠ (u5 : Value).ownBlock)) HO_3.out (fun k_ hk => ⟨(by rw [HE43.out]; exact hk.1), hk.2⟩))
       clear HO_3
       have HO_3 := n_
       clear n_
       have n_ := aK (Kd.R_mono (ok' := fun k_ => (some k_ ≠ (.slice (some ad175) x3_1.length co39 : Value).ownBlock ∧ some k_ ≠ (.slice A43 y189.length c43 : Value).ownBlock)) HO_5.out (fun k_ hk => ⟨hk.1, (by rw [HE43.out]; exact hk.2)⟩))
       clear HO_5
       have HO_5 := n_
       clear n_
       refine start_ (n := 10) (S := fun w' => w'.cell? ad176 = some (.slice (rdH x4_1 0).A (rdH x4_1 0).xs.length (rdH x4_1 0).c)) (ds := [4, 5]) #[false, false, false, false, false, false, false, false, false, false] (by kernel_rfl) rfl rfl (hx185_0) (fun hHeld => ?_); refine with_tabW r1_sorted.tab8 r1_sorted.bits8 (fun HT_ HW_ => ?_)
       generalize w41.drew = w42 at HO_3 HO_4 HO_5 HB HO191 hx185_0 hHeld ⊢
       refine pY (i := 0) (N := some 50) (tf 1 9) rfl rfl HT_.out ?_
       refine pY (i := 1) (N := some 51) (tf 2 8) rfl rfl HT_.out ?_
       refine pY (i := 2) (N := some 52) (tf 3 7) rfl rfl HT_.out ?_
       refine pY (i := 6) (N := some 56) #[true, true, true, false, false, false, true, false, false, false] rfl rfl HT_.out ?_
       refine pY (i := 7) (N := some 57) #[true, true, true, false, false, false, true, true, false, false] rfl rfl HT_.out ?_
       refine take_ (i := 3) (N := some 53) (v := ?_) (a' := ?_) #[true, true, true, true, false, false, true, true, false, false] rfl rfl (take_ofW HT_.out HW_.out (by kernel_rfl)) (fun _ _ _ h => h) (Or.inl ⟨by rfl, ?_⟩) hHeld ?_ ?_
       rotate_left
       ·intro w' s0
        go_simp
        with_reducible rfl
       rotate_left
       ·exact aP
       refine last_ (i := 4) (N := some 54) #[true, true, true, true, true, false, true, true, false, false] rfl rfl (one_of HT_.out (by kernel_rfl)) (by decide) (fun K hK => ?_)
       refine value_ (w1 := ?_) (v := ?_) (by rfl) rfl ?_ ?_
       rotate_left 2
       ·go_simp
        constructor
        ·rfl
        ·rfl
       refine hK.out _ _ ?_
       clear hK K
       refine norm_ (a' := ?_) ?_ ?_
       rotate_left
       ·show Act.put _ (some 54) _ = _
        simp only [Act.put, List.setIfInBounds_toArray, List.set_cons_zero, List.set_cons_succ, i64_w, i32_w]
        rfl
       refine last_ (i := 5) (N := some 55) #[true, true, true, true, true, true, true, true, false, false] rfl rfl (one_of HT_.out (by kernel_rfl)) (by decide) (fun K hK => ?_)
       refine Kd.R_append_step (kH w0) (w0 := w) w.heap.size (by rfl) (.tmp 50) (.tmp 54) 55 54 (.slice none 0 0) 24 rfl Try.underlying55 info54 rfl Nat.one_pos (by omega) u5 x5_1 (rdH x4_1 0) [.slice (rdH x4_1 0).A (rdH x4_1 0).xs.length (rdH x4_1 0).c] (fun k_ => some k_ ≠ (.slice (some ad175) x3_1.length co39 : Value).ownBlock ∧ some k_ ≠ (.slice A43 y189.length c43 : Value).ownBlock) (fun _ => False) rfl rfl ?aP (fun _ hk => hk.elim) ?aF ?aO ?aB ?aS ?aL ?_
       (case aP => exact rfl)
       (case aB => exact bO)
       (case aF => exact (fun k_ hk => ⟨Kd.fresh' (Kd.Q_lt (by (with_reducible repeat (first | apply Kd.Q_alloc | apply Kd.Q_drewN | apply Kd.Q_drew)); exact HO_3.out)) k_ hk, Kd.fresh' (Kd.Q_lt (by (with_reducible repeat (first | apply Kd.Q_alloc | apply Kd.Q_drewN | apply Kd.Q_drew)); exact HO191.out)) k_ hk⟩))
       (case aO => exact (rX HO_5.out))
       (case aS => exact (below_size bO))
       (case aL => have := LMc36.out; omega)
       intro v187 w44 ho hb hg hat
       rw [← Ny186.out] at ho
       have n0_ := aK (Kd.Q_after (ok := (fun k_ => some k_ ≠ (.slice A43 y189.length c43 : Value).ownBlock)) (by (with_reducible repeat (first | apply Kd.Q_alloc | apply Kd.Q_drewN | apply Kd.Q_drew)); exact HO_3.out) hg hat)
       have n1_ := aK (Kd.Q_after (ok := (fun k_ => some k_ ≠ (.slice (some ad175) x3_1.length co39 : Value).ownBlock)) (by (with_reducible repeat (first | apply Kd.Q_alloc | apply Kd.Q_drewN | apply Kd.Q_drew)); exact HO191.out) hg hat)
       have n2_ := aK (hb)
       have n3_ := aK (ho)
       clear HO_3
       clear HO191
       clear HB
       clear HO_5
       have HO_3 := n0_
       have HO191 := n1_
       have HB := n2_
       have HO188 := n3_
       clear n0_ n1_ n2_ n3_
       clear ho hb hg hat
       refine hK.out _ _ ?_
       clear hK K
       refine norm_ (a' := ?_) ?_ ?_
       rotate_left
       ·show Act.put _ (some 55) _ = _
        simp only [Act.put, List.setIfInBounds_toArray, List.set_cons_zero, List.set_cons_succ, i64_w, i32_w]
        rfl
       refine pY (i := 8) (N := some 5) (tf 9 1) rfl rfl HT_.out ?_
       refine pY (i := 9) (N := some 4) (tf 10 0) rfl rfl HT_.out ?_
       refine done_ (done_of HT_.out (by kernel_rfl)) ?_
       try go_wp2
       go_roundg kj16
       case measure => have := HK1.out; have := HJ16.out; omega
       case rel => exact ⟨(x3_1), (y189), (y186), H', ⟨by have := HK1.out; have := HJ16.out; omega⟩, ⟨by (with_reducible repeat (first | apply Kd.Q_alloc | apply Kd.Q_drewN | apply Kd.Q_drew)); exact HO_3.out⟩, ⟨by (with_reducible repeat (first | apply Kd.Q_alloc | apply Kd.Q_drewN | apply Kd.Q_drew)); exact HO191.out⟩, ⟨rX HO188.out⟩, ⟨bO⟩⟩
      rw [if_pos c26] at H
      have c26b0 : decide (t177 ≤ 0) = true := decide_eq_true c26
      clear c26
      by_cases c27 : x5_1.length < 5864062014805
      rotate_left
      ·rw [if_neg c27] at H
       exact absurd H (by simp)
      rw [if_pos c27] at H
      have LMc27 := Aside0.mk c27
      clear c27
      obtain ⟨y179, hy179⟩ : ∃ y_ : List (Hdr w0), y_ = (x5_1 ++ [rdH x3_1 0]) := ⟨_, rfl⟩
      replace H : (if 1 ≤ (x3_1.length : Int) then (r1_sorted.l0 kj16 (x3_1.drop (1 : Int).toNat) x4_1 y179) else (none)) = some r := by first | (rw [hy179]; with_reducible exact H) | (have H2_ := (Option.bind_some _ _).symm.trans H; rw [hy179]; with_reducible exact H2_) | (have H2_ := (Option.bind_some _ _).symm.trans H; with_reducible exact H2_) | with_reducible exact H | (rw [hy179]; exact H) | exact H
      have Ny179 := Aside0.mk hy179
      clear hy179
      by_cases c28 : 1 ≤ (x3_1.length : Int)
      rotate_left
      ·rw [if_neg c28] at H
       exact absurd H (by simp)
      rw [if_pos c28] at H
      have c28b0 := eq_true c28
      have c28b1 : decide (1 ≤ (x3_1.length : Int)) = true := decide_eq_true c28
      clear c28
      obtain ⟨y182, hy182⟩ : ∃ y_ : List (Hdr w0), y_ = (x3_1.drop (1 : Int).toNat) := ⟨_, rfl⟩
      replace H : (r1_sorted.l0 kj16 y182 x4_1 y179) = some r := by first | (rw [hy182]; with_reducible exact H) | (have H2_ := (Option.bind_some _ _).symm.trans H; rw [hy182]; with_reducible exact H2_) | (have H2_ := (Option.bind_some _ _).symm.trans H; with_reducible exact H2_) | with_reducible exact H | (rw [hy182]; exact H) | exact H
      have Ny182 := Aside0.mk hy182
      clear hy182
      have H' := Aside0.mk H
      clear H
      try go_wp2
      have n0_ := aK (Kd.Q_drew HO_3.out)
      have n1_ := aK (Kd.Q_drew HO_4.out)
      have n2_ := aK (Kd.R_drew HO_5.out)
      have n3_ := aK (below_drew1 HB.out)
      clear HO_3
      clear HO_4
      clear HO_5
      clear HB
      have HO_3 := n0_
      have HO_4 := n1_
      have HO_5 := n2_
      have HB := n3_
      clear n0_ n1_ n2_ n3_
      obtain ⟨Ao30, co30, eo30, _⟩ := Kd.Q_slice HO_3.out
      (first | subst eo30 | (injection eo30 with f1_ f2_ f3_; have f4_ := f1_.symm; have f5_ := f3_.symm; clear f1_ f2_ f3_; subst f4_; subst f5_))
      have p175 : 0 ≤ (0 : Int) := (by omega)
      have q175 : 0 < (x3_1.length : Int) := of_decide_eq_true (aA)
      obtain ⟨ad175, e175, hx175_0⟩ := kH_at (Kd.Q_reads' HO_3.out).2.2 0 p175 q175
      cases e175
      have qi175 : (0 < x3_1.length) = True := eq_true (by omega)
      (try rw [show ((0 : Int)).toNat = 0 from rfl] at hx175_0)
      (try rw [Addr.add_zero'] at hx175_0)
      replace p175 := eq_true p175
      replace q175 := eq_true q175
      obtain ⟨Ao31, co31, eo31, _⟩ := Kd.Q_slice HO_4.out
      (first | subst eo31 | (injection eo31 with f1_ f2_ f3_; have f4_ := f1_.symm; have f5_ := f3_.symm; clear f1_ f2_ f3_; subst f4_; subst f5_))
      have p176 : 0 ≤ (0 : Int) := (by omega)
      have q176 : 0 < (x4_1.length : Int) := of_decide_eq_true (aA)
      obtain ⟨ad176, e176, hx176_0⟩ := kH_at (Kd.Q_reads' HO_4.out).2.2 0 p176 q176
      cases e176
      have qi176 : (0 < x4_1.length) = True := eq_true (by omega)
      (try rw [show ((0 : Int)).toNat = 0 from rfl] at hx176_0)
      (try rw [Addr.add_zero'] at hx176_0)
      replace p176 := eq_true p176
      replace q176 := eq_true q176
      refine start_ (n := 8) (S := fun w' => w'.cell? ad175 = some (.slice (rdH x3_1 0).A (rdH x3_1 0).xs.length (rdH x3_1 0).c) ∧ w'.cell? ad176 = some (.slice (rdH x4_1 0).A (rdH x4_1 0).xs.length (rdH x4_1 0).c)) (ds := []) #[false, false, false, false, false, false, false, false] (by kernel_rfl) rfl rfl ⟨hx175_0, hx176_0⟩ (fun hHeld => ?_); refine with_tabW r1_sorted.tab6 r1_sorted.bits6 (fun HT_ HW_ => ?_)
      generalize wc.drew = w29 at HO_3 HO_4 HO_5 HB hx175_0 hx176_0 hHeld ⊢
      refine pY (i := 0) (N := some 34) (tf 1 7) rfl rfl HT_.out ?_
      refine pY (i := 1) (N := some 35) (tf 2 6) rfl rfl HT_.out ?_
      refine pY (i := 3) (N := some 37) #[true, true, false, true, false, false, false, false] rfl rfl HT_.out ?_
      refine pY (i := 4) (N := some 38) #[true, true, false, true, true, false, false, false] rfl rfl HT_.out ?_
      refine take_ (i := 2) (N := some 36) (v := ?_) (a' := ?_) (tf 5 3) rfl rfl (take_ofW HT_.out HW_.out (by kernel_rfl)) (fun _ _ _ h => h) (Or.inl ⟨by rfl, ?_⟩) hHeld ?_ ?_
      rotate_left
      ·rintro w' ⟨s0, s1⟩
       go_simp
       with_reducible rfl
      rotate_left
      ·exact aP
      refine take_ (i := 5) (N := some 39) (v := ?_) (a' := ?_) (tf 6 2) rfl rfl (take_ofW HT_.out HW_.out (by kernel_rfl)) (fun _ _ _ h => h) (Or.inl ⟨by rfl, ?_⟩) hHeld ?_ ?_
      rotate_left
      ·rintro w' ⟨s0, s1⟩
       go_simp
       with_reducible rfl
      rotate_left
      ·exact aP
      refine one_ (i := 6) (N := some 40) (tf 7 1) rfl rfl (one_of HT_.out (by kernel_rfl)) (by decide) (fun K hK => ?_)
      refine goes_ Try.func53 (by kernel_rfl) rfl #[.slice (rdH x3_1 0).A (rdH x3_1 0).xs.length (rdH x3_1 0).c, .slice (rdH x4_1 0).A (rdH x4_1 0).xs.length (rdH x4_1 0).c] (by rfl) rfl rfl (by (try simp only [List.map_toArray, List.map_cons, List.map_nil]); first | done | rfl | (simp only [List.length_drop, List.length_take]; rfl)) ?_
      with_reducible refine (r1_CompareRows.calls kj16 _ _ (rdH x3_1 0).xs _ _ (rdH x4_1 0).xs t177 _ ?sideA ?sideB ?sideC ?sideD A25.out).mono ?_
      (case sideA => exact Kd.C_below (rdH x3_1 0).rd (below_step HB0.out bO))
      (case sideB => exact (rdH x3_1 0).le)
      (case sideC => exact Kd.C_below (rdH x4_1 0).rd (below_step HB0.out bO))
      (case sideD => exact (rdH x4_1 0).le)
      rintro e w32 ⟨rfl, hb⟩
      have HS0_ := (hb.cell (World.block_lt_of_cell? _ _ (hHeld.1))).trans (hHeld.1)
      have HS1_ := (hb.cell (World.block_lt_of_cell? _ _ (hHeld.2))).trans (hHeld.2)
      refine ⟨_, rfl, ?_⟩
      have n0_ := aK (Kd.Q_below (by (with_reducible repeat (first | apply Kd.Q_alloc | apply Kd.Q_drewN | apply Kd.Q_drew)); exact HO_3.out) hb)
      have n1_ := aK (Kd.Q_below (by (with_reducible repeat (first | apply Kd.Q_alloc | apply Kd.Q_drewN | apply Kd.Q_drew)); exact HO_4.out) hb)
      have n2_ := aK (Kd.R_below (rX HO_5.out) hb)
      have n3_ := aK (below_step bO hb)
      clear HO_3
      clear HO_4
      clear HO_5
      clear HB
      have HO_3 := n0_
      have HO_4 := n1_
      have HO_5 := n2_
      have HB := n3_
      clear n0_ n1_ n2_ n3_
      (try clear hb)
      (try clear hb2)
      (try clear hk)
      (try clear hi)
      refine hK.out _ _ ⟨HS0_, HS1_⟩ (fun hHeld => ?_)
      clear hK K
      refine norm_ (a' := ?_) ?_ ?_
      rotate_left
      ·show Act.put _ (some 40) _ = _
       simp only [Act.put, List.setIfInBounds_toArray, List.set_cons_zero, List.set_cons_succ, i64_w, i32_w]
       rfl
      refine pY (i := 7) (N := some 41) (tf 8 0) rfl rfl HT_.out ?_
      refine done_ (done_of HT_.out (by kernel_rfl)) ?_
      try go_wp2
      have n0_ := aK (Kd.Q_drew HO_3.out)
      have n1_ := aK (Kd.Q_drew HO_4.out)
      have n2_ := aK (Kd.R_drew HO_5.out)
      have n3_ := aK (below_drew1 HB.out)
      clear HO_3
      clear HO_4
      clear HO_5
      clear HB
      have HO_3 := n0_
      have HO_4 := n1_
      have HO_5 := n2_
      have HB := n3_
      clear n0_ n1_ n2_ n3_
      have p178 : 0 ≤ (0 : Int) := (by omega)
      have q178 : 0 < (x3_1.length : Int) := of_decide_eq_true (aA)
      obtain ⟨ad178, e178, hx178_0⟩ := kH_at (Kd.Q_reads' HO_3.out).2.2 0 p178 q178
      obtain rfl : ad175 = ad178 := (by injection e178)
      have qi178 : (0 < x3_1.length) = True := eq_true (by omega)
      (try rw [show ((0 : Int)).toNat = 0 from rfl] at hx178_0)
      (try rw [Addr.add_zero'] at hx178_0)
      replace p178 := eq_true p178
      replace q178 := eq_true q178
      have q34 : (1 : Int) ≤ ((x3_1.length : Int) : Int) := of_decide_eq_true (aA)
      obtain ⟨i034, hi034, _, hsz34, _⟩ := info_parts info54
      have hcut34 := cut_from (P := Try.prog) 55 54 .i64 Try.underlying55 hi034 1 hsz34 (some ad175) x3_1.length co30 1 (by omega) q34
      have hr34 := Kd.Q_drop (k := (1 : Int).toNat) HO_3.out (by omega)
      obtain ⟨A34, hA34⟩ : ∃ A1, A1 = (if co30 = (1 : Int).toNat then (some ad175) else ((some ad175) : Option Addr).map (·.add ((1 : Int).toNat * 1))) := ⟨_, rfl⟩
      obtain ⟨c34, hc34⟩ : ∃ c1, c1 = co30 - (1 : Int).toNat := ⟨_, rfl⟩
      have hy34 : y182.length = x3_1.length - (1 : Int).toNat := (by rw [Ny182.out, List.length_drop])
      rw [← Ny182.out] at hr34
      rw [← hy34, ← hA34, ← hc34] at hcut34
      replace hr34 : Kd.Q (kH w0) 54 _ w.heap.size (fun k_ => some k_ ≠ (.slice (some ad176) x4_1.length co31 : Value).ownBlock ∧ some k_ ≠ (u5 : Value).ownBlock) (.slice A34 y182.length c34) y182 := (by rw [hA34, hc34, hy34]; exact hr34)
      have HE34 : Aside0 ((Value.slice A34 y182.length c34).ownBlock = (.slice (some ad175) x3_1.length co30 : Value).ownBlock) := ⟨by rw [hA34]; split <;> (cases ((some ad175) : Option Addr) <;> rfl)⟩
      clear hy34 hi034 hsz34 HO_3 hA34 hc34
      have HO184 := Aside0.mk hr34
      clear hr34
      replace q34 := eq_true q34
      have n_ := aK (Kd.Q_mono (ok' := fun k_ => (some k_ ≠ (.slice A34 y182.length c34 : Value).ownBlock ∧ some k_ ≠ (u5 : Value).ownBlock)) HO_4.out (fun k_ hk => ⟨(by rw [HE34.out]; exact hk.1), hk.2⟩))
      clear HO_4
      have HO_4 := n_
      clear n_
      have n_ := aK (Kd.R_mono (ok' := fun k_ => (some k_ ≠ (.slice A34 y182.length c34 : Value).ownBlock ∧ some k_ ≠ (.slice (some ad176) x4_1.length co31 : Value).ownBlock)) HO_5.out (fun k_ hk => ⟨(by rw [HE34.out]; exact hk.1), hk.2⟩))
      clear HO_5
      have HO_5 := n_
      clear n_
      refine start_ (n := 10) (S := fun w' => w'.cell? ad175 = some (.slice (rdH x3_1 0).A (rdH x3_1 0).xs.length (rdH x3_1 0).c)) (ds := [4, 5]) #[false, false, false, false, false, false, false, false, false, false] (by kernel_rfl) rfl rfl (hx178_0) (fun hHeld => ?_); refine with_tabW r1_sorted.tab7 r1_sorted.bits7 (fun HT_ HW_ => ?_)
      generalize w32.drew = w33 at HO_3 HO_4 HO_5 HB HO184 hx178_0 hHeld ⊢
      refine pY (i := 0) (N := some 42) (tf 1 9) rfl rfl HT_.out ?_
      refine pY (i := 1) (N := some 43) (tf 2 8) rfl rfl HT_.out ?_
      refine pY (i := 2) (N := some 44) (tf 3 7) rfl rfl HT_.out ?_
      refine pY (i := 6) (N := some 48) #[true, true, true, false, false, false, true, false, false, false] rfl rfl HT_.out ?_
      refine pY (i := 7) (N := some 49) #[true, true, true, false, false, false, true, true, false, false] rfl rfl HT_.out ?_
      refine take_ (i := 3) (N := some 45) (v := ?_) (a' := ?_) #[true, true, true, true, false, false, true, true, false, false] rfl rfl (take_ofW HT_.out HW_.out (by kernel_rfl)) (fun _ _ _ h => h) (Or.inl ⟨by rfl, ?_⟩) hHeld ?_ ?_
      rotate_left
      ·intro w' s0
       go_simp
       with_reducible rfl
      rotate_left
      ·exact aP
      refine last_ (i := 4) (N := some 46) #[true, true, true, true, true, false, true, true, false, false] rfl rfl (one_of HT_.out (by kernel_rfl)) (by decide) (fun K hK => ?_)
      refine value_ (w1 := ?_) (v := ?_) (by rfl) rfl ?_ ?_
      rotate_left 2
      ·go_simp
       constructor
       ·rfl
       ·rfl
      refine hK.out _ _ ?_
      clear hK K
      refine norm_ (a' := ?_) ?_ ?_
      rotate_left
      ·show Act.put _ (some 46) _ = _
       simp only [Act.put, List.setIfInBounds_toArray, List.set_cons_zero, List.set_cons_succ, i64_w, i32_w]
       rfl
      refine last_ (i := 5) (N := some 47) #[true, true, true, true, true, true, true, true, false, false] rfl rfl (one_of HT_.out (by kernel_rfl)) (by decide) (fun K hK => ?_)
      refine Kd.R_append_step (kH w0) (w0 := w) w.heap.size (by rfl) (.tmp 42) (.tmp 46) 55 54 (.slice none 0 0) 24 rfl Try.underlying55 info54 rfl Nat.one_pos (by omega) u5 x5_1 (rdH x3_1 0) [.slice (rdH x3_1 0).A (rdH x3_1 0).xs.length (rdH x3_1 0).c] (fun k_ => some k_ ≠ (.slice A34 y182.length c34 : Value).ownBlock ∧ some k_ ≠ (.slice (some ad176) x4_1.length co31 : Value).ownBlock) (fun _ => False) rfl rfl ?aP (fun _ hk => hk.elim) ?aF ?aO ?aB ?aS ?aL ?_
      (case aP => exact rfl)
      (case aB => exact bO)
      (case aF => exact (fun k_ hk => ⟨Kd.fresh' (Kd.Q_lt (by (with_reducible repeat (first | apply Kd.Q_alloc | apply Kd.Q_drewN | apply Kd.Q_drew)); exact HO184.out)) k_ hk, Kd.fresh' (Kd.Q_lt (by (with_reducible repeat (first | apply Kd.Q_alloc | apply Kd.Q_drewN | apply Kd.Q_drew)); exact HO_4.out)) k_ hk⟩))
      (case aO => exact (rX HO_5.out))
      (case aS => exact (below_size bO))
      (case aL => have := LMc27.out; omega)
      intro v180 w35 ho hb hg hat
      rw [← Ny179.out] at ho
      have n0_ := aK (Kd.Q_after (ok := (fun k_ => some k_ ≠ (.slice (some ad176) x4_1.length co31 : Value).ownBlock)) (by (with_reducible repeat (first | apply Kd.Q_alloc | apply Kd.Q_drewN | apply Kd.Q_drew)); exact HO184.out) hg hat)
      have n1_ := aK (Kd.Q_after (ok := (fun k_ => some k_ ≠ (.slice A34 y182.length c34 : Value).ownBlock)) (by (with_reducible repeat (first | apply Kd.Q_alloc | apply Kd.Q_drewN | apply Kd.Q_drew)); exact HO_4.out) hg hat)
      have n2_ := aK (hb)
      have n3_ := aK (ho)
      clear HO184
      clear HO_4
      clear HB
      clear HO_5
      have HO184 := n0_
      have HO_4 := n1_
      have HB := n2_
      have HO181 := n3_
      clear n0_ n1_ n2_ n3_
      clear ho hb hg hat
      refine hK.out _ _ ?_
      clear hK K
      refine norm_ (a' := ?_) ?_ ?_
      rotate_left
      ·show Act.put _ (some 47) _ = _
       simp only [Act.put, List.setIfInBounds_toArray, List.set_cons_zero, List.set_cons_succ, i64_w, i32_w]
       rfl
      refine pY (i := 8) (N := some 5) (tf 9 1) rfl rfl HT_.out ?_
      refine pY (i := 9) (N := some 3) (tf 10 0) rfl rfl HT_.out ?_
      refine done_ (done_of HT_.out (by kernel_rfl)) ?_
      try go_wp2
      go_roundg kj16
      case measure => have := HK1.out; have := HJ16.out; omega
      case rel => exact ⟨(y182), (x4_1), (y179), H', ⟨by have := HK1.out; have := HJ16.out; omega⟩, ⟨by (with_reducible repeat (first | apply Kd.Q_alloc | apply Kd.Q_drewN | apply Kd.Q_drew)); exact HO184.out⟩, ⟨by (with_reducible repeat (first | apply Kd.Q_alloc | apply Kd.Q_drewN | apply Kd.Q_drew)); exact HO_4.out⟩, ⟨rX HO181.out⟩, ⟨bO⟩⟩
 rw [if_pos c2] at H
 have c2b0 : decide ((l0.length : Int) < 2) = true := decide_eq_true c2
 have c2b1 : decide (l0.length < 2) = true := decide_eq_true (by omega)
 clear c2
 by_cases c3 : ([] : List (Hdr w0)).length + l0.length < 5864062014805
 rotate_left
 ·rw [if_neg c3] at H
  exact absurd H (by simp)
 rw [if_pos c3] at H
 have LMc3 := Aside0.mk c3
 clear c3
 obtain ⟨y164, hy164⟩ : ∃ y_ : List (Hdr w0), y_ = (([] : List (Hdr w0)) ++ l0) := ⟨_, rfl⟩
 replace H : (some y164) = some r := by first | (rw [hy164]; with_reducible exact H) | (have H2_ := (Option.bind_some _ _).symm.trans H; rw [hy164]; with_reducible exact H2_) | (have H2_ := (Option.bind_some _ _).symm.trans H; with_reducible exact H2_) | with_reducible exact H | (rw [hy164]; exact H) | exact H
 have Ny164 := Aside0.mk hy164
 clear hy164
 obtain rfl := Option.some.inj H
 go_enter Try.func90, Try.ntmps90
 go_wp2_with (first | ((with_reducible refine gate_builtin (b := .append) (xs := #[(.const (.slice none 0 0)), .tmp 9]) rfl ?_); (try (refine gate_guard (by rfl) ?_; dsimp only)); at_builtin; refine Kd.R_append_rows (kH w0) (w0 := w) w.heap.size rfl (.const (.slice none 0 0)) (.tmp 9) 55 54 (.slice none 0 0) 24 rfl Try.underlying55 info54 rfl Nat.one_pos (by omega) (.slice none 0 0) ([] : List (Hdr w0)) l0 _ _ _ (fun _ => True) (fun _ => False) rfl rfl ?aO ?aR (fun _ _ h => h) (fun _ h => h.elim) ?aF ?aB ?aS ?aL ?_; (case aR => exact cX HR0.out); (case aB => exact bO); (case aF => exact (fun _ _ => trivial)); (case aO => exact ((Kd.R_nil _ _ _ _ (fun _ => True)))); (case aS => exact (below_size bO)); (case aL => have := LMc3.out; omega); intro v165 w4 ho hb hg hat; rw [← Ny164.out] at ho; have n0_ := aK (hb); have n1_ := aK (ho); clear HB; have HB := n0_; have HO166 := n1_; clear n0_ n1_ ho hb hg hat))
 go_ret
 exact ⟨_, eW, rX HO166.out, bO⟩
theorem r1_Compare.some_ (x y : S24) : r1_Compare.f x.f0 x.f1 x.f2 y.f0 y.f1 y.f2 = some (cmpV x y) := by
 unfold r1_Compare.f
 rcases cmpV_cases x y with ⟨h, e⟩ | ⟨h, e⟩ | ⟨h, e⟩
 ·rw [e]
  rcases h with h | ⟨e1, h | ⟨e2, h⟩⟩
  ·rw [if_pos h]
  ·rw [if_neg (by omega), if_neg (by omega), if_pos h]
  ·rw [if_neg (by omega), if_neg (by omega), if_neg (by omega), if_neg (by omega), if_pos (by rw [bytesLess_eq]; exact decide_eq_true h)]
 ·subst h
  rw [e, if_neg (by omega), if_neg (by omega), if_neg (by omega), if_neg (by omega), if_neg (by rw [bytesLess_eq]; exact fun k => List.lt_irrefl _ (of_decide_eq_true k)), if_pos (by simp)]
 ·rw [e]
  rcases h with h | ⟨e1, h | ⟨e2, h⟩⟩
  ·rw [if_neg (by omega), if_pos h]
  ·rw [if_neg (by omega), if_neg (by omega), if_neg (by omega), if_pos h]
  ·rw [if_neg (by omega), if_neg (by omega), if_neg (by omega), if_neg (by omega), if_neg (by rw [bytesLess_eq]; exact fun k => List.lt_asymm h (of_decide_eq_true k)), if_neg (by
    intro k
    rw [beq_iff_eq] at k
    rw [k] at h
    exact List.lt_irrefl _ h)]
theorem r1_CompareRows.same : ∀ k, (∀ x y i, r1_CompareRows.l0 k x y i = v_CompareRows.l0 k x y i) ∧ (∀ x y i b, r1_CompareRows.j1 k x y i b = v_CompareRows.j1 k x y i b)
 | 0 => ⟨fun _ _ _ => rfl, fun _ _ _ _ => rfl⟩
 | k + 1 => by
  obtain ⟨h0, h1⟩ := r1_CompareRows.same k
  refine ⟨fun x y i => ?_, fun x y i b => ?_⟩
  ·rw [r1_CompareRows.l0, v_CompareRows.l0]
   simp only [h1]
  ·rw [r1_CompareRows.j1, v_CompareRows.j1]
   simp only [h0, r1_Compare.some_, v_Compare.some_]
theorem r1_CompareRows.some_ (x y : List S24) (hx : x.length ≤ 9223372036854775807) (k : Nat) (hk : 2 * x.length + 2 ≤ k) : r1_CompareRows.f k x y = some (cmpL x y) := by
 rw [r1_CompareRows.f, (r1_CompareRows.same k).1]
 exact v_CompareRows.some_ x y hx k hk
theorem r1_CompareRows.ev (x y : List S24) (hx : x.length ≤ 9223372036854775807) : Ev (fun k => r1_CompareRows.f k x y) (cmpL x y) := ⟨2 * x.length + 2, fun k hk => r1_CompareRows.some_ x y hx k hk⟩
end Go.Proofs.Ytpjcdacnhalclaa.Q
