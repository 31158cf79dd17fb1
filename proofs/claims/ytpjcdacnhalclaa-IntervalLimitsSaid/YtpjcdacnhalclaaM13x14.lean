/- A part of the proof of the law that the last part names: facts of the functions that the law calls. No condition beyond those that stand in them. -/
import Derived.Test.YtpjcdacnhalclaaM13x3
import Derived.Test.YtpjcdacnhalclaaM13x13
import Derived.Test.YtpjcdacnhalclaaM13x10
import Derived.Test.YtpjcdacnhalclaaM13x11
import Derived.Test.YtpjcdacnhalclaaM13x7
import Derived.Test.YtpjcdacnhalclaaM13x12
import Derived.Test.YtpjcdacnhalclaaM13x8
import Derived.Test.YtpjcdacnhalclaaRows
import Derived.Test.YtpjcdacnhalclaaM13x5
namespace Go.Proofs.Ytpjcdacnhalclaa.Q
open Go.RowKit Go.Proofs.YtpjcdacnhalclaaW.PrintWords Go.Proofs.YtpjcdacnhalclaaW.PrintLast Go.Proofs.YtpjcdacnhalclaaW.PrintMore
attribute [local go_sem] max2_int min2_int max_two min_two max_three min_three max_four min_four
set_option linter.unusedVariables false
set_option linter.unusedSimpArgs false
def partsynclaw03_IntervalLimits.l0 : Nat → List (S65) → List (S65) → Int → Int → Option (Bool)
 | 0, _, _, _, _ => none
 | k + 1, x3, x4, x5, x6 => if x6 < x5 then (if x3.length < 1954687338268 then (if x4.length < 1954687338268 then (partsynclaw03_IntervalLimits.l0 k (x3 ++ [(⟨(⟨4, wrap64 (4 * x6), (⟨#[]⟩ : ByteArray)⟩ : S24), (⟨4, wrap64 ((wrap64 (4 * x6)) + 1), (⟨#[]⟩ : ByteArray)⟩ : S24), false⟩ : S65)]) (x4 ++ [(⟨(⟨4, wrap64 ((wrap64 (4 * x6)) + 2), (⟨#[]⟩ : ByteArray)⟩ : S24), (⟨4, wrap64 ((wrap64 (4 * x6)) + 3), (⟨#[]⟩ : ByteArray)⟩ : S24), false⟩ : S65)]) x5 (wrap64 (x6 + 1))) else (none)) else (none)) else ((interval_Union.f k x3 x4).bind fun bt930 => (if (wrap64 (2 * x5)) > 64 then ((partsynclaw03_begun.f k).bind fun t934 => (if t934 = true then (if bt930.2 = 2 then (some ((bt930.1.length : Int) == 0)) else (some false)) else (some false))) else ((partsynclaw03_begun.f k).bind fun t935 => (if t935 = true then (if bt930.2 = 0 then (some ((bt930.1.length : Int) == (wrap64 (2 * x5)))) else (some false)) else (some false)))))
def partsynclaw03_IntervalLimits.f (k : Nat) (a0 : Int) : Option (Bool) := partsynclaw03_IntervalLimits.l0 k ([] : List (S65)) ([] : List (S65)) (wrap64 (28 + (Int.tmod (wrap64 (a0)) 10))) 0
set_option maxHeartbeats 8000000 in
set_option maxRecDepth 100000 in
theorem partsynclaw03_IntervalLimits.calls (k : Nat) (a0 : Int) (r : Bool) (w : World) (h : partsynclaw03_IntervalLimits.f k a0 = some r) (HRT : Aside0 (r = true)) :
  Calls Try.prog 13 #[.int .u8 a0] w fun e w' => e = .returned (.bool r) ∧ Below w.heap.size w w' := by
 have hu24 := Try.underlying24
 have hu65 := Try.underlying65
 have HB := Aside0.mk (Below.refl w.heap.size w)
 have H : (partsynclaw03_IntervalLimits.l0 k ([] : List (S65)) ([] : List (S65)) (wrap64 (28 + (Int.tmod (wrap64 (a0)) 10))) 0) = some r := h
 clear h
 have H' := Aside0.mk H
 clear H
 go_enter Try.func13, Try.ntmps13
 go_wp2
 go_loopg [3, 4, 6] k (fun kq v3 v4 v6 w' => ∃ (x3_1 : List (S65)) (x4_1 : List (S65)) (x6_1 : Int), v6 = .int .i64 x6_1 ∧ Aside0 (partsynclaw03_IntervalLimits.l0 kq x3_1 x4_1 (wrap64 (28 + (Int.tmod (wrap64 (a0)) 10))) x6_1 = some r) ∧ Aside0 (kq ≤ k) ∧ Aside0 (Kd.R k65 65 w' w.heap.size (fun k_ => some k_ ≠ (v4 : Value).ownBlock) v3 x3_1) ∧ Aside0 (Kd.R k65 65 w' w.heap.size (fun k_ => some k_ ≠ (v3 : Value).ownBlock) v4 x4_1) ∧ Aside0 (Below w.heap.size w w'))
 case atStart => exact ⟨(([] : List (S65))), (([] : List (S65))), (0), (by first | rfl | (simp; done) | (simp [*]; done)), H', ⟨Nat.le_refl _⟩, ⟨by first | exact Kd.R_nil _ _ _ _ _ | exact Kd.N_nil _ _ _ _ _ | exact Kd.V_nil _ _ _ _ _ | exact Kd.Q_nil _ _ _ _ _ | exact Kd.S_nil _ _ _ _ _⟩, ⟨by first | exact Kd.R_nil _ _ _ _ _ | exact Kd.N_nil _ _ _ _ _ | exact Kd.V_nil _ _ _ _ _ | exact Kd.Q_nil _ _ _ _ _ | exact Kd.S_nil _ _ _ _ _⟩, ⟨bO⟩⟩
 case round =>
  clear H'
  try clear c1
  obtain ⟨x3_1, x4_1, x6_1, rfl, HA, HK1, HO_3, HO_4, HB⟩ := hrel
  cases gk with
  | zero => exact absurd HA.out (by simp [partsynclaw03_IntervalLimits.l0])
  | succ k1 =>
   have H := HA.out
   clear HA
   simp only [partsynclaw03_IntervalLimits.l0] at H
   by_cases c2 : x6_1 < (wrap64 (28 + (Int.tmod (wrap64 (a0)) 10)))
   ·rw [if_pos c2] at H
    have c2b0 : decide (x6_1 < (wrap64 (28 + (Int.tmod (wrap64 (a0)) 10)))) = true := decide_eq_true c2
    clear c2
    by_cases c3 : x3_1.length < 1954687338268
    ·rw [if_pos c3] at H
     have LMc3 := Aside0.mk c3
     clear c3
     obtain ⟨y924, hy924⟩ : ∃ y_ : List (S65), y_ = (x3_1 ++ [(⟨(⟨4, wrap64 (4 * x6_1), (⟨#[]⟩ : ByteArray)⟩ : S24), (⟨4, wrap64 ((wrap64 (4 * x6_1)) + 1), (⟨#[]⟩ : ByteArray)⟩ : S24), false⟩ : S65)]) := ⟨_, rfl⟩
     replace H : (if x4_1.length < 1954687338268 then (partsynclaw03_IntervalLimits.l0 k1 y924 (x4_1 ++ [(⟨(⟨4, wrap64 ((wrap64 (4 * x6_1)) + 2), (⟨#[]⟩ : ByteArray)⟩ : S24), (⟨4, wrap64 ((wrap64 (4 * x6_1)) + 3), (⟨#[]⟩ : ByteArray)⟩ : S24), false⟩ : S65)]) (wrap64 (28 + (Int.tmod (wrap64 (a0)) 10))) (wrap64 (x6_1 + 1))) else (none)) = some r := by first | (rw [hy924]; with_reducible exact H) | (have H2_ := (Option.bind_some _ _).symm.trans H; rw [hy924]; with_reducible exact H2_) | (have H2_ := (Option.bind_some _ _).symm.trans H; with_reducible exact H2_) | with_reducible exact H | (rw [hy924]; exact H) | exact H
     have Ny924 := Aside0.mk hy924
     clear hy924
     by_cases c4 : x4_1.length < 1954687338268
     ·rw [if_pos c4] at H
      have LMc4 := Aside0.mk c4
      clear c4
      obtain ⟨y927, hy927⟩ : ∃ y_ : List (S65), y_ = (x4_1 ++ [(⟨(⟨4, wrap64 ((wrap64 (4 * x6_1)) + 2), (⟨#[]⟩ : ByteArray)⟩ : S24), (⟨4, wrap64 ((wrap64 (4 * x6_1)) + 3), (⟨#[]⟩ : ByteArray)⟩ : S24), false⟩ : S65)]) := ⟨_, rfl⟩
      replace H : (partsynclaw03_IntervalLimits.l0 k1 y924 y927 (wrap64 (28 + (Int.tmod (wrap64 (a0)) 10))) (wrap64 (x6_1 + 1))) = some r := by first | (rw [hy927]; with_reducible exact H) | (have H2_ := (Option.bind_some _ _).symm.trans H; rw [hy927]; with_reducible exact H2_) | (have H2_ := (Option.bind_some _ _).symm.trans H; with_reducible exact H2_) | with_reducible exact H | (rw [hy927]; exact H) | exact H
      have Ny927 := Aside0.mk hy927
      clear hy927
      have H' := Aside0.mk H
      clear H
      go_wp2_with (first | ((with_reducible refine gate_builtin (b := .append) (xs := #[.tmp 18, .tmp 27]) rfl ?_); (try (refine gate_guard (by rfl) ?_; dsimp only)); at_builtin; refine Kd.R_append k65 (w0 := w) w.heap.size rfl (.tmp 18) (.tmp 27) 36 65 (.agg #[(.int .i64 0), (.int .i64 0), (.string ⟨#[]⟩), (.int .i64 0), (.int .i64 0), (.string ⟨#[]⟩), (.bool false)]) 72 rfl Try.underlying36 info65 rfl (by decide) (by omega) u3 x3_1 (⟨(⟨4, wrap64 (4 * x6_1), (⟨#[]⟩ : ByteArray)⟩ : S24), (⟨4, wrap64 ((wrap64 (4 * x6_1)) + 1), (⟨#[]⟩ : ByteArray)⟩ : S24), false⟩ : S65) [.int .i64 4, .int .i64 (wrap64 (4 * x6_1)), .string (⟨#[]⟩ : ByteArray), .int .i64 4, .int .i64 (wrap64 ((wrap64 (4 * x6_1)) + 1)), .string (⟨#[]⟩ : ByteArray), .bool false] (fun k_ => some k_ ≠ (u4 : Value).ownBlock) (fun _ => False) rfl rfl ?aP (fun _ hk => hk.elim) ?aF ?aO ?aB ?aS ?aL ?_; (case aP => exact k65_mkM _ _ _ (⟨(⟨4, wrap64 (4 * x6_1), (⟨#[]⟩ : ByteArray)⟩ : S24), (⟨4, wrap64 ((wrap64 (4 * x6_1)) + 1), (⟨#[]⟩ : ByteArray)⟩ : S24), false⟩ : S65)); (case aB => exact bO); (case aF => exact (fun k_ hk => Kd.fresh' (Kd.R_lt (rX HO_4.out)) k_ hk)); (case aO => exact (rX HO_3.out)); (case aS => exact (below_size bO)); (case aL => have := LMc3.out; omega); intro v925 w5 ho hb hg hat; rw [← Ny924.out] at ho; have n0_ := Aside0.mk (Kd.R_after (ok := (fun _ => True)) (by (with_reducible repeat (first | apply Kd.R_alloc | apply Kd.R_drewN | apply Kd.R_drew)); exact Kd.R_mono HO_4.out (fun _ hk => ⟨trivial, hk⟩)) hg hat); have n1_ := Aside0.mk (hb); have n2_ := Aside0.mk (ho); clear HO_4; clear HB; clear HO_3; have HO_4 := n0_; have HB := n1_; have HO926 := n2_; clear n0_ n1_ n2_; clear ho hb hg hat) | ((with_reducible refine gate_builtin (b := .append) (xs := #[.tmp 29, .tmp 39]) rfl ?_); (try (refine gate_guard (by rfl) ?_; dsimp only)); at_builtin; refine Kd.R_append k65 (w0 := w) w.heap.size rfl (.tmp 29) (.tmp 39) 36 65 (.agg #[(.int .i64 0), (.int .i64 0), (.string ⟨#[]⟩), (.int .i64 0), (.int .i64 0), (.string ⟨#[]⟩), (.bool false)]) 72 rfl Try.underlying36 info65 rfl (by decide) (by omega) u4 x4_1 (⟨(⟨4, wrap64 ((wrap64 (4 * x6_1)) + 2), (⟨#[]⟩ : ByteArray)⟩ : S24), (⟨4, wrap64 ((wrap64 (4 * x6_1)) + 3), (⟨#[]⟩ : ByteArray)⟩ : S24), false⟩ : S65) [.int .i64 4, .int .i64 (wrap64 ((wrap64 (4 * x6_1)) + 2)), .string (⟨#[]⟩ : ByteArray), .int .i64 4, .int .i64 (wrap64 ((wrap64 (4 * x6_1)) + 3)), .string (⟨#[]⟩ : ByteArray), .bool false] (fun k_ => some k_ ≠ (v925 : Value).ownBlock) (fun _ => False) rfl rfl ?aP (fun _ hk => hk.elim) ?aF ?aO ?aB ?aS ?aL ?_; (case aP => exact k65_mkM _ _ _ (⟨(⟨4, wrap64 ((wrap64 (4 * x6_1)) + 2), (⟨#[]⟩ : ByteArray)⟩ : S24), (⟨4, wrap64 ((wrap64 (4 * x6_1)) + 3), (⟨#[]⟩ : ByteArray)⟩ : S24), false⟩ : S65)); (case aB => exact bO); (case aF => exact (fun k_ hk => Kd.fresh' (Kd.R_lt (rX HO926.out)) k_ hk)); (case aO => exact (by (with_reducible repeat (first | apply Kd.R_alloc | apply Kd.R_drewN | apply Kd.R_drew)); exact Kd.R_mono HO_4.out (fun _ hk => hk.2))); (case aS => exact (below_size bO)); (case aL => have := LMc4.out; omega); intro v928 w6 ho hb hg hat; rw [← Ny927.out] at ho; have n0_ := Aside0.mk (Kd.R_after (ok := (fun _ => True)) (by (with_reducible repeat (first | apply Kd.R_alloc | apply Kd.R_drewN | apply Kd.R_drew)); exact Kd.R_mono HO926.out (fun _ hk => ⟨trivial, hk⟩)) hg hat); have n1_ := Aside0.mk (hb); have n2_ := Aside0.mk (ho); clear HO926; clear HB; clear HO_4; have HO926 := n0_; have HB := n1_; have HO929 := n2_; clear n0_ n1_ n2_; clear ho hb hg hat))
      go_roundg k1
      case measure => have := HK1.out; omega
      case rel => exact ⟨(y924), (y927), (wrap64 (x6_1 + 1)), (by first | rfl | (simp; done) | (simp [*]; done)), H', ⟨by have := HK1.out; omega⟩, ⟨by (with_reducible repeat (first | apply Kd.R_alloc | apply Kd.R_drewN | apply Kd.R_drew)); exact Kd.R_mono HO926.out (fun _ hk => hk.2)⟩, ⟨rX HO929.out⟩, ⟨bO⟩⟩
     ·rw [if_neg c4] at H
      exact absurd H (by simp)
    ·rw [if_neg c3] at H
     exact absurd H (by simp)
   ·rw [if_neg c2] at H
    have c2b0 : decide (x6_1 < (wrap64 (28 + (Int.tmod (wrap64 (a0)) 10)))) = false := decide_eq_false c2
    clear c2
    replace H := Option.bind_eq_some_iff.mp H
    obtain ⟨⟨t930, t931⟩, A70, H⟩ := H
    replace H : (if (wrap64 (2 * (wrap64 (28 + (Int.tmod (wrap64 (a0)) 10))))) > 64 then ((partsynclaw03_begun.f k1).bind fun t934 => (if t934 = true then (if t931 = 2 then (some ((t930.length : Int) == 0)) else (some false)) else (some false))) else ((partsynclaw03_begun.f k1).bind fun t935 => (if t935 = true then (if t931 = 0 then (some ((t930.length : Int) == (wrap64 (2 * (wrap64 (28 + (Int.tmod (wrap64 (a0)) 10))))))) else (some false)) else (some false)))) = some r := H
    have A7 := Aside0.mk A70
    clear A70
    by_cases c8 : (wrap64 (2 * (wrap64 (28 + (Int.tmod (wrap64 (a0)) 10))))) > 64
    ·rw [if_pos c8] at H
     have c8b0 : decide (64 < (wrap64 (2 * (wrap64 (28 + (Int.tmod (wrap64 (a0)) 10)))))) = true := decide_eq_true c8
     clear c8
     replace H := Option.bind_eq_some_iff.mp H
     obtain ⟨t934, A90, H⟩ := H
     replace H : (if t934 = true then (if t931 = 2 then (some ((t930.length : Int) == 0)) else (some false)) else (some false)) = some r := H
     have A9 := Aside0.mk A90
     clear A90
     by_cases c10 : t934 = true
     ·subst c10
      have H1 : (if t931 = 2 then (some ((t930.length : Int) == 0)) else (some false)) = some r := by rw [if_pos rfl] at H; exact H
      clear H
      have H := H1
      clear H1
      by_cases c11 : t931 = 2
      ·rw [if_pos c11] at H
       have c11b0 : (t931 == 2) = true := beq_iff_eq.mpr c11
       have c11b1 : (t931 != 2) = false := bne_eq_false_iff_eq.mpr c11
       clear c11
       obtain rfl := Option.some.inj H
       obtain ⟨Ao12, co12, eo12⟩ := Kd.R_slice HO_3.out
       subst eo12
       obtain ⟨Ao13, co13, eo13⟩ := Kd.R_slice HO_4.out
       subst eo13
       go_wp2_with (first | ((with_reducible refine gate_callee (f := 30) rfl ?_); refine gL (some 44) rfl Try.func30 #[.slice Ao12 x3_1.length co12, .slice Ao13 x4_1.length co13] rfl ?_; (with_reducible refine (interval_Union.calls k1 _ _ x3_1 _ _ x4_1 t930 t931 _ ?side1 ?side2 ?side3 ?side4 A7.out).mono ?_); (case side1 => exact cX (Kd.R_reads' HO_3.out).2.2); (case side2 => exact (Kd.R_reads' HO_3.out).2.1); (case side3 => exact cX (Kd.R_reads' HO_4.out).2.2); (case side4 => exact (Kd.R_reads' HO_4.out).2.1); rintro e w14 ⟨v932, rfl, ho0, hb⟩; refine ⟨_, rfl, ?_⟩; have n0_ := Aside0.mk (Kd.R_elder' (rX HO_3.out) (Kd.R_base ho0) hb); have n1_ := Aside0.mk (Kd.R_elder' (rX HO_4.out) (Kd.R_base ho0) hb); have n2_ := Aside0.mk (Kd.R_lower (Kd.R_new' (Kd.R_new' ho0 (Kd.R_lt (rX HO_3.out))) (Kd.R_lt (rX HO_4.out))) (below_size bO)); have n3_ := Aside0.mk (below_step bO hb); clear HO_3; clear HO_4; clear HB; have HO_3 := n0_; have HO_4 := n1_; have HO933 := n2_; have HB := n3_; clear n0_ n1_ n2_ n3_; (try clear hb); (try clear hb2); (try clear hk); (try clear hi); (try clear ho0)) | ((with_reducible refine gate_callee (f := 36) rfl ?_); refine gL (some 50) rfl Try.func36 #[] rfl ?_; (with_reducible refine (partsynclaw03_begun.calls k1  true _ A9.out).mono ?_); rintro e w15 ⟨rfl, hb⟩; refine ⟨_, rfl, ?_⟩; have n0_ := Aside0.mk (Kd.R_below (rX HO_3.out) hb); have n1_ := Aside0.mk (Kd.R_below (rX HO_4.out) hb); have n2_ := Aside0.mk (Kd.R_below (rX HO933.out) hb); have n3_ := Aside0.mk (below_step bO hb); clear HO_3; clear HO_4; clear HO933; clear HB; have HO_3 := n0_; have HO_4 := n1_; have HO933 := n2_; have HB := n3_; clear n0_ n1_ n2_ n3_; (try clear hb); (try clear hb2); (try clear hk); (try clear hi); obtain ⟨Ao16, co16, eo16⟩ := Kd.R_slice HO933.out; subst eo16))
       go_ret
       exact ⟨by first | rfl | (simp [errW_none, errW_some] <;> rfl) | (simp [*, errW_none, errW_some] <;> rfl), by repeat (first | (with_reducible first | exact HB.out | apply below_alloc | apply pw_below_drewN | apply below_drew1) | exact HB.out)⟩
      ·rw [if_neg c11] at H
       have c11b0 : (t931 == 2) = false := beq_eq_false_iff_ne.mpr c11
       have c11b1 : (t931 != 2) = true := bne_iff_ne.mpr c11
       exact absurd (H.trans (congrArg some HRT.out)) (by simp)
     ·replace c10 := Bool.eq_false_iff.mpr c10
      subst c10
      have H1 : (some false) = some r := by rw [if_neg (show ¬ (false = true) by decide)] at H; exact H
      clear H
      have H := H1
      clear H1
      exact absurd (H.trans (congrArg some HRT.out)) (by simp)
    ·rw [if_neg c8] at H
     have c8b0 : decide (64 < (wrap64 (2 * (wrap64 (28 + (Int.tmod (wrap64 (a0)) 10)))))) = false := decide_eq_false c8
     clear c8
     replace H := Option.bind_eq_some_iff.mp H
     obtain ⟨t935, A170, H⟩ := H
     replace H : (if t935 = true then (if t931 = 0 then (some ((t930.length : Int) == (wrap64 (2 * (wrap64 (28 + (Int.tmod (wrap64 (a0)) 10))))))) else (some false)) else (some false)) = some r := H
     have A17 := Aside0.mk A170
     clear A170
     by_cases c18 : t935 = true
     ·subst c18
      have H1 : (if t931 = 0 then (some ((t930.length : Int) == (wrap64 (2 * (wrap64 (28 + (Int.tmod (wrap64 (a0)) 10))))))) else (some false)) = some r := by rw [if_pos rfl] at H; exact H
      clear H
      have H := H1
      clear H1
      by_cases c19 : t931 = 0
      ·rw [if_pos c19] at H
       have c19b0 : (t931 == 0) = true := beq_iff_eq.mpr c19
       have c19b1 : (t931 != 0) = false := bne_eq_false_iff_eq.mpr c19
       clear c19
       obtain rfl := Option.some.inj H
       obtain ⟨Ao20, co20, eo20⟩ := Kd.R_slice HO_3.out
       subst eo20
       obtain ⟨Ao21, co21, eo21⟩ := Kd.R_slice HO_4.out
       subst eo21
       go_wp2_with (first | ((with_reducible refine gate_callee (f := 30) rfl ?_); refine gL (some 44) rfl Try.func30 #[.slice Ao20 x3_1.length co20, .slice Ao21 x4_1.length co21] rfl ?_; (with_reducible refine (interval_Union.calls k1 _ _ x3_1 _ _ x4_1 t930 t931 _ ?side1 ?side2 ?side3 ?side4 A7.out).mono ?_); (case side1 => exact cX (Kd.R_reads' HO_3.out).2.2); (case side2 => exact (Kd.R_reads' HO_3.out).2.1); (case side3 => exact cX (Kd.R_reads' HO_4.out).2.2); (case side4 => exact (Kd.R_reads' HO_4.out).2.1); rintro e w22 ⟨v932, rfl, ho0, hb⟩; refine ⟨_, rfl, ?_⟩; have n0_ := Aside0.mk (Kd.R_elder' (rX HO_3.out) (Kd.R_base ho0) hb); have n1_ := Aside0.mk (Kd.R_elder' (rX HO_4.out) (Kd.R_base ho0) hb); have n2_ := Aside0.mk (Kd.R_lower (Kd.R_new' (Kd.R_new' ho0 (Kd.R_lt (rX HO_3.out))) (Kd.R_lt (rX HO_4.out))) (below_size bO)); have n3_ := Aside0.mk (below_step bO hb); clear HO_3; clear HO_4; clear HB; have HO_3 := n0_; have HO_4 := n1_; have HO933 := n2_; have HB := n3_; clear n0_ n1_ n2_ n3_; (try clear hb); (try clear hb2); (try clear hk); (try clear hi); (try clear ho0)) | ((with_reducible refine gate_callee (f := 36) rfl ?_); refine gL (some 60) rfl Try.func36 #[] rfl ?_; (with_reducible refine (partsynclaw03_begun.calls k1  true _ A17.out).mono ?_); rintro e w23 ⟨rfl, hb⟩; refine ⟨_, rfl, ?_⟩; have n0_ := Aside0.mk (Kd.R_below (rX HO_3.out) hb); have n1_ := Aside0.mk (Kd.R_below (rX HO_4.out) hb); have n2_ := Aside0.mk (Kd.R_below (rX HO933.out) hb); have n3_ := Aside0.mk (below_step bO hb); clear HO_3; clear HO_4; clear HO933; clear HB; have HO_3 := n0_; have HO_4 := n1_; have HO933 := n2_; have HB := n3_; clear n0_ n1_ n2_ n3_; (try clear hb); (try clear hb2); (try clear hk); (try clear hi); obtain ⟨Ao24, co24, eo24⟩ := Kd.R_slice HO933.out; subst eo24))
       go_ret
       exact ⟨by first | rfl | (simp [errW_none, errW_some] <;> rfl) | (simp [*, errW_none, errW_some] <;> rfl), by repeat (first | (with_reducible first | exact HB.out | apply below_alloc | apply pw_below_drewN | apply below_drew1) | exact HB.out)⟩
      ·rw [if_neg c19] at H
       have c19b0 : (t931 == 0) = false := beq_eq_false_iff_ne.mpr c19
       have c19b1 : (t931 != 0) = true := bne_iff_ne.mpr c19
       exact absurd (H.trans (congrArg some HRT.out)) (by simp)
     ·replace c18 := Bool.eq_false_iff.mpr c18
      subst c18
      have H1 : (some false) = some r := by rw [if_neg (show ¬ (false = true) by decide)] at H; exact H
      clear H
      have H := H1
      clear H1
      exact absurd (H.trans (congrArg some HRT.out)) (by simp)
end Go.Proofs.Ytpjcdacnhalclaa.Q
namespace Go.Proofs.Ytpjcdacnhalclaa.Q
open Go.RowKit Go.Proofs.YtpjcdacnhalclaaW.PrintWords Go.Proofs.YtpjcdacnhalclaaW.PrintLast Go.Proofs.YtpjcdacnhalclaaW.PrintMore
attribute [local go_sem] max2_int min2_int max_two min_two max_three min_three max_four min_four
set_option linter.unusedVariables false
set_option linter.unusedSimpArgs false
/-- Intervals of one number each, d apart. -/
def ladder (d s : Int) : Nat → List S65
  | 0 => []
  | m + 1 => ⟨iV s, iV (s + 1), false⟩ :: ladder d (s + d) m
theorem ladder_len (d : Int) : ∀ (m : Nat) (s : Int), (ladder d s m).length = m
  | 0, _ => rfl
  | m + 1, s => by rw [ladder, List.length_cons, ladder_len d m]
theorem ladder_snoc (d : Int) : ∀ (m : Nat) (s : Int), ladder d s (m + 1) = ladder d s m ++ [⟨iV (s + d * m), iV (s + d * m + 1), false⟩]
  | 0, s => by simp [ladder]
  | m + 1, s => by
    rw [ladder, ladder_snoc d m, ladder, List.cons_append]
    have : s + d + d * (m : Int) = s + d * ((m + 1 : Nat) : Int) := by rw [Int.natCast_add, Int.mul_add, Int.natCast_one, Int.mul_one]; omega
    rw [this]
theorem ladder_can (d : Int) (hd : 2 ≤ d) : ∀ (m : Nat) (s : Int), Can (ladder d s m)
  | 0, _ => .nil
  | m + 1, s => by
    rw [ladder]
    refine .cons _ _ _ (iV_valid _) (iV_valid _) (iV_lt.2 (by omega)) (fun y hy => ?_) (ladder_can d hd m _)
    cases m with
    | zero => simp [ladder] at hy
    | succ m =>
      simp [ladder] at hy
      subst hy
      exact iV_lt.2 (by omega)
theorem ladder_mem (v : S24) : ∀ (m : Nat) (s : Int), inI (ladder 2 s (2 * m)) v = (inI (ladder 4 s m) v || inI (ladder 4 (s + 2) m) v)
  | 0, _ => rfl
  | m + 1, s => by
    rw [show 2 * (m + 1) = 2 * m + 1 + 1 by omega, ladder, ladder, ladder, ladder, inI_cons, inI_cons, inI_cons, inI_cons, show s + 2 + 2 = s + 4 by omega, ladder_mem v m (s + 4), show s + 4 + 2 = s + 2 + 4 by omega]
    generalize oneI _ v = A
    generalize oneI _ v = B
    generalize inI _ v = C
    generalize inI _ v = D
    cases A <;> cases B <;> cases C <;> cases D <;> rfl
theorem partsynclaw03_IntervalLimits.l0_ev (k : Nat) (hk : k ≤ 64) : ∀ (m i : Nat), k - i = m → i ≤ k → Ev (fun n => partsynclaw03_IntervalLimits.l0 n (ladder 4 0 i) (ladder 4 2 i) k i) true := by
  intro m
  induction m with
  | zero =>
    intro i hm hi
    have e : i = k := by omega
    subst e
    refine Ev.step (fun n => by rw [partsynclaw03_IntervalLimits.l0, if_neg (by omega)]) ?_
    have oa : okI (ladder 4 0 i) = true := okI_can.2 ⟨by rw [ladder_len]; omega, ladder_can 4 (by omega) i 0⟩
    have ob : okI (ladder 4 2 i) = true := okI_can.2 ⟨by rw [ladder_len]; omega, ladder_can 4 (by omega) i 2⟩
    obtain ⟨r, hr, e⟩ := interval_combine.ok kOr oa ob
    have hrl : r = ladder 2 0 (2 * i) := hr.can.unique (ladder_can 2 (by omega) _ _) fun v hv => by rw [hr.mem v hv, ladder_mem v i 0]; rfl
    have hlen : r.length = 2 * i := by rw [hrl, ladder_len]
    have hu : Ev (fun n => interval_Union.f n (ladder 4 0 i) (ladder 4 2 i)) (if r.length > 64 then ([], 2) else (r, 0)) := by
      unfold interval_Union.f
      exact Ev.bind e (Ev.now _)
    refine Ev.bind hu ?_
    have hw : wrap64 (2 * (i : Int)) = 2 * (i : Int) := by unfold wrap64; omega
    rw [hw]
    by_cases hc : 2 * i > 64
    · rw [if_pos (by omega : r.length > 64)]
      refine Ev.congr (fun n => if_pos (by omega)) ?_
      refine Ev.bind partsynclaw03_begun.ev ?_
      simp only [if_true, List.length_nil]
      exact Ev.congr (fun n => rfl) (Ev.now _)
    · rw [if_neg (by omega : ¬ r.length > 64)]
      refine Ev.congr (fun n => if_neg (by omega)) ?_
      refine Ev.bind partsynclaw03_begun.ev ?_
      have : ((r.length : Int) == 2 * (i : Int)) = true := beq_iff_eq.2 (by omega)
      simp only [if_true, this]
      exact Ev.now _
  | succ m ih =>
    intro i hm hi
    have hw : wrap64 ((i : Int) + 1) = ((i + 1 : Nat) : Int) := wrap64_succ (by omega)
    have h4 : wrap64 (4 * (i : Int)) = 0 + 4 * (i : Int) := by unfold wrap64; omega
    have h41 : wrap64 (0 + 4 * (i : Int) + 1) = 0 + 4 * (i : Int) + 1 := by unfold wrap64; omega
    have h42 : wrap64 (0 + 4 * (i : Int) + 2) = 2 + 4 * (i : Int) := by unfold wrap64; omega
    have h43 : wrap64 (0 + 4 * (i : Int) + 3) = 2 + 4 * (i : Int) + 1 := by unfold wrap64; omega
    have := ih (i + 1) (by omega) (by omega)
    rw [ladder_snoc, ladder_snoc] at this
    refine Ev.step (fun n => by rw [partsynclaw03_IntervalLimits.l0, if_pos (by omega), if_pos (by rw [ladder_len]; omega), if_pos (by rw [ladder_len]; omega), hw, h4, h41, h42, h43]) ?_
    exact this
theorem partsynclaw03_IntervalLimits.pure (a : Int) (h0 : 0 ≤ a) (h1 : a ≤ 255) : ∃ k, partsynclaw03_IntervalLimits.f k a = some true := by
  refine Ev.rounds (g := fun k => partsynclaw03_IntervalLimits.f k a) ?_
  unfold partsynclaw03_IntervalLimits.f
  have e : Int.tmod (wrap64 a) 10 = a % 10 := by
    rw [show wrap64 a = a by unfold wrap64; omega]
    exact Int.tmod_eq_emod_of_nonneg h0
  obtain ⟨n, hn, hn2⟩ : ∃ n : Nat, wrap64 (28 + Int.tmod (wrap64 a) 10) = (n : Int) ∧ n ≤ 64 := ⟨(28 + a % 10).toNat, by rw [e]; unfold wrap64; omega, by omega⟩
  rw [hn]
  exact partsynclaw03_IntervalLimits.l0_ev n hn2 n 0 rfl (Nat.zero_le _)
end Go.Proofs.Ytpjcdacnhalclaa.Q
namespace Go.Proofs.Ytpjcdacnhalclaa.intervalLimits
open Go.ChangeShapes Go.WideShapes Go.ChangeAt Go.RowKit Go.Joins
open Go.ChangeMaps (open_string shut_string)
open Go.Proofs.YtpjcdacnhalclaaW.PrintWords Go.Proofs.YtpjcdacnhalclaaW.PrintLast Go.Proofs.YtpjcdacnhalclaaW.PrintMore
set_option linter.unusedVariables false
set_option maxRecDepth 100000 in
theorem lifted (os : Os) (started : os.Started) (H : Type) (enc : TypeId × Value → H) :
    ReturnsInHanded {} Try.checked os 13 .any (Rows.intervalLimitsSpec.pre6 enc Try.prog Try.f13 Rows.intervalLimitsRow.domain false) (Rows.intervalLimitsSpec.post enc Try.prog Try.f13 false true false false) := by
  refine returnsInHanded_of_change_sized (C := Try.checked) Q.own started (by kernel_rfl) Try.func13
    (ChangeSpec.witness6 (enc := enc) (C := Try.checked) false ⟨#[], #[.int .u8 0], []⟩ 8 (by kernel_rfl) (by kernel_rfl) (by kernel_rfl) (by kernel_rfl)) ?_
  intro W base args ds gs before hval0 hW hcnd hsz0 _
  have hsz : (DataW.weightsEach Try.prog (Try.f13.params.toList ++ Rows.intervalLimitsSpec.plain.varTypes Try.prog) (ds ++ gs)).all (· ≤ reachBytes) = true := hsz0
  have hval : ∀ (j : Nat) t v, Try.f13.params[j]? = some t → args[j]? = some v → Value.okWide Try.prog W .any base t v := hval0
  have hW' := hW
  obtain ⟨p, q, hA0, hV, rfl, hfz, hnd⟩ := hW
  have hA : DataW.TrodAll enc Try.prog W 0 (fun _ => true) true Try.f13.params.toList args.toList ds p := hA0
  rw [Try.params13] at hA hval hsz
  obtain ⟨v0, vs0, d0, ds0, p0, q0, hargs, rfl, rfl, h0, r0⟩ := trodAll_cons hA
  obtain ⟨rfl, rfl, rfl⟩ := trodAll_nil r0
  obtain rfl : args = #[v0] := by cases args; simp_all
  obtain ⟨rfl, rfl⟩ := trodVars_none hV
  have k0 := h0
  have lt0 : ∀ x ∈ p0, x.block < W.heap.size := by obtain ⟨m, hm⟩ := k0; exact DataW.trod_lt m _ _ _ hm
  obtain ⟨a0, rfl, rfl, rfl, w0⟩ := open_int Try.underlying5 (hval 0 5 v0 rfl rfl) h0
  clear hA0 hval0 hsz0 hsz
  obtain ⟨k, hk⟩ := Q.partsynclaw03_IntervalLimits.pure a0 (Q.wf_byte w0).1 (Q.wf_byte w0).2
  refine (Q.partsynclaw03_IntervalLimits.calls k a0 true W  hk ⟨rfl⟩).mono fun e W' ⟨he, bel⟩ => ?_
  subst he
  exact ⟨_, rfl, _, _, _, [], _, [], hW', trodAll_mk1 (shut_bool Try.underlying4 _), (trodAll_cons_mk (Below.trod Q.laidOut (by kernel_rfl) (of_decide_eq_true (by kernel_rfl)) k0 bel lt0) trodAll_mk0), rfl, bel.frame _, fun h => by cases h⟩
theorem over : Rows.intervalLimitsRow.holds Try.pinned (OpenSpec.ofChange Rows.intervalLimitsSpec) :=
  OpenClaim.holds_of_wide 13 Try.f13 rfl rfl rfl rfl rfl rfl rfl ⟨rfl, rfl, rfl, rfl, rfl⟩ rfl rfl rfl rfl rfl (by kernel_rfl) Try.func13 (by kernel_rfl)
    (of_decide_eq_true (by kernel_rfl)) (by unfold Func.isWrapper; first | (rw [if_pos (by decide +kernel)]; kernel_rfl) | (rw [if_neg (by decide +kernel)]; exact ⟨rfl, rfl⟩))
    (fun os started H enc _ => lifted os started H enc)
theorem proved : Rows.IntervalLimitsSaid := over
end Go.Proofs.Ytpjcdacnhalclaa.intervalLimits
namespace Go.Proofs.Ytpjcdacnhalclaa
/-- The row, under a short name, for the claim. -/
theorem intervalLimits_holds : Rows.IntervalLimitsSaid := intervalLimits.proved
#print axioms intervalLimits_holds
end Go.Proofs.Ytpjcdacnhalclaa
