/- A part of a proof: facts of functions that the law calls; conditions stand in each. -/
import Derived.Test.YtpjcdacnhalclaaV6x2
import Derived.Test.YtpjcdacnhalclaaV6x16
import Derived.Test.YtpjcdacnhalclaaV6x4
import Derived.Test.YtpjcdacnhalclaaV6x15
import Derived.Test.YtpjcdacnhalclaaRows
set_option linter.unusedVariables false
set_option linter.unusedSimpArgs false
namespace Go.Proofs.Ytpjcdacnhalclaa.Q
open Go.RowKit Go.Proofs.YtpjcdacnhalclaaW.PrintWords Go.Proofs.YtpjcdacnhalclaaW.PrintLast Go.Proofs.YtpjcdacnhalclaaW.PrintMore
attribute [local go_sem] max2_int min2_int max_two min_two max_three min_three max_four min_four
theorem l3_IntervalPoints.l0_ev {a b u i m n : List S65} {inc : Bool} (ha : okI a = true) (hb : okI b = true) (hu : okI u = true) (hi : okI i = true) (hm : okI m = true) (hn : okI n = true)
  (eu : ∀ v, validS v = true → inI u v = (inI a v || inI b v)) (ei : ∀ v, validS v = true → inI i v = (inI a v && inI b v)) (em : ∀ v, validS v = true → inI m v = (inI a v && !inI b v)) (en : ∀ v, validS v = true → inI n v = !inI a v) (ec : inc = true → ∀ v, validS v = true → (inI b v && !inI a v) = false) (l : List Int) :
  ∀ (t s : Nat) (j : Int), 6 - s = t → s ≤ 6 → StOk l j → Ev (fun k => l3_IntervalPoints.l0 k a b u i m n inc s l j) true := by
 intro t
 induction t with
 | zero =>
  intro s j ht hs hst
  refine Ev.step (fun k => by rw [l3_IntervalPoints.l0, if_neg (by omega)]) ?_
  refine Ev.bind l3_begun.ev ?_
  simp only [if_true]
  refine Ev.bind (i_Valid.ev u) ?_
  simp only [hu, if_true]
  refine Ev.bind (i_Valid.ev i) ?_
  simp only [hi, if_true]
  refine Ev.bind (i_Valid.ev m) ?_
  simp only [hm, if_true]
  refine Ev.bind (i_Valid.ev n) ?_
  simp only [hn]
  exact Ev.now _
 | succ t ih =>
  intro s j ht hs hst
  obtain ⟨p, q, r, j', hev, hst2, hv, -, -⟩ := cc_Any.ok hst
  have hw : wrap64 ((s : Int) + 1) = ((s + 1 : Nat) : Int) := wrap64_succ (by omega)
  have ih' := ih (s + 1) j' (by omega) (by omega) hst2
  have hv : validS ⟨p, q, r⟩ = true := hv
  refine Ev.step (fun k => by rw [l3_IntervalPoints.l0, if_pos (by omega)]) ?_
  refine Ev.bind hev ?_
  have xa := i_Has.in_ ha hv
  have xb := i_Has.in_ hb hv
  have xu := i_Has.in_ hu hv
  have xi := i_Has.in_ hi hv
  have xm := i_Has.in_ hm hv
  have xn := i_Has.in_ hn hv
  rw [eu _ hv] at xu
  rw [ei _ hv] at xi
  rw [em _ hv] at xm
  rw [en _ hv] at xn
  refine Ev.bind xa (Ev.bind xb (Ev.bind xu ?_))
  have ec' := fun h => ec h _ hv
  generalize inI a ⟨p, q, r⟩ = A at *
  generalize inI b ⟨p, q, r⟩ = B at *
  cases A
  ·simp only [Bool.false_eq_true, if_false, Bool.false_or, bne_self_eq_false]
   refine Ev.bind xi ?_
   simp only [Bool.false_and, bne_self_eq_false, Bool.false_eq_true, if_false]
   refine Ev.bind xm ?_
   simp only [Bool.false_and, bne_self_eq_false, Bool.false_eq_true, if_false]
   refine Ev.bind xn ?_
   simp only [Bool.not_false, hw, show (true == false) = false from rfl, Bool.false_eq_true, if_false]
   cases inc
   ·simp only [Bool.false_eq_true, if_false]
    exact ih'
   ·have := ec' rfl
    simp at this
    subst this
    simp only [if_true, Bool.false_eq_true, if_false]
    exact ih'
  ·simp only [if_true, Bool.true_or, bne_self_eq_false, Bool.false_eq_true, if_false]
   refine Ev.bind xi ?_
   simp only [Bool.true_and, bne_self_eq_false, Bool.false_eq_true, if_false]
   refine Ev.bind xm ?_
   simp only [Bool.true_and, bne_self_eq_false, Bool.false_eq_true, if_false]
   refine Ev.bind xn ?_
   simp only [Bool.not_true, hw, show (false == true) = false from rfl, Bool.false_eq_true, if_false]
   cases inc
   ·simp only [Bool.false_eq_true, if_false]
    exact ih'
   ·cases B
    ·simp only [if_true, Bool.false_eq_true, if_false]
     exact ih'
    ·simp only [if_true]
     exact ih'
theorem l3_IntervalPoints.pure (l : List Int) (hl : ∀ x ∈ l, 0 ≤ x ∧ x ≤ 255) : ∃ k, l3_IntervalPoints.f k l = some true := by
 refine Ev.rounds (g := fun k => l3_IntervalPoints.f k l) ?_
 unfold l3_IntervalPoints.f
 obtain ⟨hn, hst⟩ := cs_New.ok hl 120 (by omega) (by omega)
 rw [hn]
 simp only [Option.bind_some]
 obtain ⟨a, j1, e1, hst1, da⟩ := cc_Interval.ok hst
 obtain ⟨b, j2, e2, hst2, db⟩ := cc_Interval.ok hst1
 refine Ev.bind e1 (Ev.bind e2 ?_)
 have la := da.few
 have lb := db.few
 obtain ⟨u, hu, ou, eu⟩ := i_Union.few da.ok db.ok (by omega)
 obtain ⟨i, hi, oi, ei⟩ := i_Intersect.few da.ok db.ok (by omega)
 obtain ⟨m, hm, om, em⟩ := i_Minus.few da.ok db.ok (by omega)
 obtain ⟨n, hn, on, en⟩ := i_Complement.few da.ok (by omega)
 obtain ⟨c, hc, ec⟩ := i_Covers.ok da.ok db.ok
 refine Ev.bind eu (Ev.bind ei (Ev.bind em (Ev.bind en (Ev.bind ec ?_))))
 simp only [if_true, bne_self_eq_false]
 refine Ev.step (fun k => by rw [l3_IntervalPoints.j0, if_neg (by decide)]) ?_
 refine l3_IntervalPoints.l0_ev da.ok db.ok ou oi om on hu.mem hi.mem hm.mem hn.mem (fun h v hv => ?_) _ 6 0 j2 rfl (by omega) hst2
 have h : c = [] := List.length_eq_zero_iff.1 (by have := eq_of_beq h; omega)
 have := hc.mem v hv
 rw [h] at this
 exact this.symm
end Go.Proofs.Ytpjcdacnhalclaa.Q
namespace Go.Proofs.Ytpjcdacnhalclaa.intervalPoints
open Go.ChangeShapes Go.WideShapes Go.ChangeAt Go.RowKit Go.Joins
open Go.ChangeMaps (open_string shut_string)
open Go.Proofs.YtpjcdacnhalclaaW.PrintWords Go.Proofs.YtpjcdacnhalclaaW.PrintLast Go.Proofs.YtpjcdacnhalclaaW.PrintMore
set_option maxRecDepth 100000 in
theorem lifted (os : Os) (started : os.Started) (H : Type) (enc : TypeId × Value → H) :
  ReturnsInHanded {} Try.checked os 6 .any (Rows.intervalPointsSpec.pre6 enc Try.prog Try.f6 Rows.intervalPointsRow.domain false) (Rows.intervalPointsSpec.post enc Try.prog Try.f6 false true false false) := by
 refine returnsInHanded_of_change_sized (C := Try.checked) Q.own started (by kernel_rfl) Try.func6
  (ChangeSpec.witness6 (enc := enc) (C := Try.checked) false ⟨#[], #[.slice none 0 0], []⟩ 8 (by kernel_rfl) (by kernel_rfl) (by kernel_rfl) (by kernel_rfl)) ?_
 intro W base args ds gs before hval0 hW hcnd hsz0 _
 have hsz : (DataW.weightsEach Try.prog (Try.f6.params.toList ++ Rows.intervalPointsSpec.plain.varTypes Try.prog) (ds ++ gs)).all (· ≤ reachBytes) = true := hsz0
 have hval : ∀ (j : Nat) t v, Try.f6.params[j]? = some t → args[j]? = some v → Value.okWide Try.prog W .any base t v := hval0
 have hW' := hW
 obtain ⟨p, q, hA0, hV, rfl, hfz, hnd⟩ := hW
 have hA : DataW.TrodAll enc Try.prog W 0 (fun _ => true) true Try.f6.params.toList args.toList ds p := hA0
 rw [Try.params6] at hA hval hsz
 obtain ⟨v0, vs0, d0, ds0, p0, q0, hargs, rfl, rfl, h0, r0⟩ := trodAll_cons hA
 obtain ⟨rfl, rfl, rfl⟩ := trodAll_nil r0
 obtain rfl : args = #[v0] := by cases args; simp_all
 obtain ⟨rfl, rfl⟩ := trodVars_none hV
 have k0 := h0
 have lt0 : ∀ x ∈ p0, x.block < W.heap.size := by obtain ⟨m, hm⟩ := k0; exact DataW.trod_lt m _ _ _ hm
 obtain ⟨a0, len0, cap0, rfl⟩ := okWide_slice Try.underlying22 (hval 0 22 v0 rfl rfl)
 obtain ⟨z0, w0⟩ : ∃ zs, Q.IsRow .u8 W a0 len0 cap0 zs := by
  obtain ⟨fuel, hf⟩ := h0
  rcases open_ints Try.underlying22 Try.underlying5 (by kernel_rfl) hf with ⟨hcs, _⟩ | ⟨x, l, c, zs, hcs, _, hl, hm, hz, _, hcell, hwz⟩
  ·simp [Value.cells] at hcs
   obtain ⟨rfl, rfl, rfl⟩ := hcs
   exact ⟨[], .inl ⟨rfl, rfl, rfl, rfl⟩⟩
  ·simp [Value.cells] at hcs
   obtain ⟨rfl, rfl, rfl⟩ := hcs
   exact ⟨zs, .inr ⟨_, rfl, hl, hm, by simpa using hz, hcell, hwz⟩⟩
 obtain ⟨l0, rfl, hr0, hm0, hw0, hc0⟩ := ReadsInt.ofRowC w0
 clear hA0 hval0 hsz0 hsz
 obtain ⟨k, hk⟩ := Q.l3_IntervalPoints.pure l0 (fun x hx => Q.wf_byte (hw0 x hx))
 refine (Q.l3_IntervalPoints.calls k _ _ l0 true W (Kd.C_of_reads (d := (0 : Int)) (h1 := fun _ => rfl) hr0) hc0 hk ⟨rfl⟩).mono fun e W' ⟨he, bel⟩ => ?_
 subst he
 exact ⟨_, rfl, _, _, _, [], _, [], hW', trodAll_mk1 (shut_bool Try.underlying4 _), (trodAll_cons_mk (Below.trod Q.laidOut (by kernel_rfl) (of_decide_eq_true (by kernel_rfl)) k0 bel lt0) trodAll_mk0), rfl, bel.frame _, fun h => by cases h⟩
theorem over : Rows.intervalPointsRow.holds Try.pinned (OpenSpec.ofChange Rows.intervalPointsSpec) :=
 OpenClaim.holds_of_wide 6 Try.f6 rfl rfl rfl rfl rfl rfl rfl ⟨rfl, rfl, rfl, rfl, rfl⟩ rfl rfl rfl rfl rfl (by kernel_rfl) Try.func6 (by kernel_rfl)
  (of_decide_eq_true (by kernel_rfl)) (by unfold Func.isWrapper; first | (rw [if_pos (by decide +kernel)]; kernel_rfl) | (rw [if_neg (by decide +kernel)]; exact ⟨rfl, rfl⟩))
  (fun os started H enc _ => lifted os started H enc)
theorem proved : Rows.IntervalPointsSaid := over
end Go.Proofs.Ytpjcdacnhalclaa.intervalPoints
namespace Go.Proofs.Ytpjcdacnhalclaa
theorem intervalPoints_holds : Rows.IntervalPointsSaid := intervalPoints.proved
#print axioms intervalPoints_holds
end Go.Proofs.Ytpjcdacnhalclaa
