/- A part of a proof: facts of functions that the law calls; conditions stand in each. -/
import Derived.Test.YtpjcdacnhalclaaV15x3
import Derived.Test.YtpjcdacnhalclaaV15x26
import Derived.Test.YtpjcdacnhalclaaV15x10
import Derived.Test.YtpjcdacnhalclaaV15x25
import Derived.Test.YtpjcdacnhalclaaV15x24
import Derived.Test.YtpjcdacnhalclaaV15x23
import Derived.Test.YtpjcdacnhalclaaV15x8
import Derived.Test.YtpjcdacnhalclaaRows
import Derived.Test.YtpjcdacnhalclaaV15x5
set_option linter.unusedVariables false
set_option linter.unusedSimpArgs false
namespace Go.Proofs.Ytpjcdacnhalclaa.Q
open Go.RowKit Go.Proofs.YtpjcdacnhalclaaW.PrintWords Go.Proofs.YtpjcdacnhalclaaW.PrintLast Go.Proofs.YtpjcdacnhalclaaW.PrintMore
attribute [local go_sem] max2_int min2_int max_two min_two max_three min_three max_four min_four
theorem l3_or.few {a b : List S65} (ha : okI a = true) (hb : okI b = true) (hn : 1 + (endsI a).length + (endsI b).length ≤ 64) : ∃ r, IsOp kOr a b r ∧ okI r = true ∧ Ev (fun k => l3_or.f k a b) r := by
 obtain ⟨r, h1, h2, h3⟩ := i_Union.few ha hb hn
 exact ⟨r, h1, h2, by unfold l3_or.f; exact Ev.bind h3 (Ev.now _)⟩
theorem l3_and.few {a b : List S65} (ha : okI a = true) (hb : okI b = true) (hn : 1 + (endsI a).length + (endsI b).length ≤ 64) : ∃ r, IsOp kAnd a b r ∧ okI r = true ∧ Ev (fun k => l3_and.f k a b) r := by
 obtain ⟨r, h1, h2, h3⟩ := i_Intersect.few ha hb hn
 exact ⟨r, h1, h2, by unfold l3_and.f; exact Ev.bind h3 (Ev.now _)⟩
theorem l3_not.few {a : List S65} (ha : okI a = true) (hn : 1 + (endsI a).length ≤ 64) : ∃ r, IsOp kNot a [] r ∧ okI r = true ∧ Ev (fun k => l3_not.f k a) r := by
 obtain ⟨r, h1, h2, h3⟩ := i_Complement.few ha hn
 exact ⟨r, h1, h2, by unfold l3_not.f; exact Ev.bind h3 (Ev.now _)⟩
theorem IsOp.nlen {a r : List S65} (h : IsOp kNot a [] r) : (endsI r).length ≤ 1 + (endsI a).length := by have := h.len; simpa [endsI] using this
theorem l3_IntervalAlgebra.pure (l : List Int) (hl : ∀ x ∈ l, 0 ≤ x ∧ x ≤ 255) : ∃ k, l3_IntervalAlgebra.f k l = some true := by
 refine Ev.rounds (g := fun k => l3_IntervalAlgebra.f k l) ?_
 unfold l3_IntervalAlgebra.f
 obtain ⟨hn, hst⟩ := cs_New.ok hl 120 (by omega) (by omega)
 rw [hn]
 simp only [Option.bind_some]
 obtain ⟨a, j1, e1, hst1, da⟩ := cc_Interval.ok hst
 obtain ⟨b, j2, e2, hst2, db⟩ := cc_Interval.ok hst1
 obtain ⟨x, j3, e3, hst3, dx⟩ := cc_Interval.ok hst2
 refine Ev.bind e1 (Ev.bind e2 (Ev.bind e3 (Ev.bind l3_begun.ev ?_)))
 have la := da.few
 have lb := db.few
 have lx := dx.few
 have oa := da.ok
 have ob := db.ok
 have ox := dx.ok
 have ca := (okI_can.1 oa).2
 obtain ⟨na, hna, ona, ena⟩ := l3_not.few oa (by omega)
 have lna := hna.nlen
 obtain ⟨nna, hnna, onna, enna⟩ := l3_not.few ona (by omega)
 obtain ⟨ab, hab, oab, eab⟩ := l3_or.few oa ob (by omega)
 have lab := hab.len
 obtain ⟨ba, hba, oba, eba⟩ := l3_or.few ob oa (by omega)
 obtain ⟨c1, hc1, oc1, ec1⟩ := l3_and.few oa oab (by omega)
 obtain ⟨bx, hbx, obx, ebx⟩ := l3_or.few ob ox (by omega)
 have lbx := hbx.len
 obtain ⟨d1, hd1, od1, ed1⟩ := l3_and.few oa obx (by omega)
 obtain ⟨d2, hd2, od2, ed2⟩ := l3_and.few oa ob (by omega)
 have ld2 := hd2.len
 obtain ⟨d3, hd3, od3, ed3⟩ := l3_and.few oa ox (by omega)
 have ld3 := hd3.len
 obtain ⟨d4, hd4, od4, ed4⟩ := l3_or.few od2 od3 (by omega)
 obtain ⟨g1, hg1, og1, eg1⟩ := l3_not.few oab (by omega)
 obtain ⟨nb, hnb, onb, enb⟩ := l3_not.few ob (by omega)
 have lnb := hnb.nlen
 obtain ⟨g2, hg2, og2, eg2⟩ := l3_and.few ona onb (by omega)
 obtain ⟨t1, ht1, ot1, et1⟩ := l3_or.few oa ona (by omega)
 obtain ⟨t2, ht2, ot2, et2⟩ := l3_and.few oa ona (by omega)
 obtain ⟨u1, hu1, ou1, eu1⟩ := l3_or.few oa obx (by omega)
 obtain ⟨u2, hu2, ou2, eu2⟩ := l3_or.few oab ox (by omega)
 have q1 : nna = a := hnna.can.unique ca fun v hv => by
  rw [hnna.mem v hv, hna.mem v hv]; simp only [kNot]; cases inI a v <;> rfl
 have q2 : ab = ba := hab.can.unique hba.can fun v hv => by
  rw [hab.mem v hv, hba.mem v hv]; simp only [kOr]; cases inI a v <;> cases inI b v <;> rfl
 have q3 : c1 = a := hc1.can.unique ca fun v hv => by
  rw [hc1.mem v hv, hab.mem v hv]; simp only [kOr, kAnd]; cases inI a v <;> cases inI b v <;> rfl
 have q4 : d1 = d4 := hd1.can.unique hd4.can fun v hv => by
  rw [hd1.mem v hv, hbx.mem v hv, hd4.mem v hv, hd2.mem v hv, hd3.mem v hv]; simp only [kOr, kAnd]; cases inI a v <;> cases inI b v <;> cases inI x v <;> rfl
 have q5 : g1 = g2 := hg1.can.unique hg2.can fun v hv => by
  rw [hg1.mem v hv, hab.mem v hv, hg2.mem v hv, hna.mem v hv, hnb.mem v hv]; simp only [kOr, kAnd, kNot]; cases inI a v <;> cases inI b v <;> rfl
 have q6 : t1 = [⟨leastS, zS, true⟩] := ht1.can.unique (.last _ least_valid) fun v hv => by
  rw [ht1.mem v hv, hna.mem v hv, inI_one, (oneI_iff _ _).2 ⟨least_le hv, .inl rfl⟩]; simp only [kOr, kNot]; cases inI a v <;> rfl
 have q7 : t2 = [] := ht2.can.unique .nil fun v hv => by
  rw [ht2.mem v hv, hna.mem v hv]; simp only [kAnd, kNot]; cases inI a v <;> rfl
 have q8 : u1 = u2 := hu1.can.unique hu2.can fun v hv => by
  rw [hu1.mem v hv, hbx.mem v hv, hu2.mem v hv, hab.mem v hv]; simp only [kOr]; cases inI a v <;> cases inI b v <;> cases inI x v <;> rfl
 simp only [if_true]
 refine Ev.bind ena (Ev.bind enna (Ev.bind (r3_Same.yes q1 (okI_len onna)) ?_))
 simp only [if_true]
 refine Ev.bind eab (Ev.bind eba (Ev.bind (r3_Same.yes q2 (okI_len oab)) ?_))
 simp only [if_true]
 refine Ev.bind eab (Ev.bind ec1 (Ev.bind (r3_Same.yes q3 (okI_len oc1)) ?_))
 simp only [if_true]
 refine Ev.bind ebx (Ev.bind ed1 (Ev.bind ed2 (Ev.bind ed3 (Ev.bind ed4 (Ev.bind (r3_Same.yes q4 (okI_len od1)) ?_)))))
 simp only [if_true]
 refine Ev.bind eab (Ev.bind eg1 (Ev.bind ena (Ev.bind enb (Ev.bind eg2 (Ev.bind (r3_Same.yes q5 (okI_len og1)) ?_)))))
 simp only [if_true]
 refine Ev.bind ena (Ev.bind et1 ?_)
 have hall : i_All.f = some [⟨leastS, zS, true⟩] := rfl
 simp only [hall, Option.bind_some]
 refine Ev.bind (r3_Same.yes q6 (okI_len ot1)) ?_
 simp only [if_true]
 refine Ev.bind ena (Ev.bind et2 ?_)
 simp only [q7, List.length_nil, Int.natCast_zero, if_true]
 refine Ev.bind ebx (Ev.bind eu1 (Ev.bind eab (Ev.bind eu2 (Ev.bind (r3_Same.yes q8 (okI_len ou1)) ?_))))
 exact Ev.now _
end Go.Proofs.Ytpjcdacnhalclaa.Q
namespace Go.Proofs.Ytpjcdacnhalclaa.intervalAlgebra
open Go.ChangeShapes Go.WideShapes Go.ChangeAt Go.RowKit Go.Joins
open Go.ChangeMaps (open_string shut_string)
open Go.Proofs.YtpjcdacnhalclaaW.PrintWords Go.Proofs.YtpjcdacnhalclaaW.PrintLast Go.Proofs.YtpjcdacnhalclaaW.PrintMore
set_option maxRecDepth 100000 in
theorem lifted (os : Os) (started : os.Started) (H : Type) (enc : TypeId × Value → H) :
  ReturnsInHanded {} Try.checked os 15 .any (Rows.intervalAlgebraSpec.pre6 enc Try.prog Try.f15 Rows.intervalAlgebraRow.domain false) (Rows.intervalAlgebraSpec.post enc Try.prog Try.f15 false true false false) := by
 refine returnsInHanded_of_change_sized (C := Try.checked) Q.own started (by kernel_rfl) Try.func15
  (ChangeSpec.witness6 (enc := enc) (C := Try.checked) false ⟨#[], #[.slice none 0 0], []⟩ 8 (by kernel_rfl) (by kernel_rfl) (by kernel_rfl) (by kernel_rfl)) ?_
 intro W base args ds gs before hval0 hW hcnd hsz0 _
 have hsz : (DataW.weightsEach Try.prog (Try.f15.params.toList ++ Rows.intervalAlgebraSpec.plain.varTypes Try.prog) (ds ++ gs)).all (· ≤ reachBytes) = true := hsz0
 have hval : ∀ (j : Nat) t v, Try.f15.params[j]? = some t → args[j]? = some v → Value.okWide Try.prog W .any base t v := hval0
 have hW' := hW
 obtain ⟨p, q, hA0, hV, rfl, hfz, hnd⟩ := hW
 have hA : DataW.TrodAll enc Try.prog W 0 (fun _ => true) true Try.f15.params.toList args.toList ds p := hA0
 rw [Try.params15] at hA hval hsz
 obtain ⟨v0, vs0, d0, ds0, p0, q0, hargs, rfl, rfl, h0, r0⟩ := trodAll_cons hA
 obtain ⟨rfl, rfl, rfl⟩ := trodAll_nil r0
 obtain rfl : args = #[v0] := by cases args; simp_all
 obtain ⟨rfl, rfl⟩ := trodVars_none hV
 have k0 := h0
 have lt0 : ∀ x ∈ p0, x.block < W.heap.size := by obtain ⟨m, hm⟩ := k0; exact DataW.trod_lt m _ _ _ hm
 obtain ⟨a0, len0, cap0, rfl⟩ := okWide_slice Try.underlying22 (hval 0 22 v0 rfl rfl)
 obtain ⟨z0, w0⟩ : ∃ zs, Q.IsRow .u8 W a0 len0 cap0 zs := by
  obtain ⟨fuel, hf⟩ := h0
  rcases open_ints Try.underlying22 Try.underlying5 (by kernel_rfl) hf with ⟨hcs, _⟩ | ⟨x, l, c, zs, hcs, _, hl, hm, hz, _, hcell, hwz⟩
  ·simp [Value.cells] at hcs
   obtain ⟨rfl, rfl, rfl⟩ := hcs
   exact ⟨[], .inl ⟨rfl, rfl, rfl, rfl⟩⟩
  ·simp [Value.cells] at hcs
   obtain ⟨rfl, rfl, rfl⟩ := hcs
   exact ⟨zs, .inr ⟨_, rfl, hl, hm, by simpa using hz, hcell, hwz⟩⟩
 obtain ⟨l0, rfl, hr0, hm0, hw0, hc0⟩ := ReadsInt.ofRowC w0
 clear hA0 hval0 hsz0 hsz
 obtain ⟨k, hk⟩ := Q.l3_IntervalAlgebra.pure l0 (fun x hx => Q.wf_byte (hw0 x hx))
 refine (Q.l3_IntervalAlgebra.calls k _ _ l0 true W (Kd.C_of_reads (d := (0 : Int)) (h1 := fun _ => rfl) hr0) hc0 hk ⟨rfl⟩).mono fun e W' ⟨he, bel⟩ => ?_
 subst he
 exact ⟨_, rfl, _, _, _, [], _, [], hW', trodAll_mk1 (shut_bool Try.underlying4 _), (trodAll_cons_mk (Below.trod Q.laidOut (by kernel_rfl) (of_decide_eq_true (by kernel_rfl)) k0 bel lt0) trodAll_mk0), rfl, bel.frame _, fun h => by cases h⟩
theorem over : Rows.intervalAlgebraRow.holds Try.pinned (OpenSpec.ofChange Rows.intervalAlgebraSpec) :=
 OpenClaim.holds_of_wide 15 Try.f15 rfl rfl rfl rfl rfl rfl rfl ⟨rfl, rfl, rfl, rfl, rfl⟩ rfl rfl rfl rfl rfl (by kernel_rfl) Try.func15 (by kernel_rfl)
  (of_decide_eq_true (by kernel_rfl)) (by unfold Func.isWrapper; first | (rw [if_pos (by decide +kernel)]; kernel_rfl) | (rw [if_neg (by decide +kernel)]; exact ⟨rfl, rfl⟩))
  (fun os started H enc _ => lifted os started H enc)
theorem proved : Rows.IntervalAlgebraSaid := over
end Go.Proofs.Ytpjcdacnhalclaa.intervalAlgebra
namespace Go.Proofs.Ytpjcdacnhalclaa
theorem intervalAlgebra_holds : Rows.IntervalAlgebraSaid := intervalAlgebra.proved
#print axioms intervalAlgebra_holds
end Go.Proofs.Ytpjcdacnhalclaa
