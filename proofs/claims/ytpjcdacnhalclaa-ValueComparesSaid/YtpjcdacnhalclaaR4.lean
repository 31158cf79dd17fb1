/- The law partsynclaw01.ValueCompares: WHATEVER THE INPUT, it returns true, and the input reads as it did. No condition. -/
import Derived.Test.YtpjcdacnhalclaaRows
import Derived.Test.YtpjcdacnhalclaaRK
import Derived.Test.YtpjcdacnhalclaaF4
import Derived.Test.YtpjcdacnhalclaaPL4
namespace Go.Proofs.Ytpjcdacnhalclaa.valueCompares
open Go.ChangeShapes Go.WideShapes Go.ChangeAt Go.RowKit Go.Joins
open Go.ChangeMaps (open_string shut_string)
open Go.Proofs.YtpjcdacnhalclaaW.PrintWords Go.Proofs.YtpjcdacnhalclaaW.PrintLast Go.Proofs.YtpjcdacnhalclaaW.PrintMore
set_option linter.unusedVariables false
set_option maxRecDepth 100000 in
theorem lifted (os : Os) (started : os.Started) (H : Type) (enc : TypeId × Value → H) :
    ReturnsInHanded {} Try.checked os 4 .any (Rows.valueComparesSpec.pre6 enc Try.prog Try.f4 Rows.valueComparesRow.domain false) (Rows.valueComparesSpec.post enc Try.prog Try.f4 false true false false) := by
  refine returnsInHanded_of_change_sized (C := Try.checked) Q.own started (by kernel_rfl) Try.func4
    (ChangeSpec.witness6 (enc := enc) (C := Try.checked) false ⟨#[], #[.slice none 0 0, .agg #[.int .i64 0, .int .i64 0, .string ⟨#[]⟩], .agg #[.int .i64 0, .int .i64 0, .string ⟨#[]⟩], .agg #[.int .i64 0, .int .i64 0, .string ⟨#[]⟩]], []⟩ 8 (by kernel_rfl) (by kernel_rfl) (by kernel_rfl) (by kernel_rfl)) ?_
  intro W base args ds gs before hval0 hW hcnd hsz0 _
  have hsz : (DataW.weightsEach Try.prog (Try.f4.params.toList ++ Rows.valueComparesSpec.plain.varTypes Try.prog) (ds ++ gs)).all (· ≤ reachBytes) = true := hsz0
  have hval : ∀ (j : Nat) t v, Try.f4.params[j]? = some t → args[j]? = some v → Value.okWide Try.prog W .any base t v := hval0
  have hW' := hW
  obtain ⟨p, q, hA0, hV, rfl, hfz, hnd⟩ := hW
  have hA : DataW.TrodAll enc Try.prog W 0 (fun _ => true) true Try.f4.params.toList args.toList ds p := hA0
  rw [Try.params4] at hA hval hsz
  obtain ⟨v0, vs0, d0, ds0, p0, q0, hargs, rfl, rfl, h0, r0⟩ := trodAll_cons hA
  obtain ⟨v1, vs1, d1, ds1, p1, q1, rfl, rfl, rfl, h1, r1⟩ := trodAll_cons r0
  obtain ⟨v2, vs2, d2, ds2, p2, q2, rfl, rfl, rfl, h2, r2⟩ := trodAll_cons r1
  obtain ⟨v3, vs3, d3, ds3, p3, q3, rfl, rfl, rfl, h3, r3⟩ := trodAll_cons r2
  obtain ⟨rfl, rfl, rfl⟩ := trodAll_nil r3
  obtain rfl : args = #[v0, v1, v2, v3] := by cases args; simp_all
  obtain ⟨rfl, rfl⟩ := trodVars_none hV
  have k0 := h0
  have lt0 : ∀ x ∈ p0, x.block < W.heap.size := by obtain ⟨m, hm⟩ := k0; exact DataW.trod_lt m _ _ _ hm
  obtain ⟨a0, len0, cap0, rfl⟩ := okWide_slice Try.underlying22 (hval 0 22 v0 rfl rfl)
  obtain ⟨z0, w0⟩ : ∃ zs, Q.IsRow .u8 W a0 len0 cap0 zs := by
    obtain ⟨fuel, hf⟩ := h0
    rcases open_ints Try.underlying22 Try.underlying5 (by kernel_rfl) hf with ⟨hcs, _⟩ | ⟨x, l, c, zs, hcs, _, hl, hm, hz, _, hcell, hwz⟩
    · simp [Value.cells] at hcs
      obtain ⟨rfl, rfl, rfl⟩ := hcs
      exact ⟨[], .inl ⟨rfl, rfl, rfl, rfl⟩⟩
    · simp [Value.cells] at hcs
      obtain ⟨rfl, rfl, rfl⟩ := hcs
      exact ⟨zs, .inr ⟨_, rfl, hl, hm, by simpa using hz, hcell, hwz⟩⟩
  obtain ⟨l0, rfl, hr0, hm0, hw0, hc0⟩ := ReadsInt.ofRowC w0
  have k1 := h1
  have lt1 : ∀ x ∈ p1, x.block < W.heap.size := by obtain ⟨m, hm⟩ := k1; exact DataW.trod_lt m _ _ _ hm
  obtain ⟨u1_0, u1_1, u1_2, y1_0, y1_1, y1_2, n1, rfl, _, _, e1_0, e1_1, e1_2⟩ := open_agg3 Try.underlying24 (by kernel_rfl) (by kernel_rfl) (hval 1 24 v1 rfl rfl) h1
  obtain ⟨a1_0, g1_0, _, w1_0⟩ := DataW.trod_int Try.underlying3 e1_0
  obtain ⟨a1_1, g1_1, _, w1_1⟩ := DataW.trod_int Try.underlying2 e1_1
  obtain ⟨a1_2, g1_2, _, w1_2⟩ := DataW.trod_string Try.underlying9 e1_2
  obtain rfl := (List.cons.inj g1_0).1
  obtain rfl := (List.cons.inj g1_1).1
  obtain rfl := (List.cons.inj g1_2).1
  have k2 := h2
  have lt2 : ∀ x ∈ p2, x.block < W.heap.size := by obtain ⟨m, hm⟩ := k2; exact DataW.trod_lt m _ _ _ hm
  obtain ⟨u2_0, u2_1, u2_2, y2_0, y2_1, y2_2, n2, rfl, _, _, e2_0, e2_1, e2_2⟩ := open_agg3 Try.underlying24 (by kernel_rfl) (by kernel_rfl) (hval 2 24 v2 rfl rfl) h2
  obtain ⟨a2_0, g2_0, _, w2_0⟩ := DataW.trod_int Try.underlying3 e2_0
  obtain ⟨a2_1, g2_1, _, w2_1⟩ := DataW.trod_int Try.underlying2 e2_1
  obtain ⟨a2_2, g2_2, _, w2_2⟩ := DataW.trod_string Try.underlying9 e2_2
  obtain rfl := (List.cons.inj g2_0).1
  obtain rfl := (List.cons.inj g2_1).1
  obtain rfl := (List.cons.inj g2_2).1
  have k3 := h3
  have lt3 : ∀ x ∈ p3, x.block < W.heap.size := by obtain ⟨m, hm⟩ := k3; exact DataW.trod_lt m _ _ _ hm
  obtain ⟨u3_0, u3_1, u3_2, y3_0, y3_1, y3_2, n3, rfl, _, _, e3_0, e3_1, e3_2⟩ := open_agg3 Try.underlying24 (by kernel_rfl) (by kernel_rfl) (hval 3 24 v3 rfl rfl) h3
  obtain ⟨a3_0, g3_0, _, w3_0⟩ := DataW.trod_int Try.underlying3 e3_0
  obtain ⟨a3_1, g3_1, _, w3_1⟩ := DataW.trod_int Try.underlying2 e3_1
  obtain ⟨a3_2, g3_2, _, w3_2⟩ := DataW.trod_string Try.underlying9 e3_2
  obtain rfl := (List.cons.inj g3_0).1
  obtain rfl := (List.cons.inj g3_1).1
  obtain rfl := (List.cons.inj g3_2).1
  clear hA0 hval0 hsz0 hsz
  obtain ⟨k, hk⟩ := Q.partsynclaw01_ValueCompares.pure l0 (fun x hx => Q.wf_byte (hw0 x hx)) a1_0 a1_1 a1_2 a2_0 a2_1 a2_2 a3_0 a3_1 a3_2
  refine (Q.partsynclaw01_ValueCompares.calls k _ _ l0 a1_0 a1_1 a1_2 a2_0 a2_1 a2_2 a3_0 a3_1 a3_2 true W (Kd.C_of_reads (d := (0 : Int)) (h1 := fun _ => rfl) hr0) hc0 hk ⟨rfl⟩).mono fun e W' ⟨he, bel⟩ => ?_
  subst he
  exact ⟨_, rfl, _, _, _, [], _, [], hW', trodAll_mk1 (shut_bool Try.underlying4 _), (trodAll_cons_mk (Below.trod Q.laidOut (by kernel_rfl) (of_decide_eq_true (by kernel_rfl)) k0 bel lt0) (trodAll_cons_mk (Below.trod Q.laidOut (by kernel_rfl) (of_decide_eq_true (by kernel_rfl)) k1 bel lt1) (trodAll_cons_mk (Below.trod Q.laidOut (by kernel_rfl) (of_decide_eq_true (by kernel_rfl)) k2 bel lt2) (trodAll_cons_mk (Below.trod Q.laidOut (by kernel_rfl) (of_decide_eq_true (by kernel_rfl)) k3 bel lt3) trodAll_mk0)))), rfl, bel.frame _, fun h => by cases h⟩
theorem over : Rows.valueComparesRow.holds Try.pinned (OpenSpec.ofChange Rows.valueComparesSpec) :=
  OpenClaim.holds_of_wide 4 Try.f4 rfl rfl rfl rfl rfl rfl rfl ⟨rfl, rfl, rfl, rfl, rfl⟩ rfl rfl rfl rfl rfl (by kernel_rfl) Try.func4 (by kernel_rfl)
    (of_decide_eq_true (by kernel_rfl)) (by unfold Func.isWrapper; first | (rw [if_pos (by decide +kernel)]; kernel_rfl) | (rw [if_neg (by decide +kernel)]; exact ⟨rfl, rfl⟩))
    (fun os started H enc _ => lifted os started H enc)
theorem proved : Rows.ValueComparesSaid := over
end Go.Proofs.Ytpjcdacnhalclaa.valueCompares
namespace Go.Proofs.Ytpjcdacnhalclaa
/-- The row, under a short name, for the claim. -/
theorem valueCompares_holds : Rows.ValueComparesSaid := valueCompares.proved
#print axioms valueCompares_holds
end Go.Proofs.Ytpjcdacnhalclaa
