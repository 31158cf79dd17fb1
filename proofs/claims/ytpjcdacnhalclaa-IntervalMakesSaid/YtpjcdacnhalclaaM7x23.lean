/- A part of the proof of the law that the last part names: facts of the functions that the law calls. No condition beyond those that stand in them. -/
import Derived.Test.YtpjcdacnhalclaaM7x3
import Derived.Test.YtpjcdacnhalclaaM7x10
import Derived.Test.YtpjcdacnhalclaaM7x14
import Derived.Test.YtpjcdacnhalclaaM7x18
import Derived.Test.YtpjcdacnhalclaaM7x16
import Derived.Test.YtpjcdacnhalclaaM7x20
import Derived.Test.YtpjcdacnhalclaaM7x21
import Derived.Test.YtpjcdacnhalclaaM7x22
import Derived.Test.YtpjcdacnhalclaaM7x7
import Derived.Test.YtpjcdacnhalclaaM7x19
import Derived.Test.YtpjcdacnhalclaaRows
import Derived.Test.YtpjcdacnhalclaaM7x5
namespace Go.Proofs.Ytpjcdacnhalclaa.Q
open Go.RowKit Go.Proofs.YtpjcdacnhalclaaW.PrintWords Go.Proofs.YtpjcdacnhalclaaW.PrintLast Go.Proofs.YtpjcdacnhalclaaW.PrintMore
attribute [local go_sem] max2_int min2_int max_two min_two max_three min_three max_four min_four
set_option linter.unusedVariables false
set_option linter.unusedSimpArgs false
theorem Between.same (x y : S24) : ∃ l e, Ev (fun k => partsyncref03_Between.f k x.f0 x.f1 x.f2 y.f0 y.f1 y.f2) (l, e) ∧ Ev (fun k => interval_Between.f k x.f0 x.f1 x.f2 y.f0 y.f1 y.f2) (l, e) ∧ l.length < 4611686018427387904 := by
  by_cases hx : validV x.f0 x.f1 x.f2 = true
  · by_cases hy : validV y.f0 y.f1 y.f2 = true
    · obtain ⟨l, h1, h2, -, h3, -⟩ := Between.ok (x := x) (y := y) hx hy
      exact ⟨l, 0, h1, h2, by have := lens h3; omega⟩
    · have hy := Bool.eq_false_iff.2 hy
      refine ⟨[], 10, ?_, ?_, by simp⟩
      · unfold partsyncref03_Between.f
        refine Ev.bind (partsyncref01_Valid.ev _ _ _) ?_
        simp only [hx, if_true]
        refine Ev.bind (partsyncref01_Valid.ev _ _ _) ?_
        simp only [hy, Bool.not_false]
        exact Ev.step (fun k => by rw [partsyncref03_Between.j0, if_pos rfl]) (Ev.now _)
      · unfold interval_Between.f
        refine Ev.bind (value_Valid.ev _ _ _) ?_
        simp only [hx, if_true]
        refine Ev.bind (value_Valid.ev _ _ _) ?_
        simp only [hy, Bool.not_false]
        exact Ev.step (fun k => by rw [interval_Between.j0, if_pos rfl]) (Ev.now _)
  · have hx := Bool.eq_false_iff.2 hx
    refine ⟨[], 10, ?_, ?_, by simp⟩
    · unfold partsyncref03_Between.f
      refine Ev.bind (partsyncref01_Valid.ev _ _ _) ?_
      simp only [hx, Bool.false_eq_true, if_false]
      exact Ev.step (fun k => by rw [partsyncref03_Between.j0, if_pos rfl]) (Ev.now _)
    · unfold interval_Between.f
      refine Ev.bind (value_Valid.ev _ _ _) ?_
      simp only [hx, Bool.false_eq_true, if_false]
      exact Ev.step (fun k => by rw [interval_Between.j0, if_pos rfl]) (Ev.now _)
theorem One.same (x : S24) (lo : -9223372036854775808 ≤ x.f1) (hi : x.f1 ≤ 9223372036854775807) : ∃ l e, Ev (fun k => partsyncref03_One.f k x.f0 x.f1 x.f2) (l, e) ∧ Ev (fun k => interval_One.f k x.f0 x.f1 x.f2) (l, e) ∧ l.length < 4611686018427387904 := by
  by_cases hx : validV x.f0 x.f1 x.f2 = true
  · obtain ⟨l, h1, h2, -, h3⟩ := One.ok (x := x) hx lo hi
    exact ⟨l, 0, h1, h2, by have := lens h3; omega⟩
  · have hx := Bool.eq_false_iff.2 hx
    refine ⟨[], 10, ?_, ?_, by simp⟩
    · unfold partsyncref03_One.f
      refine Ev.bind (partsyncref01_Valid.ev _ _ _) ?_
      simp only [hx, Bool.false_eq_true, if_false]
      exact Ev.now _
    · unfold interval_One.f
      refine Ev.bind (value_Valid.ev _ _ _) ?_
      simp only [hx, Bool.false_eq_true, if_false]
      exact Ev.now _
theorem From.same (x : S24) : ∃ l e, Ev (fun k => partsyncref03_From.f k x.f0 x.f1 x.f2) (l, e) ∧ Ev (fun k => interval_From.f k x.f0 x.f1 x.f2) (l, e) ∧ l.length < 4611686018427387904 := by
  by_cases hx : validV x.f0 x.f1 x.f2 = true
  · exact ⟨_, _, partsyncref03_From.ok (x := x) hx, interval_From.ok (x := x) hx, by simp⟩
  · have hx := Bool.eq_false_iff.2 hx
    refine ⟨[], 10, ?_, ?_, by simp⟩
    · unfold partsyncref03_From.f
      refine Ev.bind (partsyncref01_Valid.ev _ _ _) ?_
      simp only [hx, Bool.false_eq_true, if_false]
      exact Ev.now _
    · unfold interval_From.f
      refine Ev.bind (value_Valid.ev _ _ _) ?_
      simp only [hx, Bool.false_eq_true, if_false]
      exact Ev.now _
theorem first_some (k : Nat) (a : Int) : partsyncref01_First.f (k + 1) a = some (firstV a) := by
  unfold partsyncref01_First.f firstV
  by_cases h1 : a = 1
  · subst h1; simp [partsyncref01_First.j0]
  · by_cases h2 : a = 2
    · subst h2; simp [partsyncref01_First.j0]
    · by_cases h3 : a = 3
      · subst h3; simp [partsyncref01_First.j0]
      · by_cases h5 : a = 5
        · subst h5; simp [partsyncref01_First.j0]
        · have h5b : (a == 5) = false := beq_eq_false_iff_ne.2 h5
          by_cases h4 : a = 4
          · subst h4; simp [partsyncref01_First.j0]
          · simp [partsyncref01_First.j0, h1, h2, h3, h4, h5, h5b]
theorem first_ev (a : Int) : Ev (fun k => partsyncref01_First.f k a) (firstV a) := ev_of_succ fun k => first_some k a
theorem firstV_zero (a : Int) (h : (firstV a).2.2.2 = false) : firstV a = (0, 0, ⟨#[]⟩, false) := by
  unfold firstV at h ⊢
  split
  · rename_i c; rw [if_pos c] at h; cases h
  · rename_i c
    rw [if_neg c] at h
    split
    · rename_i d; rw [if_pos d] at h; cases h
    · rfl
theorem OfKind.same (a : Int) : ∃ l e, Ev (fun k => partsyncref03_OfKind.f k a) (l, e) ∧ Ev (fun k => interval_OfKind.f k a) (l, e) ∧ l.length < 4611686018427387904 := by
  by_cases h : (firstV a).2.2.2 = true
  · by_cases g : (firstV (wrap64 (a + 1))).2.2.2 = true
    · refine ⟨[⟨⟨(firstV a).1, (firstV a).2.1, (firstV a).2.2.1⟩, ⟨(firstV (wrap64 (a + 1))).1, (firstV (wrap64 (a + 1))).2.1, (firstV (wrap64 (a + 1))).2.2.1⟩, false⟩], 0, ?_, ?_, by simp⟩
      · unfold partsyncref03_OfKind.f
        refine Ev.bind (first_ev a) ?_
        simp only [h, if_true]
        refine Ev.bind (first_ev _) ?_
        simp only [g, Bool.not_true]
        exact Ev.now _
      · unfold interval_OfKind.f
        refine Ev.bind (value_First.ev a) ?_
        simp only [h, if_true]
        refine Ev.bind (value_First.ev _) ?_
        simp only [g, if_true]
        exact Ev.now _
    · have g := Bool.eq_false_iff.2 g
      have gz := firstV_zero _ g
      refine ⟨[⟨⟨(firstV a).1, (firstV a).2.1, (firstV a).2.2.1⟩, zS, true⟩], 0, ?_, ?_, by simp⟩
      · unfold partsyncref03_OfKind.f
        refine Ev.bind (first_ev a) ?_
        simp only [h, if_true]
        refine Ev.bind (first_ev _) ?_
        simp only [gz, Bool.not_false]
        exact Ev.now _
      · unfold interval_OfKind.f
        refine Ev.bind (value_First.ev a) ?_
        simp only [h, if_true]
        refine Ev.bind (value_First.ev _) ?_
        simp only [g, Bool.false_eq_true, if_false]
        exact Ev.now _
  · have h := Bool.eq_false_iff.2 h
    refine ⟨[], 1, ?_, ?_, by simp⟩
    · unfold partsyncref03_OfKind.f
      refine Ev.bind (first_ev a) ?_
      simp only [h, Bool.false_eq_true, if_false]
      exact Ev.now _
    · unfold interval_OfKind.f
      refine Ev.bind (value_First.ev a) ?_
      simp only [h, Bool.false_eq_true, if_false]
      exact Ev.now _
theorem partsynclaw03_IntervalMakes.l1_ev (g : Int) (O : List S24) (n j : Int) (M : List S24) (hM : M.length < 4611686018427387904) (v p : S24) (lo : -9223372036854775808 ≤ p.f1) (hi : p.f1 ≤ 9223372036854775807) (L : List Int) (i : Int)
    (h : Ev (fun k => partsynclaw03_IntervalMakes.l0 k g O n (wrap64 (j + 1)) v.f0 v.f1 v.f2 L i) true) : ∀ (m s : Nat), M.length - s = m → s ≤ M.length → Ev (fun k => partsynclaw03_IntervalMakes.l1 k g O n j M M.length s v.f0 v.f1 v.f2 L i p.f0 p.f1 p.f2) true := by
  intro m
  induction m with
  | zero =>
    intro s hm hs
    refine Ev.step (fun k => by rw [partsynclaw03_IntervalMakes.l1, if_neg (by omega)]) ?_
    obtain ⟨l1, e1, a1, b1, n1⟩ := One.same p lo hi
    obtain ⟨l2, e2, a2, b2, n2⟩ := From.same p
    refine Ev.bind b1 (Ev.bind a1 (Ev.bind b2 (Ev.bind a2 ?_)))
    simp only [if_true]
    refine Ev.bind (partsyncref03_Same.yes rfl n1) ?_
    simp only [if_true]
    refine Ev.bind (partsyncref03_Same.yes rfl n2) ?_
    simp only [if_true]
    exact h
  | succ m ih =>
    intro s hm hs
    have hw : wrap64 ((s : Int) + 1) = ((s + 1 : Nat) : Int) := wrap64_succ (by omega)
    refine Ev.step (fun k => by rw [partsynclaw03_IntervalMakes.l1, if_pos (by omega), if_pos (by omega), if_pos (by omega), rd_T24_nat M s (by omega), hw]) ?_
    obtain ⟨l1, e1, a1, b1, n1⟩ := Between.same p (M[s]'(by omega))
    refine Ev.bind b1 (Ev.bind a1 ?_)
    simp only [if_true]
    refine Ev.bind (partsyncref03_Same.yes rfl n1) ?_
    simp only [if_true]
    exact ih (s + 1) (by omega) (by omega)
theorem partsynclaw03_IntervalMakes.l0_ev (g : Int) (O : List S24) (hO : O.length < 4611686018427387904) (hr : ∀ x ∈ O, -9223372036854775808 ≤ x.f1 ∧ x.f1 ≤ 9223372036854775807) (v : S24) (lo : -9223372036854775808 ≤ v.f1) (hi : v.f1 ≤ 9223372036854775807) (L : List Int) : ∀ (m s : Nat) (i : Int), O.length - s = m → s ≤ O.length → StOk L i →
    Ev (fun k => partsynclaw03_IntervalMakes.l0 k g O O.length s v.f0 v.f1 v.f2 L i) true := by
  intro m
  induction m with
  | zero =>
    intro s i hm hs hst
    refine Ev.step (fun k => by rw [partsynclaw03_IntervalMakes.l0, if_neg (by omega)]) ?_
    obtain ⟨l1, e1, a1, b1, n1⟩ := OfKind.same g
    refine Ev.bind b1 (Ev.bind a1 (Ev.bind partsynclaw03_begun.ev ?_))
    simp only [if_true]
    refine Ev.bind (partsyncref03_Same.yes rfl n1) ?_
    simp only [if_true]
    have h1 : interval_All.f = some [⟨leastS, zS, true⟩] := rfl
    have h2 : partsyncref03_All.f = some [⟨leastS, zS, true⟩] := rfl
    simp only [h1, h2, Option.bind_some]
    exact Ev.bind (partsyncref03_Same.yes rfl (by simp)) (Ev.now _)
  | succ m ih =>
    intro s i hm hs hst
    have hsl : s < O.length := by omega
    have hw : wrap64 ((s : Int) + 1) = ((s + 1 : Nat) : Int) := wrap64_succ (by omega)
    obtain ⟨a, b, c, j, hev, hst2, hv, l1, h1⟩ := partsynccase_Case_Any.ok hst
    refine Ev.step (fun k => by rw [partsynclaw03_IntervalMakes.l0, if_pos (by omega), if_pos (by omega), if_pos (by omega), rd_T24_nat O s hsl]) ?_
    refine Ev.bind hev ?_
    simp only [Option.bind_some]
    obtain ⟨ll, lh⟩ := hr _ (List.getElem_mem hsl)
    have := ih (s + 1) j (by omega) (by omega) hst2
    rw [← hw] at this
    exact partsynclaw03_IntervalMakes.l1_ev g O O.length s [v, ⟨a, b, c⟩, O[s]] (by simp) v O[s] ll lh L j this 3 0 rfl (by simp)
theorem partsynclaw03_IntervalMakes.pure (l : List Int) (hl : ∀ x ∈ l, 0 ≤ x ∧ x ≤ 255) (a b : Int) (c : ByteArray) (lo : -9223372036854775808 ≤ b) (hi : b ≤ 9223372036854775807) (g : Int) : ∃ k, partsynclaw03_IntervalMakes.f k l a b c g = some true := by
  refine Ev.rounds (g := fun k => partsynclaw03_IntervalMakes.f k l a b c g) ?_
  unfold partsynclaw03_IntervalMakes.f
  obtain ⟨hn, hst⟩ := partsynccase_New.ok hl 90 (by omega) (by omega)
  rw [hn]
  simp only [Option.bind_some]
  obtain ⟨p, q, t, j, hev, hst2, hv, l1, h1⟩ := partsynccase_Case_Any.ok hst
  refine Ev.bind hev ?_
  refine partsynclaw03_IntervalMakes.l0_ev g [⟨a, b, c⟩, ⟨p, q, t⟩] (by simp) ?_ ⟨a, b, c⟩ lo hi _ 2 0 j rfl (by simp) hst2
  intro x hx
  simp only [List.mem_cons, List.not_mem_nil, or_false] at hx
  rcases hx with rfl | rfl
  · exact ⟨lo, hi⟩
  · exact ⟨l1, h1⟩
end Go.Proofs.Ytpjcdacnhalclaa.Q
namespace Go.Proofs.Ytpjcdacnhalclaa.intervalMakes
open Go.ChangeShapes Go.WideShapes Go.ChangeAt Go.RowKit Go.Joins
open Go.ChangeMaps (open_string shut_string)
open Go.Proofs.YtpjcdacnhalclaaW.PrintWords Go.Proofs.YtpjcdacnhalclaaW.PrintLast Go.Proofs.YtpjcdacnhalclaaW.PrintMore
set_option linter.unusedVariables false
set_option maxRecDepth 100000 in
theorem lifted (os : Os) (started : os.Started) (H : Type) (enc : TypeId × Value → H) :
    ReturnsInHanded {} Try.checked os 7 .any (Rows.intervalMakesSpec.pre6 enc Try.prog Try.f7 Rows.intervalMakesRow.domain false) (Rows.intervalMakesSpec.post enc Try.prog Try.f7 false true false false) := by
  refine returnsInHanded_of_change_sized (C := Try.checked) Q.own started (by kernel_rfl) Try.func7
    (ChangeSpec.witness6 (enc := enc) (C := Try.checked) false ⟨#[], #[.slice none 0 0, .agg #[.int .i64 0, .int .i64 0, .string ⟨#[]⟩], .int .i64 0], []⟩ 8 (by kernel_rfl) (by kernel_rfl) (by kernel_rfl) (by kernel_rfl)) ?_
  intro W base args ds gs before hval0 hW hcnd hsz0 _
  have hsz : (DataW.weightsEach Try.prog (Try.f7.params.toList ++ Rows.intervalMakesSpec.plain.varTypes Try.prog) (ds ++ gs)).all (· ≤ reachBytes) = true := hsz0
  have hval : ∀ (j : Nat) t v, Try.f7.params[j]? = some t → args[j]? = some v → Value.okWide Try.prog W .any base t v := hval0
  have hW' := hW
  obtain ⟨p, q, hA0, hV, rfl, hfz, hnd⟩ := hW
  have hA : DataW.TrodAll enc Try.prog W 0 (fun _ => true) true Try.f7.params.toList args.toList ds p := hA0
  rw [Try.params7] at hA hval hsz
  obtain ⟨v0, vs0, d0, ds0, p0, q0, hargs, rfl, rfl, h0, r0⟩ := trodAll_cons hA
  obtain ⟨v1, vs1, d1, ds1, p1, q1, rfl, rfl, rfl, h1, r1⟩ := trodAll_cons r0
  obtain ⟨v2, vs2, d2, ds2, p2, q2, rfl, rfl, rfl, h2, r2⟩ := trodAll_cons r1
  obtain ⟨rfl, rfl, rfl⟩ := trodAll_nil r2
  obtain rfl : args = #[v0, v1, v2] := by cases args; simp_all
  obtain ⟨rfl, rfl⟩ := trodVars_none hV
  have k0 := h0
  have lt0 : ∀ x ∈ p0, x.block < W.heap.size := by obtain ⟨m, hm⟩ := k0; exact DataW.trod_lt m _ _ _ hm
  obtain ⟨a0, len0, cap0, rfl⟩ := okWide_slice Try.underlying22 (hval 0 22 v0 rfl rfl)
  obtain ⟨z0, w0⟩ : ∃ zs, Q.IsRow .u8 W a0 len0 cap0 zs := by
    obtain ⟨fuel, hf⟩ := h0
    rcases open_ints Try.underlying22 Try.underlying5 (by kernel_rfl) hf with ⟨hcs, _⟩ | ⟨x, l, c, zs, hcs, _, hl, hm, hz, _, hcell, hwz⟩
    · simp [Value.cells] at hcs
      obtain ⟨rfl, rfl, rfl⟩ := hcs
      exact ⟨[], .inl ⟨rfl, rfl, rfl, rfl⟩⟩
    · simp [Value.cells] at hcs
      obtain ⟨rfl, rfl, rfl⟩ := hcs
      exact ⟨zs, .inr ⟨_, rfl, hl, hm, by simpa using hz, hcell, hwz⟩⟩
  obtain ⟨l0, rfl, hr0, hm0, hw0, hc0⟩ := ReadsInt.ofRowC w0
  have k1 := h1
  have lt1 : ∀ x ∈ p1, x.block < W.heap.size := by obtain ⟨m, hm⟩ := k1; exact DataW.trod_lt m _ _ _ hm
  obtain ⟨u1_0, u1_1, u1_2, y1_0, y1_1, y1_2, n1, rfl, _, _, e1_0, e1_1, e1_2⟩ := open_agg3 Try.underlying24 (by kernel_rfl) (by kernel_rfl) (hval 1 24 v1 rfl rfl) h1
  obtain ⟨a1_0, g1_0, _, w1_0⟩ := DataW.trod_int Try.underlying3 e1_0
  obtain ⟨a1_1, g1_1, _, w1_1⟩ := DataW.trod_int Try.underlying2 e1_1
  obtain ⟨a1_2, g1_2, _, w1_2⟩ := DataW.trod_string Try.underlying9 e1_2
  obtain rfl := (List.cons.inj g1_0).1
  obtain rfl := (List.cons.inj g1_1).1
  obtain rfl := (List.cons.inj g1_2).1
  have k2 := h2
  have lt2 : ∀ x ∈ p2, x.block < W.heap.size := by obtain ⟨m, hm⟩ := k2; exact DataW.trod_lt m _ _ _ hm
  obtain ⟨a2, rfl, rfl, rfl, w2⟩ := open_int Try.underlying3 (hval 2 3 v2 rfl rfl) h2
  clear hA0 hval0 hsz0 hsz
  obtain ⟨k, hk⟩ := Q.partsynclaw03_IntervalMakes.pure l0 (fun x hx => Q.wf_byte (hw0 x hx)) a1_0 a1_1 a1_2 (Q.wf_int w1_1).1 (Q.wf_int w1_1).2 a2
  refine (Q.partsynclaw03_IntervalMakes.calls k _ _ l0 a1_0 a1_1 a1_2 a2 true W (Kd.C_of_reads (d := (0 : Int)) (h1 := fun _ => rfl) hr0) hc0 hk ⟨rfl⟩).mono fun e W' ⟨he, bel⟩ => ?_
  subst he
  exact ⟨_, rfl, _, _, _, [], _, [], hW', trodAll_mk1 (shut_bool Try.underlying4 _), (trodAll_cons_mk (Below.trod Q.laidOut (by kernel_rfl) (of_decide_eq_true (by kernel_rfl)) k0 bel lt0) (trodAll_cons_mk (Below.trod Q.laidOut (by kernel_rfl) (of_decide_eq_true (by kernel_rfl)) k1 bel lt1) (trodAll_cons_mk (Below.trod Q.laidOut (by kernel_rfl) (of_decide_eq_true (by kernel_rfl)) k2 bel lt2) trodAll_mk0))), rfl, bel.frame _, fun h => by cases h⟩
theorem over : Rows.intervalMakesRow.holds Try.pinned (OpenSpec.ofChange Rows.intervalMakesSpec) :=
  OpenClaim.holds_of_wide 7 Try.f7 rfl rfl rfl rfl rfl rfl rfl ⟨rfl, rfl, rfl, rfl, rfl⟩ rfl rfl rfl rfl rfl (by kernel_rfl) Try.func7 (by kernel_rfl)
    (of_decide_eq_true (by kernel_rfl)) (by unfold Func.isWrapper; first | (rw [if_pos (by decide +kernel)]; kernel_rfl) | (rw [if_neg (by decide +kernel)]; exact ⟨rfl, rfl⟩))
    (fun os started H enc _ => lifted os started H enc)
theorem proved : Rows.IntervalMakesSaid := over
end Go.Proofs.Ytpjcdacnhalclaa.intervalMakes
namespace Go.Proofs.Ytpjcdacnhalclaa
/-- The row, under a short name, for the claim. -/
theorem intervalMakes_holds : Rows.IntervalMakesSaid := intervalMakes.proved
#print axioms intervalMakes_holds
end Go.Proofs.Ytpjcdacnhalclaa
