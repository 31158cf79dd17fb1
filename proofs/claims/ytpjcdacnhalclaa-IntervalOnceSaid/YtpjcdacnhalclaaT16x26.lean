/- A part of the proof of the law that the last part names: facts of the functions that the law calls. No condition beyond those that stand in them. -/
import Derived.Test.YtpjcdacnhalclaaT16x3
import Derived.Test.YtpjcdacnhalclaaT16x7
import Derived.Test.YtpjcdacnhalclaaT16x13
import Derived.Test.YtpjcdacnhalclaaT16x17
import Derived.Test.YtpjcdacnhalclaaT16x19
import Derived.Test.YtpjcdacnhalclaaT16x22
import Derived.Test.YtpjcdacnhalclaaT16x10
import Derived.Test.YtpjcdacnhalclaaT16x9
import Derived.Test.YtpjcdacnhalclaaT16x20
import Derived.Test.YtpjcdacnhalclaaT16x21
import Derived.Test.YtpjcdacnhalclaaT16x25
import Derived.Test.YtpjcdacnhalclaaT16x24
import Derived.Test.YtpjcdacnhalclaaT16x8
import Derived.Test.YtpjcdacnhalclaaT16x23
import Derived.Test.YtpjcdacnhalclaaT16x11
import Derived.Test.YtpjcdacnhalclaaT16x15
namespace Go.Proofs.Ytpjcdacnhalclaa.Q
open Go.RowKit Go.Proofs.YtpjcdacnhalclaaW.PrintWords Go.Proofs.YtpjcdacnhalclaaW.PrintLast Go.Proofs.YtpjcdacnhalclaaW.PrintMore
attribute [local go_sem] max2_int min2_int max_two min_two max_three min_three max_four min_four
set_option linter.unusedVariables false
set_option linter.unusedSimpArgs false
theorem endsI_drop (l : List S65) (i : Nat) (h : i < l.length) : endsI (l.drop i) = (if l[i].f2 = true then [l[i].f0] else [l[i].f0, l[i].f1]) ++ endsI (l.drop (i + 1)) := by rw [List.drop_eq_getElem_cons h, endsI_cons]
theorem interval_merge.l1_ev (kp : Bool → Bool → Bool) (a b : List S65) (L : List (List S65)) (n j : Int) (l : List S65) (hl : l.length < 1073741824) (r : List S65) : ∀ (m i : Nat) (pts : List S24), l.length - i = m → i ≤ l.length → pts.length + 2 * m < 4398046511104 →
    Ev (fun k => interval_merge.l0 kp k a b (pts ++ endsI (l.drop i)) L n (wrap64 (j + 1))) r → Ev (fun k => interval_merge.l1 kp k a b pts L n j l l.length i) r := by
  intro m
  induction m with
  | zero =>
    intro i pts hm hi hp h
    rw [List.drop_eq_nil_iff.2 (by omega : l.length ≤ i)] at h
    refine Ev.step (fun k => by rw [interval_merge.l1, if_neg (by omega)]) ?_
    simpa [endsI] using h
  | succ m ih =>
    intro i pts hm hi hp h
    have hil : i < l.length := by omega
    have hw : wrap64 ((i : Int) + 1) = ((i + 1 : Nat) : Int) := wrap64_succ (by omega)
    rw [endsI_drop l i hil] at h
    refine Ev.step (fun k => by rw [interval_merge.l1, if_pos (by omega), if_pos (by omega), if_pos (by omega), if_pos (by omega), rd_T65_nat l i hil, hw, Option.bind_some]) ?_
    by_cases h2 : l[i].f2 = true
    · rw [if_pos h2] at h
      refine Ev.congr (fun k => if_pos h2) ?_
      refine ih (i + 1) _ (by omega) (by omega) (by simp; omega) ?_
      rw [List.append_assoc]
      exact h
    · rw [if_neg h2] at h
      refine Ev.congr (fun k => by rw [if_neg h2, if_pos (by simp; omega)]) ?_
      refine ih (i + 1) _ (by omega) (by omega) (by simp; omega) ?_
      rw [List.append_assoc, List.append_assoc]
      exact h
theorem rd_last (o : List S65) (y : S65) (ho : o.length < 1954687338268) : rd_T65 (o ++ [y]) (wrap64 (((o ++ [y]).length : Int) - 1)) = y ∧ (wrap64 (((o ++ [y]).length : Int) - 1)).toNat = o.length ∧ 0 ≤ wrap64 (((o ++ [y]).length : Int) - 1) ∧ wrap64 (((o ++ [y]).length : Int) - 1) < ((o ++ [y]).length : Int) := by
  have e : wrap64 (((o ++ [y]).length : Int) - 1) = (o.length : Int) := by
    rw [List.length_append, List.length_singleton]
    unfold wrap64
    omega
  rw [e]
  refine ⟨?_, by simp, by omega, by simp; omega⟩
  rw [rd_T65_nat _ _ (by simp)]
  simp
theorem set_last (o : List S65) (y z : S65) : (o ++ [y]).set o.length z = o ++ [z] := by
  rw [List.set_append_right _ _ (Nat.le_refl _)]
  simp
theorem interval_merge.l2_ev (kp : Bool → Bool → Bool) (a b : List S65) (ha : a.length < 4611686018427387904) (hb : b.length < 4611686018427387904) (ps : List S24) (hp : ps.length < 1073741824) : ∀ (m i : Nat) (o : List S65), ps.length - i = m → i ≤ ps.length → o.length + m < 1954687338000 →
    Ev (fun k => interval_merge.l2 kp k a b o false ps ps.length i) (o ++ sw (fun v => kp (inI a v) (inI b v)) (ps.drop i)) ∧ ∀ s : S24, Ev (fun k => interval_merge.l2 kp k a b (o ++ [⟨s, zS, true⟩]) true ps ps.length i) (o ++ swO (fun v => kp (inI a v) (inI b v)) s (ps.drop i)) := by
  intro m
  induction m with
  | zero =>
    intro i o hm hi ho
    have e : ps.drop i = [] := List.drop_eq_nil_iff.2 (by omega)
    rw [e]
    refine ⟨Ev.step (fun k => by rw [interval_merge.l2, if_neg (by omega)]) ?_, fun s => Ev.step (fun k => by rw [interval_merge.l2, if_neg (by omega)]) ?_⟩
    · rw [sw, List.append_nil]; exact Ev.now _
    · rw [swO]; exact Ev.now _
  | succ m ih =>
    intro i o hm hi ho
    have hil : i < ps.length := by omega
    have hw : wrap64 ((i : Int) + 1) = ((i + 1 : Nat) : Int) := wrap64_succ (by omega)
    have hlo : o.length < 1954687338268 := by omega
    rw [List.drop_eq_getElem_cons hil]
    generalize hq : ps[i] = p
    refine ⟨?_, fun s => ?_⟩
    · refine Ev.step (fun k => by rw [interval_merge.l2, if_pos (by omega), if_pos (by omega), if_pos (by omega), rd_T24_nat ps i hil, hq]) ?_
      refine Ev.bind (interval_contains.ev a ha p) ?_
      refine Ev.bind (interval_contains.ev b hb p) ?_
      by_cases hg : kp (inI a p) (inI b p) = true
      · simp only [Option.bind_some, hg, if_true]
        rw [sw, if_pos hg]
        refine Ev.step (fun k => by rw [interval_merge.j3]) ?_
        simp only [Bool.not_false, if_true, hlo, Option.bind_some, hw]
        exact (ih (i + 1) o (by omega) (by omega) (by omega)).2 p
      · have hg' := Bool.eq_false_iff.2 hg
        simp only [Option.bind_some, hg', if_false, Bool.false_eq_true]
        rw [sw, if_neg hg]
        refine Ev.step (fun k => by rw [interval_merge.j3]) ?_
        simp only [Bool.false_eq_true, if_false, hw]
        exact (ih (i + 1) o (by omega) (by omega) (by omega)).1
    · refine Ev.step (fun k => by rw [interval_merge.l2, if_pos (by omega), if_pos (by omega), if_pos (by omega), rd_T24_nat ps i hil, hq]) ?_
      refine Ev.bind (interval_contains.ev a ha p) ?_
      refine Ev.bind (interval_contains.ev b hb p) ?_
      by_cases hg : kp (inI a p) (inI b p) = true
      · simp only [Option.bind_some, hg, if_true]
        rw [swO, if_pos hg]
        refine Ev.step (fun k => by rw [interval_merge.j3]) ?_
        simp only [Bool.not_true, Bool.false_eq_true, if_true, if_false, hw]
        exact (ih (i + 1) o (by omega) (by omega) (by omega)).2 s
      · have hg' := Bool.eq_false_iff.2 hg
        simp only [Option.bind_some, hg', if_false, Bool.false_eq_true]
        rw [swO, if_neg hg]
        refine Ev.step (fun k => by rw [interval_merge.j3]) ?_
        obtain ⟨r1, r2, r3, r4⟩ := rd_last o ⟨s, zS, true⟩ hlo
        obtain ⟨s1, _⟩ := rd_last o ⟨s, zS, false⟩ hlo
        have hll : ((o ++ [(⟨s, zS, true⟩ : S65)]).length : Int) = ((o ++ [(⟨s, zS, false⟩ : S65)]).length : Int) := by simp
        simp only [Bool.false_eq_true, if_true, if_false, hw, r3, r4, r1, r2, Option.bind_some, set_last]
        have s1' : rd_T65 (o ++ [(⟨s, zS, false⟩ : S65)]) (wrap64 (((o ++ [(⟨s, zS, true⟩ : S65)]).length : Int) - 1)) = ⟨s, zS, false⟩ := by rw [hll]; exact s1
        have := (ih (i + 1) (o ++ [⟨s, p, false⟩]) (by omega) (by omega) (by simp; omega)).1
        rw [List.append_assoc] at this
        refine Ev.congr (fun k => ?_) this
        show interval_merge.l2 kp k a b (o ++ [(⟨(rd_T65 (o ++ [(⟨s, zS, false⟩ : S65)]) (wrap64 (((o ++ [(⟨s, zS, true⟩ : S65)]).length : Int) - 1))).f0, p, (rd_T65 (o ++ [(⟨s, zS, false⟩ : S65)]) (wrap64 (((o ++ [(⟨s, zS, true⟩ : S65)]).length : Int) - 1))).f2⟩ : S65)]) false ps ps.length ((i + 1 : Nat) : Int) = _
        rw [s1']
theorem endsI_le : ∀ l : List S65, (endsI l).length ≤ 2 * l.length
  | [] => by simp [endsI]
  | x :: l => by
    have := endsI_le l
    rw [endsI_cons, List.length_append, List.length_cons]
    split <;> simp <;> omega
theorem interval_merge.ev (kp : Bool → Bool → Bool) (a b : List S65) (ha : a.length ≤ 1048576) (hb : b.length ≤ 1048576) : ∃ ps, IsPts (leastS :: (endsI a ++ endsI b)) ps ∧ Ev (fun k => interval_merge.f k a b kp) (sw (fun v => kp (inI a v) (inI b v)) ps) := by
  have la := endsI_le a
  have lb := endsI_le b
  have hps := dedV_pts (leastS :: (endsI a ++ endsI b))
  refine ⟨_, hps, ?_⟩
  generalize hd : dedV ((leastS :: (endsI a ++ endsI b)).mergeSort leV) = ps at hps
  have hl := hps.len
  simp only [List.length_cons, List.length_append] at hl
  refine Ev.congr (f := fun k => interval_merge.l0 kp k a b [leastS] [a, b] 2 0) (fun k => rfl) ?_
  refine Ev.step (fun k => by rw [interval_merge.l0, if_pos (by omega), if_pos (by omega), if_pos (by simp), show rd_L7 [a, b] 0 = a from rfl]) ?_
  refine interval_merge.l1_ev kp a b _ _ _ a (by omega) _ a.length 0 _ rfl (Nat.zero_le _) (by simp; omega) ?_
  rw [show wrap64 (0 + 1) = 1 by unfold wrap64; omega, List.drop_zero]
  refine Ev.step (fun k => by rw [interval_merge.l0, if_pos (by omega), if_pos (by omega), if_pos (by simp), show rd_L7 [a, b] 1 = b from rfl]) ?_
  refine interval_merge.l1_ev kp a b _ _ _ b (by omega) _ b.length 0 _ rfl (Nat.zero_le _) (by first | omega | (simp; omega)) ?_
  rw [show wrap64 (1 + 1) = 2 by unfold wrap64; omega, List.drop_zero, List.append_assoc, List.singleton_append]
  refine Ev.step (fun k => by rw [interval_merge.l0, if_neg (by omega)]) ?_
  have h1 : api_Value_99.f (leastS :: (endsI a ++ endsI b)) = some ((leastS :: (endsI a ++ endsI b)).mergeSort leV) := by
    unfold api_Value_99.f
    rw [if_neg (by simp), if_pos (by simp; omega)]
  have h2 : api_Value_100.f ((leastS :: (endsI a ++ endsI b)).mergeSort leV) = some ps := by
    unfold api_Value_100.f
    rw [if_pos (by rw [List.length_mergeSort]; simp; omega), hd]
  simp only [h1, h2, Option.bind_some]
  have := (interval_merge.l2_ev kp a b (by omega) (by omega) ps (by omega) ps.length 0 [] rfl (Nat.zero_le _) (by simp; omega)).1
  rw [List.nil_append, List.drop_zero] at this
  exact this
theorem ends_pts_valid {a b : List S65} {es ps : List S24} (ca : Can a) (cb : Can b) (h : IsPts es ps) (he : ∀ v ∈ es, v = leastS ∨ v ∈ endsI a ++ endsI b) : ∀ p ∈ ps, validS p = true := fun p hp => by
  rcases he p ((h.mem p).1 hp) with e | e
  · exact e ▸ least_valid
  · rcases List.mem_append.1 e with e | e
    · exact ca.ends p e
    · exact cb.ends p e
theorem interval_merge.op (kp : Bool → Bool → Bool) {a b : List S65} (ha : okI a = true) (hb : okI b = true) : ∃ r, IsOp kp a b r ∧ Ev (fun k => interval_merge.f k a b kp) r := by
  obtain ⟨ha, ca⟩ := okI_can.1 ha
  obtain ⟨hb, cb⟩ := okI_can.1 hb
  obtain ⟨ps, h, e⟩ := interval_merge.ev kp a b (by omega) (by omega)
  exact ⟨_, IsOp.of_least kp (ends_pts_valid ca cb h fun v hv => by simpa using hv) h.sorted h.mem (by have := h.len; simp at this; omega), e⟩
theorem interval_combine.ok (kp : Bool → Bool → Bool) {a b : List S65} (ha : okI a = true) (hb : okI b = true) : ∃ r, IsOp kp a b r ∧ Ev (fun k => interval_combine.f k a b kp) (if r.length > 64 then ([], 2) else (r, 0)) := by
  obtain ⟨r, hr, e⟩ := interval_merge.op kp ha hb
  refine ⟨r, hr, ?_⟩
  unfold interval_combine.f
  refine Ev.bind (interval_Valid.ev a) ?_
  simp only [ha, if_true]
  refine Ev.bind (interval_Valid.ev b) ?_
  simp only [hb, Bool.not_true]
  refine Ev.step (fun k => by rw [interval_combine.j0]) ?_
  simp only [Bool.false_eq_true, if_false]
  refine Ev.bind e ?_
  by_cases hc : r.length > 64
  · rw [if_pos hc]
    exact Ev.congr (fun k => if_pos (by omega)) (Ev.now _)
  · rw [if_neg hc]
    exact Ev.congr (fun k => if_neg (by omega)) (Ev.now _)
theorem interval_combine.few (kp : Bool → Bool → Bool) {a b : List S65} (ha : okI a = true) (hb : okI b = true) (hn : 1 + (endsI a).length + (endsI b).length ≤ 64) : ∃ r, IsOp kp a b r ∧ okI r = true ∧ Ev (fun k => interval_combine.f k a b kp) (r, 0) := by
  obtain ⟨r, hr, e⟩ := interval_combine.ok kp ha hb
  have h1 := len_ends r
  have h2 := hr.len
  rw [if_neg (by omega)] at e
  exact ⟨r, hr, okI_can.2 ⟨by omega, hr.can⟩, e⟩
theorem partsyncref03_Points.l1_ev (L : List (List S65)) (n j : Int) (l : List S65) (hl : l.length < 1073741824) (r : List S24) : ∀ (m i : Nat) (es : List S24), l.length - i = m → i ≤ l.length → es.length + 2 * m < 4398046511104 →
    Ev (fun k => partsyncref03_Points.l0 k ((es ++ endsI (l.drop i)).map fun v => [v]) L n (wrap64 (j + 1))) r → Ev (fun k => partsyncref03_Points.l1 k (es.map fun v => [v]) L n j l l.length i) r := by
  intro m
  induction m with
  | zero =>
    intro i es hm hi hp h
    rw [List.drop_eq_nil_iff.2 (by omega : l.length ≤ i)] at h
    refine Ev.step (fun k => by rw [partsyncref03_Points.l1, if_neg (by omega)]) ?_
    simpa [endsI] using h
  | succ m ih =>
    intro i es hm hi hp h
    have hil : i < l.length := by omega
    have hw : wrap64 ((i : Int) + 1) = ((i + 1 : Nat) : Int) := wrap64_succ (by omega)
    rw [endsI_drop l i hil] at h
    refine Ev.step (fun k => by rw [partsyncref03_Points.l1, if_pos (by omega), if_pos (by omega), if_pos (by omega), if_pos (by simp; omega), rd_T65_nat l i hil, hw, Option.bind_some]) ?_
    by_cases h2 : l[i].f2 = true
    · rw [if_pos h2] at h
      refine Ev.congr (fun k => if_pos h2) ?_
      have := ih (i + 1) (es ++ [l[i].f0]) (by omega) (by omega) (by simp; omega) (by rw [List.append_assoc]; exact h)
      rw [List.map_append] at this
      exact this
    · rw [if_neg h2] at h
      refine Ev.congr (fun k => by rw [if_neg h2, if_pos (by simp; omega)]) ?_
      have := ih (i + 1) (es ++ [l[i].f0] ++ [l[i].f1]) (by omega) (by omega) (by simp; omega) (by rw [List.append_assoc, List.append_assoc]; exact h)
      rw [List.map_append, List.map_append] at this
      exact this
theorem partsyncref03_Points.l2_ev (ps : List S24) (hp : ps.length < 1073741824) : ∀ (m i : Nat), ps.length - i = m → i ≤ ps.length → Ev (fun k => partsyncref03_Points.l2 k (ps.take i) (ps.map fun v => [v]) ps.length i) ps := by
  intro m
  induction m with
  | zero =>
    intro i hm hi
    refine Ev.step (fun k => by rw [partsyncref03_Points.l2, if_neg (by omega)]) ?_
    rw [List.take_of_length_le (by omega)]
    exact Ev.now _
  | succ m ih =>
    intro i hm hi
    have hil : i < ps.length := by omega
    have hw : wrap64 ((i : Int) + 1) = ((i + 1 : Nat) : Int) := wrap64_succ (by omega)
    have hr : rd_L4 (ps.map fun v => [v]) (i : Int) = [ps[i]] := by rw [rd_L4_nat _ _ (by simpa using hil)]; simp
    refine Ev.step (fun k => by rw [partsyncref03_Points.l2, if_pos (by omega), if_pos (by omega), if_pos (by simp; omega), hr, if_pos (by simp), if_pos (by rw [List.length_take]; omega), hw, show rd_T24 [ps[i]] 0 = ps[i] from rfl]) ?_
    have := ih (i + 1) (by omega) (by omega)
    rw [List.take_succ_eq_append_getElem hil] at this
    exact this
theorem partsyncref03_Points.ev (a b : List S65) (ha : a.length ≤ 8192) (hb : b.length ≤ 8192) : ∃ ps, IsPts (endsI a ++ endsI b) ps ∧ Ev (fun k => partsyncref03_Points.f k [a, b]) ps := by
  have la := endsI_le a
  have lb := endsI_le b
  obtain ⟨ps, hd, hps⟩ := setOf_pts (endsI a ++ endsI b)
  refine ⟨ps, hps, ?_⟩
  have hl := hps.len
  simp only [List.length_append] at hl
  refine Ev.congr (f := fun k => partsyncref03_Points.l0 k (([] : List S24).map fun v => [v]) [a, b] 2 0) (fun k => rfl) ?_
  refine Ev.step (fun k => by rw [partsyncref03_Points.l0, if_pos (by omega), if_pos (by omega), if_pos (by simp), show rd_L7 [a, b] 0 = a from rfl]) ?_
  refine partsyncref03_Points.l1_ev _ _ _ a (by omega) _ a.length 0 _ rfl (Nat.zero_le _) (by simp; omega) ?_
  rw [show wrap64 (0 + 1) = 1 by unfold wrap64; omega, List.drop_zero, List.nil_append]
  refine Ev.step (fun k => by rw [partsyncref03_Points.l0, if_pos (by omega), if_pos (by omega), if_pos (by simp), show rd_L7 [a, b] 1 = b from rfl]) ?_
  refine partsyncref03_Points.l1_ev _ _ _ b (by omega) _ b.length 0 _ rfl (Nat.zero_le _) (by first | omega | (simp; omega)) ?_
  rw [show wrap64 (1 + 1) = 2 by unfold wrap64; omega, List.drop_zero]
  refine Ev.step (fun k => by rw [partsyncref03_Points.l0, if_neg (by omega)]) ?_
  have hk : okRows ((endsI a ++ endsI b).map fun v => [v]) = true := by
    unfold okRows
    rw [Bool.and_eq_true]
    refine ⟨decide_eq_true (by simp; omega), ?_⟩
    rw [List.all_eq_true]
    intro x hx
    obtain ⟨y, _, rfl⟩ := List.mem_map.1 hx
    exact decide_eq_true (by simp)
  have hs : ∀ k, partsyncref01_Set.f k ((endsI a ++ endsI b).map fun v => [v]) = some (ps.map fun v => [v]) := fun k => by
    unfold partsyncref01_Set.f
    rw [if_pos hk, hd]
  simp only [hs, Option.bind_some]
  have := partsyncref03_Points.l2_ev ps (by omega) ps.length 0 rfl (Nat.zero_le _)
  rw [List.take_zero] at this
  refine Ev.congr (fun k => ?_) this
  rw [List.length_map]
  rfl
theorem partsyncref03_Join.new (o : List S65) (x : S65) (ho : o.length < 1954687338268) (h : ∀ y ∈ o.getLast?, y.f2 = false → ltV y.f1 x.f0) : partsyncref03_Join.g o x = some (o ++ [x]) := by
  unfold partsyncref03_Join.g
  rcases List.eq_nil_or_concat o with rfl | ⟨o', y, rfl⟩
  · rw [if_neg (by simp), if_pos (by simp)]
  · rw [List.concat_eq_append] at *
    have ho' : o'.length < 1954687338268 := by simp at ho; omega
    obtain ⟨r1, r2, r3, r4⟩ := rd_last o' y ho'
    rw [if_pos (by rw [List.length_append, List.length_singleton]; omega), if_pos r3, if_pos r4, r1]
    by_cases h2 : y.f2 = true
    · rw [if_pos h2, if_pos ho]
    · have h1 := h y (by simp) (Bool.eq_false_iff.2 h2)
      rw [if_neg h2, partsyncref01_Compare.some_, Option.bind_some, value_Compare.lt_ h1, if_neg (by decide), if_pos ho]
theorem partsyncref03_Join.old (o : List S65) (s t u : S24) (d : Bool) (ho : o.length < 1954687338268) : partsyncref03_Join.g (o ++ [⟨s, t, false⟩]) ⟨t, u, d⟩ = some (o ++ [⟨s, u, d⟩]) := by
  unfold partsyncref03_Join.g
  obtain ⟨r1, r2, r3, r4⟩ := rd_last o ⟨s, t, false⟩ ho
  obtain ⟨s1, _⟩ := rd_last o ⟨s, u, false⟩ ho
  have hll : ((o ++ [(⟨s, t, false⟩ : S65)]).length : Int) = ((o ++ [(⟨s, u, false⟩ : S65)]).length : Int) := by simp
  have s1' : rd_T65 (o ++ [(⟨s, u, false⟩ : S65)]) (wrap64 (((o ++ [(⟨s, t, false⟩ : S65)]).length : Int) - 1)) = ⟨s, u, false⟩ := by rw [hll]; exact s1
  rw [if_pos (by rw [List.length_append, List.length_singleton]; omega), if_pos r3, if_pos r4, r1, r2, if_neg (by simp)]
  have hc := partsyncref01_Compare.some_ t t
  rw [value_Compare.eq_] at hc
  show (partsyncref01_Compare.f t.f0 t.f1 t.f2 t.f0 t.f1 t.f2).bind _ = _
  rw [hc, Option.bind_some, if_pos rfl]
  show (some ((o ++ [(⟨s, t, false⟩ : S65)]).set o.length ⟨s, u, false⟩)).bind _ = _
  rw [Option.bind_some, set_last, s1']
  show some ((o ++ [(⟨s, u, false⟩ : S65)]).set o.length ⟨s, u, d⟩) = _
  rw [set_last]
theorem partsyncref03_Join.x_last (ps : List S24) (i : Nat) (h : i + 1 = ps.length) (hp : ps.length < 1073741824) : partsyncref03_Join.x ps i = ⟨ps[i], zS, true⟩ := by
  have hw : wrap64 ((ps.length : Int) - 1) = (i : Int) := by unfold wrap64; omega
  unfold partsyncref03_Join.x
  rw [hw, rd_T24_nat ps i (by omega), if_pos rfl, beq_self_eq_true]
  rfl
theorem partsyncref03_Join.x_mid (ps : List S24) (i : Nat) (h : i + 1 < ps.length) (hp : ps.length < 1073741824) : partsyncref03_Join.x ps i = ⟨ps[i], ps[i + 1], false⟩ := by
  have hw : wrap64 ((ps.length : Int) - 1) = (ps.length : Int) - 1 := by unfold wrap64; omega
  have hw1 : wrap64 ((i : Int) + 1) = ((i + 1 : Nat) : Int) := wrap64_succ (by omega)
  unfold partsyncref03_Join.x
  rw [hw, hw1, rd_T24_nat ps i (by omega), rd_T24_nat ps (i + 1) h, if_neg (by omega), beq_eq_false_iff_ne.2 (by omega)]
def opK (op : Int) : Bool → Bool → Bool := if op = 1 then kOr else if op = 2 then kAnd else kMinus
theorem partsyncref03_Apply.some_ (op : Int) (x y : Bool) : partsyncref03_Apply.f op x y = some (opK op x y) := by
  unfold partsyncref03_Apply.f opK
  by_cases h1 : op = 1
  · rw [if_pos h1, if_pos h1]; cases x <;> simp [kOr]
  · rw [if_neg h1, if_neg h1]
    by_cases h2 : op = 2
    · rw [if_pos h2, if_pos h2]; cases x <;> simp [kAnd]
    · rw [if_neg h2, if_neg h2]; cases x <;> simp [kMinus]
theorem opK_none (op : Int) : opK op false false = false := by
  unfold opK
  split
  · rfl
  · split <;> rfl
theorem partsyncref03_Combine.l0_ev (op : Int) (a b : List S65) (ha : a.length < 4611686018427387904) (hb : b.length < 4611686018427387904) (ps : List S24) (hs : ps.Pairwise ltV) (hp : ps.length < 1073741824) : ∀ (m i : Nat) (o : List S65), ps.length - i = m → i ≤ ps.length → o.length + m < 1954687338000 →
    ((i < ps.length → ∀ y ∈ o.getLast?, y.f2 = false → ∀ p ∈ ps.drop i, ltV y.f1 p) → Ev (fun k => partsyncref03_Combine.l0 k op a b ps o ps ps.length i) (o ++ sw (fun v => opK op (inI a v) (inI b v)) (ps.drop i))) ∧
    ∀ (s : S24) (h : i < ps.length), Ev (fun k => partsyncref03_Combine.l0 k op a b ps (o ++ [⟨s, ps[i], false⟩]) ps ps.length i) (o ++ swO (fun v => opK op (inI a v) (inI b v)) s (ps.drop i)) := by
  intro m
  induction m with
  | zero =>
    intro i o hm hi ho
    have e : ps.drop i = [] := List.drop_eq_nil_iff.2 (by omega)
    rw [e]
    refine ⟨fun _ => Ev.step (fun k => by rw [partsyncref03_Combine.l0, if_neg (by omega)]) ?_, fun s h => absurd h (by omega)⟩
    rw [sw, List.append_nil]; exact Ev.now _
  | succ m ih =>
    intro i o hm hi ho
    have hil : i < ps.length := by omega
    have hw : wrap64 ((i : Int) + 1) = ((i + 1 : Nat) : Int) := wrap64_succ (by omega)
    have hlo : o.length < 1954687338268 := by omega
    have hdr := List.drop_eq_getElem_cons hil
    have hso : ∀ q ∈ ps.drop (i + 1), ltV ps[i] q := by
      have := hs.drop (i := i)
      rw [hdr] at this
      exact (List.pairwise_cons.1 this).1
    have pre : ∀ (o' : List S65) (res : List S65), (opK op (inI a ps[i]) (inI b ps[i]) = true → Ev (fun k => (partsyncref03_Join.f o' ps i).bind fun t => partsyncref03_Combine.l0 k op a b ps t ps ps.length ((i + 1 : Nat) : Int)) res) → (opK op (inI a ps[i]) (inI b ps[i]) = false → Ev (fun k => partsyncref03_Combine.l0 k op a b ps o' ps ps.length ((i + 1 : Nat) : Int)) res) → Ev (fun k => partsyncref03_Combine.l0 k op a b ps o' ps ps.length i) res := by
      intro o' res h1 h2
      refine Ev.step (fun k => by rw [partsyncref03_Combine.l0, if_pos (by omega), if_pos (by omega), if_pos (by omega), rd_T24_nat ps i hil, hw]) ?_
      refine Ev.bind (partsyncref03_In.ev a ha ps[i]) ?_
      refine Ev.bind (partsyncref03_In.ev b hb ps[i]) ?_
      simp only [partsyncref03_Apply.some_, Option.bind_some]
      by_cases hg : opK op (inI a ps[i]) (inI b ps[i]) = true
      · simp only [hg, if_true]; exact h1 hg
      · have hg' := Bool.eq_false_iff.2 hg
        simp only [hg', Bool.false_eq_true, if_false]; exact h2 hg'
    have jf : ∀ o', partsyncref03_Join.f o' ps i = partsyncref03_Join.g o' (partsyncref03_Join.x ps i) := fun o' => by unfold partsyncref03_Join.f; rw [if_pos (by omega), if_pos (by omega)]
    rw [hdr]
    have fin : ∀ o', i + 1 = ps.length → Ev (fun k => partsyncref03_Combine.l0 k op a b ps o' ps ps.length ((i + 1 : Nat) : Int)) o' := fun o' he => Ev.step (fun k => by rw [partsyncref03_Combine.l0, if_neg (by omega)]) (Ev.now _)
    refine ⟨fun hlast => ?_, fun s h => ?_⟩
    · have hlast := hlast hil
      refine pre _ _ (fun hg => ?_) fun hg => ?_
      · rw [sw, if_pos hg]
        rcases Nat.lt_or_eq_of_le (Nat.succ_le_of_lt hil) with hn | hn
        · have hj : partsyncref03_Join.f o ps i = some (o ++ [⟨ps[i], ps[i + 1], false⟩]) := by
            rw [jf, partsyncref03_Join.x_mid ps i hn hp]
            exact partsyncref03_Join.new _ _ hlo fun y hy h2 => hlast y hy h2 _ (by first | exact List.mem_cons.2 (.inl rfl) | (rw [hdr]; exact List.mem_cons.2 (.inl rfl)))
          simp only [hj, Option.bind_some]
          exact (ih (i + 1) o (by omega) (by omega) (by omega)).2 ps[i] hn
        · have hj : partsyncref03_Join.f o ps i = some (o ++ [⟨ps[i], zS, true⟩]) := by
            rw [jf, partsyncref03_Join.x_last ps i hn hp]
            exact partsyncref03_Join.new _ _ hlo fun y hy h2 => hlast y hy h2 _ (by first | exact List.mem_cons.2 (.inl rfl) | (rw [hdr]; exact List.mem_cons.2 (.inl rfl)))
          simp only [hj, Option.bind_some]
          rw [List.drop_eq_nil_iff.2 (by omega : ps.length ≤ i + 1), swO]
          exact fin _ hn
      · rw [sw, if_neg (by rw [hg]; exact Bool.false_ne_true)]
        exact (ih (i + 1) o (by omega) (by omega) (by omega)).1 fun _ y hy h2 p hp => hlast y hy h2 p (by first | exact List.mem_cons_of_mem _ hp | (rw [hdr]; exact List.mem_cons_of_mem _ hp))
    · refine pre _ _ (fun hg => ?_) fun hg => ?_
      · rw [swO, if_pos hg]
        rcases Nat.lt_or_eq_of_le (Nat.succ_le_of_lt hil) with hn | hn
        · have hj : partsyncref03_Join.f (o ++ [⟨s, ps[i], false⟩]) ps i = some (o ++ [⟨s, ps[i + 1], false⟩]) := by
            rw [jf, partsyncref03_Join.x_mid ps i hn hp, partsyncref03_Join.old _ _ _ _ _ hlo]
          simp only [hj, Option.bind_some]
          exact (ih (i + 1) o (by omega) (by omega) (by omega)).2 s hn
        · have hj : partsyncref03_Join.f (o ++ [⟨s, ps[i], false⟩]) ps i = some (o ++ [⟨s, zS, true⟩]) := by
            rw [jf, partsyncref03_Join.x_last ps i hn hp, partsyncref03_Join.old _ _ _ _ _ hlo]
          simp only [hj, Option.bind_some]
          rw [List.drop_eq_nil_iff.2 (by omega : ps.length ≤ i + 1), swO]
          exact fin _ hn
      · rw [swO, if_neg (by rw [hg]; exact Bool.false_ne_true)]
        have := (ih (i + 1) (o ++ [⟨s, ps[i], false⟩]) (by omega) (by omega) (by simp; omega)).1 fun _ y hy h2 p hp => by
          simp at hy
          subst hy
          exact hso p hp
        rw [List.append_assoc] at this
        exact this
theorem partsyncref03_Combine.op (op : Int) {a b : List S65} (ha : a.length ≤ 8192) (hb : b.length ≤ 8192) (ca : Can a) (cb : Can b) : ∃ r, IsOp (opK op) a b r ∧ (endsI r).length ≤ (endsI a).length + (endsI b).length ∧ Ev (fun k => partsyncref03_Combine.f k op a b) r := by
  obtain ⟨ps, h, e⟩ := partsyncref03_Points.ev a b ha hb
  have hl := h.len
  rw [List.length_append] at hl
  have la := endsI_le a
  have lb := endsI_le b
  obtain ⟨h1, h2⟩ := IsOp.of_none (opK op) (opK_none op) (ends_pts_valid ca cb h fun v hv => .inr hv) h.sorted h.mem hl
  refine ⟨_, h1, h2, ?_⟩
  unfold partsyncref03_Combine.f
  refine Ev.bind e ?_
  have := (partsyncref03_Combine.l0_ev op a b (by omega) (by omega) ps h.sorted (by omega) ps.length 0 [] rfl (Nat.zero_le _) (by simp; omega)).1 fun _ y hy => by simp at hy
  rw [List.nil_append, List.drop_zero] at this
  exact this
theorem can_one {s t : S24} (hs : validS s = true) (ht : validS t = true) (h : ltV s t) : Can [⟨s, t, false⟩] := .cons s t [] hs ht h (by simp) .nil
theorem partsyncref03_From.ok {x : S24} (hv : validS x = true) : Ev (fun k => partsyncref03_From.f k x.f0 x.f1 x.f2) ([⟨x, zS, true⟩], 0) := by
  unfold partsyncref03_From.f
  refine Ev.bind (partsyncref01_Valid.ev _ _ _) ?_
  have hv : validV x.f0 x.f1 x.f2 = true := hv
  simp only [hv, if_true]
  exact Ev.now _
theorem One.ok {x : S24} (hv : validS x = true) (lo : -9223372036854775808 ≤ x.f1) (hi : x.f1 ≤ 9223372036854775807) : ∃ l, Ev (fun k => partsyncref03_One.f k x.f0 x.f1 x.f2) (l, 0) ∧ Ev (fun k => interval_One.f k x.f0 x.f1 x.f2) (l, 0) ∧ Can l ∧ (endsI l).length ≤ 2 := by
  have hv' : validV x.f0 x.f1 x.f2 = true := hv
  rcases value_Next.ok x hv' lo hi with ⟨y, hy, h1, h2⟩ | ⟨_, h1, h2⟩
  · refine ⟨[⟨x, y, false⟩], ?_, ?_, can_one hv hy.valid hy.up, by simp [endsI]⟩
    · unfold partsyncref03_One.f
      refine Ev.bind (partsyncref01_Valid.ev _ _ _) ?_
      simp only [hv', if_true]
      exact Ev.bind h2 (Ev.now _)
    · unfold interval_One.f
      refine Ev.bind (value_Valid.ev _ _ _) ?_
      simp only [hv', if_true]
      exact Ev.bind h1 (Ev.now _)
  · refine ⟨[⟨x, zS, true⟩], ?_, ?_, .last _ hv, by simp [endsI]⟩
    · unfold partsyncref03_One.f
      refine Ev.bind (partsyncref01_Valid.ev _ _ _) ?_
      simp only [hv', if_true]
      exact Ev.bind h2 (Ev.now _)
    · unfold interval_One.f
      refine Ev.bind (value_Valid.ev _ _ _) ?_
      simp only [hv', if_true]
      refine Ev.bind h1 ?_
      simp only [Bool.false_eq_true, if_false]
      exact Ev.now _
theorem Between.ok {x y : S24} (hx : validS x = true) (hy : validS y = true) : ∃ l, Ev (fun k => partsyncref03_Between.f k x.f0 x.f1 x.f2 y.f0 y.f1 y.f2) (l, 0) ∧ Ev (fun k => interval_Between.f k x.f0 x.f1 x.f2 y.f0 y.f1 y.f2) (l, 0) ∧ Can l ∧ (endsI l).length ≤ 2 ∧ (ltV x y → l = [⟨x, y, false⟩]) := by
  have hx' : validV x.f0 x.f1 x.f2 = true := hx
  have hy' : validV y.f0 y.f1 y.f2 = true := hy
  have a : ∀ l, (if cmpV x y ≥ 0 then (([] : List S65), (0 : Int)) else ([⟨x, y, false⟩], 0)) = l → Ev (fun k => partsyncref03_Between.f k x.f0 x.f1 x.f2 y.f0 y.f1 y.f2) l ∧ Ev (fun k => interval_Between.f k x.f0 x.f1 x.f2 y.f0 y.f1 y.f2) l := by
    rintro l rfl
    constructor
    · unfold partsyncref03_Between.f
      refine Ev.bind (partsyncref01_Valid.ev _ _ _) ?_
      simp only [hx', if_true]
      refine Ev.bind (partsyncref01_Valid.ev _ _ _) ?_
      simp only [hy', Bool.not_true]
      refine Ev.step (fun k => by rw [partsyncref03_Between.j0, if_neg (by decide), partsyncref01_Compare.some_, Option.bind_some]) ?_
      by_cases hc : cmpV x y ≥ 0
      · simp only [hc, if_true]; exact Ev.now _
      · simp only [hc, if_false]; exact Ev.now _
    · unfold interval_Between.f
      refine Ev.bind (value_Valid.ev _ _ _) ?_
      simp only [hx', if_true]
      refine Ev.bind (value_Valid.ev _ _ _) ?_
      simp only [hy', Bool.not_true]
      refine Ev.step (fun k => by rw [interval_Between.j0, if_neg (by decide), value_Compare.some_, Option.bind_some]) ?_
      by_cases hc : cmpV x y ≥ 0
      · simp only [hc, if_true]; exact Ev.now _
      · simp only [hc, if_false]; exact Ev.now _
  by_cases hc : cmpV x y ≥ 0
  · have := a ([], 0) (by rw [if_pos hc])
    exact ⟨[], this.1, this.2, .nil, by simp [endsI], fun h => absurd (cmpV_lt.2 h) (by omega)⟩
  · have := a ([⟨x, y, false⟩], 0) (by rw [if_neg hc])
    exact ⟨_, this.1, this.2, can_one hx hy (cmpV_lt.1 (by omega)), by simp [endsI], fun _ => rfl⟩
theorem lens {l : List S65} {n : Nat} (h : (endsI l).length ≤ n) : l.length ≤ n := Nat.le_trans (len_ends l) h
theorem partsynccase_Case_Interval.j1_ok (L : List Int) (m : Nat) (hm : m ≤ 2) (ih : ∀ (l : List S65) (i : Int), StOk L i → Can l → (endsI l).length ≤ 6 - 2 * m → ∃ r j, Ev (fun k => partsynccase_Case_Interval.l0 k l m L i) (r, j) ∧ StOk L j ∧ Can r ∧ (endsI r).length ≤ 7)
    (l : List S65) (i : Int) (hst : StOk L i) (hc : Can l) (hl : (endsI l).length ≤ 6 - 2 * (m + 1)) (x y : S24) (hx : validS x = true) (hy : validS y = true) (lo : -9223372036854775808 ≤ x.f1) (hi : x.f1 ≤ 9223372036854775807) :
    ∃ r j, Ev (fun k => partsynccase_Case_Interval.j1 k l ((m + 1 : Nat) : Int) L i x.f0 x.f1 x.f2 y.f0 y.f1 y.f2) (r, j) ∧ StOk L j ∧ Can r ∧ (endsI r).length ≤ 7 := by
  obtain ⟨r, j, hr, hst2, -⟩ := partsynccase_Case_Int.ok hst 5 (by omega)
  have hw : wrap64 (((m + 1 : Nat) : Int) - 1) = (m : Int) := by unfold wrap64; omega
  have go : ∀ (u : List S65), Can u → (endsI u).length ≤ 2 → ∃ r' j', Ev (fun k => (partsyncref03_Combine.f k 1 l u).bind fun t => partsynccase_Case_Interval.l0 k t m L j) (r', j') ∧ StOk L j' ∧ Can r' ∧ (endsI r').length ≤ 7 := by
    intro u hu hul
    obtain ⟨q, hq, hql, he⟩ := partsyncref03_Combine.op 1 (by have := lens hl; omega) (by have := lens hul; omega) hc hu
    obtain ⟨r', j', h1, h2⟩ := ih q j hst2 hq.can (by omega)
    exact ⟨r', j', Ev.bind he h1, h2⟩
  have st : ∀ (res : List S65 × Int), Ev (fun k => if r = 0 then ((partsyncref03_From.f k x.f0 x.f1 x.f2).bind fun bt463 => ((partsyncref03_Combine.f k 1 l bt463.1).bind fun t467 => (partsynccase_Case_Interval.l0 k t467 m L j))) else (if r = 1 then ((partsyncref03_One.f k x.f0 x.f1 x.f2).bind fun bt470 => ((partsyncref03_Combine.f k 1 l bt470.1).bind fun t474 => (partsynccase_Case_Interval.l0 k t474 m L j))) else ((partsyncref03_Between.f k x.f0 x.f1 x.f2 y.f0 y.f1 y.f2).bind fun bt477 => ((partsyncref03_Combine.f k 1 l bt477.1).bind fun t481 => (partsynccase_Case_Interval.l0 k t481 m L j))))) res → Ev (fun k => partsynccase_Case_Interval.j1 k l ((m + 1 : Nat) : Int) L i x.f0 x.f1 x.f2 y.f0 y.f1 y.f2) res :=
    fun res h => Ev.step (fun k => by rw [partsynccase_Case_Interval.j1, hr, Option.bind_some, hw]) h
  by_cases h0 : r = 0
  · obtain ⟨r', j', h1, h2⟩ := go _ (.last x hx) (by simp [endsI])
    refine ⟨r', j', st _ (Ev.congr (fun k => if_pos h0) (Ev.bind (partsyncref03_From.ok hx) h1)), h2⟩
  · by_cases h1 : r = 1
    · obtain ⟨u, hu, -, cu, lu⟩ := One.ok hx lo hi
      obtain ⟨r', j', h3, h2⟩ := go _ cu lu
      refine ⟨r', j', st _ (Ev.congr (fun k => (if_neg h0).trans (if_pos h1)) (Ev.bind hu h3)), h2⟩
    · obtain ⟨u, hu, -, cu, lu, -⟩ := Between.ok hx hy
      obtain ⟨r', j', h3, h2⟩ := go _ cu lu
      refine ⟨r', j', st _ (Ev.congr (fun k => (if_neg h0).trans (if_neg h1)) (Ev.bind hu h3)), h2⟩
theorem partsynccase_Case_Interval.l0_ok (L : List Int) : ∀ (m : Nat), m ≤ 3 → ∀ (l : List S65) (i : Int), StOk L i → Can l → (endsI l).length ≤ 6 - 2 * m → ∃ r j, Ev (fun k => partsynccase_Case_Interval.l0 k l m L i) (r, j) ∧ StOk L j ∧ Can r ∧ (endsI r).length ≤ 7
  | 0, _, l, i, hst, hc, hl => by
    obtain ⟨b, j, hb, hst2⟩ := partsynccase_Case_Bool.ok hst 4 (by omega) (by omega)
    by_cases hbt : b = true
    · obtain ⟨r, hr, hrl, he⟩ := partsyncref03_Combine.op 3 (a := [⟨leastS, zS, true⟩]) (by simp) (by have := lens hl; omega) (.last _ least_valid) hc
      refine ⟨r, j, ?_, hst2, hr.can, ?_⟩
      · refine Ev.step (fun k => by rw [partsynccase_Case_Interval.l0, if_neg (by omega), hb, Option.bind_some, if_pos hbt, partsyncref03_All.f, Option.bind_some]) ?_
        exact Ev.bind he (Ev.now _)
      · have : (endsI [(⟨leastS, zS, true⟩ : S65)]).length = 1 := rfl
        omega
    · refine ⟨l, j, ?_, hst2, hc, by omega⟩
      exact Ev.step (fun k => by rw [partsynccase_Case_Interval.l0, if_neg (by omega), hb, Option.bind_some, if_neg hbt]) (Ev.now _)
  | m + 1, hm, l, i, hst, hc, hl => by
    obtain ⟨a, b, c, i2, e1, hst2, v1, lo1, hi1⟩ := partsynccase_Case_Any.ok hst
    obtain ⟨a', b', c', i3, e2, hst3, v2, lo2, hi2⟩ := partsynccase_Case_Any.ok hst2
    have ih := partsynccase_Case_Interval.l0_ok L m (by omega)
    have hcmp := partsyncref01_Compare.some_ ⟨a, b, c⟩ ⟨a', b', c'⟩
    have st : ∀ (res : List S65 × Int), Ev (fun k => if cmpV ⟨a, b, c⟩ ⟨a', b', c'⟩ > 0 then partsynccase_Case_Interval.j1 k l ((m + 1 : Nat) : Int) L i3 a' b' c' a b c else partsynccase_Case_Interval.j1 k l ((m + 1 : Nat) : Int) L i3 a b c a' b' c') res → Ev (fun k => partsynccase_Case_Interval.l0 k l ((m + 1 : Nat) : Int) L i) res := by
      intro res h
      refine Ev.step (fun k => by rw [partsynccase_Case_Interval.l0, if_pos (by omega)]) ?_
      refine Ev.bind e1 (Ev.bind e2 ?_)
      dsimp only at hcmp
      simp only [hcmp, Option.bind_some]
      exact h
    by_cases hg : cmpV ⟨a, b, c⟩ ⟨a', b', c'⟩ > 0
    · obtain ⟨r, j, h1, h2⟩ := partsynccase_Case_Interval.j1_ok L m (by omega) ih l i3 hst3 hc hl ⟨a', b', c'⟩ ⟨a, b, c⟩ v2 v1 lo2 hi2
      exact ⟨r, j, st _ (Ev.congr (fun k => if_pos hg) h1), h2⟩
    · obtain ⟨r, j, h1, h2⟩ := partsynccase_Case_Interval.j1_ok L m (by omega) ih l i3 hst3 hc hl ⟨a, b, c⟩ ⟨a', b', c'⟩ v1 v2 lo1 hi1
      exact ⟨r, j, st _ (Ev.congr (fun k => if_neg hg) h1), h2⟩
structure IsDrawn (l : List S65) : Prop where
  ok : okI l = true
  few : (endsI l).length ≤ 7
theorem partsynccase_Case_Interval.ok {L : List Int} {i : Int} (h : StOk L i) : ∃ l j, Ev (fun k => partsynccase_Case_Interval.f k L i) (l, j) ∧ StOk L j ∧ IsDrawn l := by
  obtain ⟨r, j, hr, hst, h0, -, h3⟩ := partsynccase_Case_Int.ok h 3 (by omega)
  have h3 := h3 (by omega)
  obtain ⟨n, rfl⟩ := Int.eq_ofNat_of_zero_le h0
  have hw : wrap64 (1 + (n : Int)) = ((n + 1 : Nat) : Int) := by unfold wrap64; omega
  obtain ⟨l, j', h1, h2, h4, h5⟩ := partsynccase_Case_Interval.l0_ok L (n + 1) (by omega) [] j hst .nil (by simp [endsI])
  refine ⟨l, j', ?_, h2, okI_can.2 ⟨by have := lens h5; omega, h4⟩, h5⟩
  unfold partsynccase_Case_Interval.f
  rw [hr]
  simp only [Option.bind_some, hw]
  exact h1
theorem interval_Has.ev (l : List S65) (hl : l.length < 4611686018427387904) (v : S24) : Ev (fun k => interval_Has.f k l v.f0 v.f1 v.f2) (validS v && (okI l && inI l v)) := by
  unfold interval_Has.f
  refine Ev.bind (value_Valid.ev _ _ _) ?_
  by_cases hv : validV v.f0 v.f1 v.f2 = true
  · have hv' : validS v = true := hv
    simp only [hv, hv', if_true, Bool.true_and]
    refine Ev.bind (interval_Valid.ev l) ?_
    by_cases ho : okI l = true
    · simp only [ho, if_true, Bool.true_and]
      exact Ev.bind (interval_contains.ev l hl v) (Ev.now _)
    · simp only [Bool.eq_false_iff.2 ho, Bool.false_eq_true, if_false, Bool.false_and]
      exact Ev.now _
  · have hv' : validS v = false := Bool.eq_false_iff.2 hv
    simp only [Bool.eq_false_iff.2 hv, hv', Bool.false_eq_true, if_false, Bool.false_and]
    exact Ev.now _
theorem interval_Has.in_ {l : List S65} (hl : okI l = true) {v : S24} (hv : validS v = true) : Ev (fun k => interval_Has.f k l v.f0 v.f1 v.f2) (inI l v) := by
  have := interval_Has.ev l (by have := (okI_can.1 hl).1; omega) v
  rw [hv, hl, Bool.true_and, Bool.true_and] at this
  exact this
theorem interval_Covers.ok {a b : List S65} (ha : okI a = true) (hb : okI b = true) : ∃ r, IsOp kCov a b r ∧ Ev (fun k => interval_Covers.f k a b) (((r.length : Int) == 0), 0) := by
  obtain ⟨r, hr, e⟩ := interval_merge.op kCov ha hb
  refine ⟨r, hr, ?_⟩
  unfold interval_Covers.f
  refine Ev.bind (interval_Valid.ev a) ?_
  simp only [ha, if_true]
  refine Ev.bind (interval_Valid.ev b) ?_
  simp only [hb, if_true]
  exact Ev.bind e (Ev.now _)
theorem interval_Union.few {a b : List S65} (ha : okI a = true) (hb : okI b = true) (hn : 1 + (endsI a).length + (endsI b).length ≤ 64) : ∃ r, IsOp kOr a b r ∧ okI r = true ∧ Ev (fun k => interval_Union.f k a b) (r, 0) := by
  obtain ⟨r, h1, h2, h3⟩ := interval_combine.few kOr ha hb hn
  exact ⟨r, h1, h2, by unfold interval_Union.f; exact Ev.bind h3 (Ev.now _)⟩
theorem interval_Intersect.few {a b : List S65} (ha : okI a = true) (hb : okI b = true) (hn : 1 + (endsI a).length + (endsI b).length ≤ 64) : ∃ r, IsOp kAnd a b r ∧ okI r = true ∧ Ev (fun k => interval_Intersect.f k a b) (r, 0) := by
  obtain ⟨r, h1, h2, h3⟩ := interval_combine.few kAnd ha hb hn
  exact ⟨r, h1, h2, by unfold interval_Intersect.f; exact Ev.bind h3 (Ev.now _)⟩
theorem interval_Minus.few {a b : List S65} (ha : okI a = true) (hb : okI b = true) (hn : 1 + (endsI a).length + (endsI b).length ≤ 64) : ∃ r, IsOp kMinus a b r ∧ okI r = true ∧ Ev (fun k => interval_Minus.f k a b) (r, 0) := by
  obtain ⟨r, h1, h2, h3⟩ := interval_combine.few kMinus ha hb hn
  exact ⟨r, h1, h2, by unfold interval_Minus.f; exact Ev.bind h3 (Ev.now _)⟩
instance : DecidableEq S65 := fun x y => decidable_of_iff (x.f0 = y.f0 ∧ x.f1 = y.f1 ∧ x.f2 = y.f2) ⟨fun h => by cases x; cases y; simp only [S65.mk.injEq]; exact h, fun h => h ▸ ⟨rfl, rfl, rfl⟩⟩
theorem neS65 (x y : S65) : ((!(x.f0.f0 == y.f0.f0) || (!(x.f0.f1 == y.f0.f1) || !(x.f0.f2.toList == y.f0.f2.toList))) || ((!(x.f1.f0 == y.f1.f0) || (!(x.f1.f1 == y.f1.f1) || !(x.f1.f2.toList == y.f1.f2.toList))) || !(x.f2 == y.f2))) = !decide (x = y) := by
  by_cases h : x = y
  · subst h; simp
  · rw [decide_eq_false h, Bool.not_false]
    refine Classical.byContradiction fun c => h ?_
    have c := Bool.eq_false_iff.2 c
    simp only [Bool.or_eq_false_iff, Bool.not_eq_false', beq_iff_eq] at c
    obtain ⟨⟨c1, c2, c3⟩, ⟨c4, c5, c6⟩, c7⟩ := c
    cases x; cases y
    simp only [S65.mk.injEq]
    exact ⟨S24.ext_ c1 c2 c3, S24.ext_ c4 c5 c6, c7⟩
theorem partsyncref03_Same.l0_ev (l m : List S65) (hlm : l.length = m.length) (hl : l.length < 4611686018427387904) : ∀ (n i : Nat), l.length - i = n → i ≤ l.length → Ev (fun k => partsyncref03_Same.l0 k l m l.length i) (decide (l.drop i = m.drop i)) := by
  intro n
  induction n with
  | zero =>
    intro i hn hi
    rw [List.drop_eq_nil_iff.2 (by omega : l.length ≤ i), List.drop_eq_nil_iff.2 (by omega : m.length ≤ i)]
    rw [decide_eq_true (rfl : ([] : List S65) = [])]
    exact Ev.step (fun k => by rw [partsyncref03_Same.l0, if_neg (by omega)]) (Ev.now _)
  | succ n ih =>
    intro i hn hi
    have hil : i < l.length := by omega
    have him : i < m.length := by omega
    have hw : wrap64 ((i : Int) + 1) = ((i + 1 : Nat) : Int) := wrap64_succ (by omega)
    refine Ev.step (fun k => by rw [partsyncref03_Same.l0, if_pos (by omega), if_pos (by omega), if_pos (by omega), if_pos (by omega), rd_T65_nat l i hil, rd_T65_nat m i him, hw, neS65]) ?_
    rw [List.drop_eq_getElem_cons hil, List.drop_eq_getElem_cons him]
    by_cases h : l[i] = m[i]
    · simp only [h, decide_true, Bool.not_true, Bool.false_eq_true, if_false, List.cons.injEq, true_and]
      exact ih (i + 1) (by omega) (by omega)
    · simp only [h, decide_false, Bool.not_false, if_true, List.cons.injEq, false_and]
      exact Ev.now _
theorem partsyncref03_Same.ev (l m : List S65) (hl : l.length < 4611686018427387904) : Ev (fun k => partsyncref03_Same.f k l m) (decide (l = m)) := by
  unfold partsyncref03_Same.f
  by_cases h : l.length = m.length
  · refine Ev.congr (fun k => if_pos (by omega)) ?_
    exact partsyncref03_Same.l0_ev l m h hl l.length 0 rfl (Nat.zero_le _)
  · refine Ev.congr (fun k => if_neg (by omega)) ?_
    rw [decide_eq_false (fun e : l = m => h (by rw [e]))]
    exact Ev.now _
theorem partsyncref03_Same.yes {l m : List S65} (h : l = m) (hl : l.length < 4611686018427387904) : Ev (fun k => partsyncref03_Same.f k l m) true := by
  have := partsyncref03_Same.ev l m hl
  rw [decide_eq_true h] at this
  exact this
theorem okI_len {l : List S65} (h : okI l = true) : l.length < 4611686018427387904 := by have := (okI_can.1 h).1; omega
def iV (n : Int) : S24 := ⟨4, n, ⟨#[]⟩⟩
theorem iV_valid (n : Int) : validS (iV n) = true := validV_low (a := 4) (b := n) (by omega)
theorem iV_lt {a b : Int} : ltV (iV a) (iV b) ↔ a < b := by
  constructor
  · rintro (h | ⟨_, h | ⟨_, h⟩⟩)
    · have h : (4 : Int) < 4 := h
      omega
    · exact h
    · exact absurd h (by unfold iV; exact List.lt_irrefl _)
  · exact fun h => .inr ⟨rfl, .inl h⟩
theorem inI_one (x : S65) (v : S24) : inI [x] v = oneI x v := by rw [inI_cons]; exact Bool.or_false _
theorem partsynclaw03_begun.ev : Ev (fun k => partsynclaw03_begun.f k) true := by
  unfold partsynclaw03_begun.f partsynclaw03_num.f
  simp only [Option.bind_some]
  obtain ⟨a, -, ea, ca, la, ha⟩ := Between.ok (iV_valid 1) (iV_valid 3)
  have ha := ha (iV_lt.2 (by omega))
  obtain ⟨b, -, eb, cb, lb, hb⟩ := Between.ok (iV_valid 3) (iV_valid 5)
  have hb := hb (iV_lt.2 (by omega))
  refine Ev.bind ea (Ev.bind eb ?_)
  obtain ⟨r, hr, ho, er⟩ := interval_Union.few (okI_can.2 ⟨by have := lens la; omega, ca⟩) (okI_can.2 ⟨by have := lens lb; omega, cb⟩) (by omega)
  refine Ev.bind er ?_
  have hr1 : r = [⟨iV 1, iV 5, false⟩] := by
    refine hr.can.unique (can_one (iV_valid 1) (iV_valid 5) (iV_lt.2 (by omega))) fun v hv => ?_
    rw [hr.mem v hv, ha, hb, Bool.eq_iff_iff]
    simp only [kOr, inI_one, Bool.or_eq_true, oneI_iff, Bool.false_eq_true, false_or]
    have h13 : ltV (iV 1) (iV 3) := iV_lt.2 (by omega)
    have h35 : ltV (iV 3) (iV 5) := iV_lt.2 (by omega)
    constructor
    · rintro (⟨p, q⟩ | ⟨p, q⟩)
      · exact ⟨p, ltV_trans q h35⟩
      · exact ⟨le_le (le_of_lt h13) p, q⟩
    · rintro ⟨p, q⟩
      by_cases c : ltV v (iV 3)
      · exact .inl ⟨p, c⟩
      · exact .inr ⟨c, q⟩
  subst hr1
  have e0 : rd_T65 [(⟨⟨4, 1, ⟨#[]⟩⟩, ⟨4, 5, ⟨#[]⟩⟩, false⟩ : S65)] 0 = ⟨⟨4, 1, ⟨#[]⟩⟩, ⟨4, 5, ⟨#[]⟩⟩, false⟩ := rfl
  simp only [iV, e0, if_true, List.length_singleton, beq_self_eq_true, Bool.and_self, Int.natCast_one, Int.zero_lt_one]
  refine Ev.bind (interval_Valid.ev _) ?_
  have ho' : okI [(⟨⟨4, 1, ⟨#[]⟩⟩, ⟨4, 5, ⟨#[]⟩⟩, false⟩ : S65)] = true := ho
  simp only [ho', if_true]
  have hh := interval_Has.in_ ho (iV_valid 3)
  have hi : inI [(⟨iV 1, iV 5, false⟩ : S65)] (iV 3) = true := by
    rw [inI_cons, (oneI_iff _ _).2 ⟨le_of_lt (iV_lt.2 (by omega)), .inr (iV_lt.2 (by omega))⟩]
    rfl
  rw [hi] at hh
  refine Ev.bind hh ?_
  simp only [if_true]
  exact Ev.congr (fun k => rfl) (Ev.now _)
theorem ev_one {α : Type} {g : Nat → Option α} {r q : α} (hm : ∀ k, LeO (g k) (g (k + 1))) (h : Ev g r) {k : Nat} (hk : g k = some q) : q = r := by
  obtain ⟨K, hK⟩ := h
  have h1 := at_rounds hm (Nat.le_max_left k K) hk
  rw [hK _ (Nat.le_max_right k K)] at h1
  exact (Option.some.inj h1).symm
theorem partsynclaw03_begun.calls (k : Nat) (r : Bool) (w : World) (h : partsynclaw03_begun.f k = some r) :
    Calls Try.prog 36 #[] w fun e w' => e = .returned (.bool r) ∧ Below w.heap.size w w' :=
  partsynclaw03_begun.callsT k r w h ⟨ev_one partsynclaw03_begun.mono partsynclaw03_begun.ev h⟩
end Go.Proofs.Ytpjcdacnhalclaa.Q
