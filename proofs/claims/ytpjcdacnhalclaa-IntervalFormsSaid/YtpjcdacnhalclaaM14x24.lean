/- A part of a proof: facts of functions that the law calls; conditions stand in each. -/
import Derived.Test.YtpjcdacnhalclaaM14x3
import Derived.Test.YtpjcdacnhalclaaM14x7
import Derived.Test.YtpjcdacnhalclaaM14x6
import Derived.Test.YtpjcdacnhalclaaM14x23
import Derived.Test.YtpjcdacnhalclaaM14x17
import Derived.Test.YtpjcdacnhalclaaM14x12
import Derived.Test.YtpjcdacnhalclaaM14x16
import Derived.Test.YtpjcdacnhalclaaM14x18
import Derived.Test.YtpjcdacnhalclaaM14x21
import Derived.Test.YtpjcdacnhalclaaM14x10
import Derived.Test.YtpjcdacnhalclaaM14x9
import Derived.Test.YtpjcdacnhalclaaM14x19
import Derived.Test.YtpjcdacnhalclaaM14x20
import Derived.Test.YtpjcdacnhalclaaM14x8
import Derived.Test.YtpjcdacnhalclaaM14x22
import Derived.Test.YtpjcdacnhalclaaM14x11
import Derived.Test.YtpjcdacnhalclaaM14x13
import Derived.Test.YtpjcdacnhalclaaM14x15
set_option linter.unusedVariables false
set_option linter.unusedSimpArgs false
namespace Go.Proofs.Ytpjcdacnhalclaa.Q
open Go.RowKit Go.Proofs.YtpjcdacnhalclaaW.PrintWords Go.Proofs.YtpjcdacnhalclaaW.PrintLast Go.Proofs.YtpjcdacnhalclaaW.PrintMore
attribute [local go_sem] max2_int min2_int max_two min_two max_three min_three max_four min_four
theorem rd_L7_nat (x : List (List S65)) (i : Nat) (h : i < x.length) : rd_L7 x (i : Int) = x[i] := by
 unfold rd_L7
 rw [List.getD_eq_getElem?_getD, Int.toNat_natCast, List.getElem?_eq_getElem h]
 rfl
theorem rd_L4_nat (x : List (List S24)) (i : Nat) (h : i < x.length) : rd_L4 x (i : Int) = x[i] := by
 unfold rd_L4
 rw [List.getD_eq_getElem?_getD, Int.toNat_natCast, List.getElem?_eq_getElem h]
 rfl
theorem notz (x : S24) : (!(x.f0 == 0) || (!(x.f1 == 0) || !(x.f2.toList == ([] : List UInt8)))) = !(x.f0 == 0 && (x.f1 == 0 && (x.f2.toList == ([] : List UInt8)))) := by
 simp only [Bool.not_and]
theorem i_Valid.at_ (l : List S65) (hl : l.length < 4611686018427387904) : ∀ (m i : Nat), l.length - i = m → i ≤ l.length → Ev (fun k => i_Valid.l0 k l l l.length i) (ordI (l.drop i)) := by
 intro m
 induction m with
 | zero =>
  intro i hm hi
  have : l.drop i = [] := List.drop_eq_nil_iff.2 (by omega)
  rw [this]
  exact Ev.step (f := fun _ => some true) (fun k => by rw [i_Valid.l0, if_neg (by omega)]) (Ev.now _)
 | succ m ih =>
  intro i hm hi
  have hil : i < l.length := by omega
  have hw : wrap64 ((i : Int) + 1) = ((i + 1 : Nat) : Int) := wrap64_succ (by omega)
  have hp : wrap64 ((l.length : Int) - 1) = (l.length : Int) - 1 := by unfold wrap64; omega
  have ih' := ih (i + 1) (by omega) (by omega)
  rw [List.drop_eq_getElem_cons hil]
  generalize hx : l[i] = x
  generalize hr : ordI (l.drop (i + 1)) = r at ih'
  have ho : ordI (x :: l.drop (i + 1)) = (headOk x (l.drop (i + 1)) && (if x.f2 = true then true else gapOk x (l.drop (i + 1))) && r) := by rw [ordI, hr]
  rw [ho]
  refine Ev.step (fun k => by rw [i_Valid.l0, if_pos (by omega), if_pos (by omega), if_pos (by omega), rd_T65_nat l i hil, hw, hx, hp, notz]) ?_
  refine Ev.bind (v_Valid.ev _ _ _) ?_
  unfold headOk
  by_cases hv : validV x.f0.f0 x.f0.f1 x.f0.f2 = true
  ·have hv' : validS x.f0 = true := hv
   simp only [hv, hv', if_true, Bool.true_and]
   by_cases h2 : x.f2 = true
   ·simp only [h2, if_true, Bool.and_true]
    by_cases hn : i + 1 < l.length
    ·have e : (l.drop (i + 1)).isEmpty = false := by rw [List.drop_eq_getElem_cons hn]; rfl
     rw [e]
     refine Ev.congr (fun k => if_pos (by omega)) ?_
     exact Ev.now _
    ·have e : l.drop (i + 1) = [] := List.drop_eq_nil_iff.2 (by omega)
     rw [e]
     refine Ev.congr (fun k => if_neg (by omega)) ?_
     generalize (x.f1.f0 == 0 && (x.f1.f1 == 0 && (x.f1.f2.toList == ([] : List UInt8)))) = z
     cases z
     ·exact Ev.now _
     ·exact ih'
   ·have h2 := Bool.eq_false_iff.2 h2
    simp only [h2, Bool.false_eq_true, if_false]
    refine Ev.bind (v_Valid.ev _ _ _) ?_
    have step : ∀ b : Bool, Ev (fun k => i_Valid.j1 k l i l l.length i b x.f0.f0 x.f0.f1 x.f0.f2 x.f1.f0 x.f1.f1 x.f1.f2 false) (!b && (gapOk x (l.drop (i + 1)) && r)) := by
     intro b
     refine Ev.step (fun k => by rw [i_Valid.j1]) ?_
     cases b
     ·simp only [Bool.false_eq_true, if_false, Bool.not_false, Bool.true_and]
      by_cases hn : i + 1 < l.length
      ·have eg : gapOk x (l.drop (i + 1)) = decide (cmpV x.f1 l[i + 1].f0 < 0) := by rw [List.drop_eq_getElem_cons hn]; rfl
       rw [eg]
       refine Ev.congr (fun k => by rw [hp, hw, if_pos (by omega), if_pos (by omega), if_pos (by omega), rd_T65_nat l (i + 1) hn, v_Compare.some_ x.f1 l[i + 1].f0, Option.bind_some]) ?_
       by_cases hc : cmpV x.f1 l[i + 1].f0 ≥ 0
       ·refine Ev.congr (fun k => if_pos hc) ?_
        rw [decide_eq_false (by omega)]
        exact Ev.now _
       ·refine Ev.congr (fun k => if_neg hc) ?_
        rw [decide_eq_true (by omega)]
        exact ih'
      ·have e : l.drop (i + 1) = [] := List.drop_eq_nil_iff.2 (by omega)
       rw [e]
       refine Ev.congr (fun k => by rw [hp, hw, if_neg (by omega)]) ?_
       exact ih'
     ·simp only [if_true, Bool.not_true, Bool.false_and]
      exact Ev.now _
    by_cases hv1 : validV x.f1.f0 x.f1.f1 x.f1.f2 = true
    ·have hv1' : validS x.f1 = true := hv1
     simp only [hv1, hv1', if_true, Bool.true_and, v_Compare.some_, Option.bind_some]
     have := step (decide (cmpV x.f0 x.f1 ≥ 0))
     rw [show decide (cmpV x.f0 x.f1 < 0) = !decide (cmpV x.f0 x.f1 ≥ 0) by rw [← decide_not]; congr 1; exact propext ⟨fun _ => by omega, fun _ => by omega⟩, Bool.and_assoc]
     exact this
    ·have hv1' : validS x.f1 = false := Bool.eq_false_iff.2 hv1
     simp only [Bool.eq_false_iff.2 hv1, hv1', if_false, Bool.false_and, Bool.false_eq_true]
     have := step true
     simpa using this
  ·have hv' : validS x.f0 = false := Bool.eq_false_iff.2 hv
   simp only [Bool.eq_false_iff.2 hv, hv', Bool.false_and, Bool.false_eq_true, if_false]
   exact Ev.now _
def okI (l : List S65) : Bool := decide (l.length ≤ 64) && ordI l
theorem i_Valid.ev (l : List S65) : Ev (fun k => i_Valid.f k l) (okI l) := by
 unfold okI
 by_cases h : l.length ≤ 64
 ·rw [decide_eq_true h, Bool.true_and]
  have := i_Valid.at_ l (by omega) l.length 0 rfl (Nat.zero_le _)
  exact Ev.congr (fun k => by unfold i_Valid.f; rw [if_neg (by omega)]; rfl) this
 ·rw [decide_eq_false h, Bool.false_and]
  exact Ev.congr (fun k => by unfold i_Valid.f; rw [if_pos (by omega)]) (Ev.now _)
theorem okI_can {l : List S65} : okI l = true ↔ l.length ≤ 64 ∧ Can l := by
 unfold okI
 rw [Bool.and_eq_true, decide_eq_true_eq, ordI_can]
theorem dedV_mem (l : List S24) (v : S24) : v ∈ dedV l ↔ v ∈ l := by
 unfold dedV Go.Lib.compactUpTo
 simp only [List.mem_map, List.mem_filter, List.mem_range]
 constructor
 ·rintro ⟨j, ⟨hj, _⟩, rfl⟩
  rw [show (l.toArray[j]!) = l[j] by simp [hj]]
  exact List.getElem_mem hj
 ·have key : ∀ j, (hj : j < l.length) → ∃ a, (a < l.length ∧ Go.Lib.keeps l.toArray a = true) ∧ l.toArray[a]! = l.toArray[j]! := by
   intro j
   induction j with
   | zero => exact fun hj => ⟨0, ⟨hj, Go.Lib.keeps_lt_one _ 0 (by omega)⟩, rfl⟩
   | succ j ih =>
    intro hj
    by_cases he : l.toArray[j + 1]! = l.toArray[j]!
    ·obtain ⟨a, ha, e⟩ := ih (by omega)
     exact ⟨a, ha, e.trans he.symm⟩
    ·exact ⟨j + 1, ⟨hj, Go.Lib.keeps_pos he⟩, rfl⟩
  intro hv
  obtain ⟨j, hj, rfl⟩ := List.getElem_of_mem hv
  obtain ⟨a, ha, e⟩ := key j hj
  exact ⟨a, ha, e.trans (by simp [hj])⟩
theorem dedV_len (l : List S24) : (dedV l).length ≤ l.length := by
 unfold dedV Go.Lib.compactUpTo
 rw [List.length_map]
 exact Nat.le_trans (List.length_filter_le _ _) (by simp)
theorem dedV_sorted (l : List S24) (h : l.Pairwise fun a b => leV a b = true) : (dedV l).Pairwise ltV := by
 unfold dedV Go.Lib.compactUpTo
 rw [List.pairwise_map, List.pairwise_filter]
 refine List.Pairwise.imp_of_mem ?_ List.pairwise_lt_range
 intro i j hi hj hij _ hk
 have hj := List.mem_range.1 hj
 have hi := List.mem_range.1 hi
 have hne : l.toArray[j]! ≠ l.toArray[j - 1]! := by
  intro he
  rw [Go.Lib.keeps_neg (by omega) he] at hk
  cases hk
 have hg : ∀ a, a < l.length → l.toArray[a]! = l[a]! := fun a ha => by simp
 have hle : ∀ a b, a ≤ b → b < l.length → ¬ ltV l.toArray[b]! l.toArray[a]! := by
  intro a b hab hb
  rcases Nat.lt_or_eq_of_le hab with c | c
  ·have := List.pairwise_iff_getElem.1 h a b (by omega) hb c
   have e1 : l.toArray[a]! = l[a] := by simp [show a < l.length by omega]
   have e2 : l.toArray[b]! = l[b] := by simp [hb]
   rw [e1, e2]
   exact cmpV_le.1 (of_decide_eq_true this)
  ·subst c; exact ltV_irrefl _
 have h1 := hle i (j - 1) (by omega) (by omega)
 have h2 := hle (j - 1) j (by omega) hj
 rcases ltV_tri l.toArray[j - 1]! l.toArray[j]! with c | c | c
 ·exact le_lt h1 c
 ·exact absurd c.symm hne
 ·exact absurd c h2
structure IsPts (es ps : List S24) : Prop where
 sorted : ps.Pairwise ltV
 mem : ∀ v, v ∈ ps ↔ v ∈ es
 len : ps.length ≤ es.length
theorem dedV_pts (es : List S24) : IsPts es (dedV (es.mergeSort leV)) where
 sorted := dedV_sorted _ (List.pairwise_mergeSort leV_trans leV_total es)
 mem := fun v => by rw [dedV_mem, List.mem_mergeSort]
 len := by rw [← List.length_mergeSort (le := leV) es]; exact dedV_len _
theorem ded_one : ∀ (s : List S24) (p : S24), (p :: s).Pairwise (fun a b => leV a b = true) → ∃ t : List S24, ded (some [p]) (s.map fun v => [v]) = t.map (fun v => [v]) ∧ (p :: t).Pairwise ltV ∧ (∀ v, v ∈ p :: t ↔ v ∈ p :: s) ∧ t.length ≤ s.length
 | [], p, _ => ⟨[], rfl, by simp, fun _ => Iff.rfl, Nat.le_refl _⟩
 | x :: s, p, h => by
  obtain ⟨hp, hs⟩ := List.pairwise_cons.1 h
  obtain ⟨t, e, ht, hm, hl⟩ := ded_one s x hs
  rw [List.map_cons, ded]
  by_cases hc : cmpL [p] [x] = 0
  ·have : p = x := by simpa using cmpL_zero.1 hc
   subst this
   exact ⟨t, by rw [if_pos hc, e], ht, fun v => by rw [hm]; simp, by simp; omega⟩
  ·have hpx : ltV p x := by
    have h1 := cmpV_le.1 (of_decide_eq_true (hp x (by simp)))
    rcases ltV_tri p x with c | c | c
    ·exact c
    ·exact absurd (cmpL_zero.2 (by rw [c])) hc
    ·exact absurd c h1
   refine ⟨x :: t, by rw [if_neg hc, e]; rfl, ?_, fun v => ?_, by simp; omega⟩
   ·rw [List.pairwise_cons]
    refine ⟨fun q hq => ?_, ht⟩
    rcases List.mem_cons.1 hq with c | c
    ·exact c ▸ hpx
    ·exact ltV_trans hpx ((List.pairwise_cons.1 ht).1 q c)
   ·rw [List.mem_cons, hm v, ← List.mem_cons]
theorem leL_one (a b : S24) : leL [a] [b] = leV a b := by
 unfold leL leV
 congr 1
 rw [cmpL]
 by_cases h : cmpV a b = 0
 ·simp [h, cmpL]
 ·simp [h]
theorem setOf_pts (es : List S24) : ∃ ps, setOf (es.map fun v => [v]) = ps.map (fun v => [v]) ∧ IsPts es ps := by
 have hs : (es.mergeSort leV).map (fun v => [v]) = (es.map fun v => [v]).mergeSort leL := by
  refine sorted_is ((List.mergeSort_perm es leV).map _) ?_
  rw [List.pairwise_map]
  exact (List.pairwise_mergeSort leV_trans leV_total es).imp fun h => (leL_one _ _).trans h
 unfold setOf
 rw [← hs]
 have hp := List.pairwise_mergeSort leV_trans leV_total es
 have hm := fun v => List.mem_mergeSort (le := leV) (a := v) (l := es)
 have hl := List.length_mergeSort (le := leV) es
 generalize es.mergeSort leV = s at hp hm hl
 cases s with
 | nil => exact ⟨[], rfl, by simp, fun v => by rw [← hm], by simp⟩
 | cons p s =>
  obtain ⟨t, e, ht, hm', hl'⟩ := ded_one s p hp
  refine ⟨p :: t, by rw [List.map_cons, ded, e]; rfl, ht, fun v => by rw [hm', hm], ?_⟩
  rw [List.length_cons] at hl ⊢
  omega
theorem endsI_drop (l : List S65) (i : Nat) (h : i < l.length) : endsI (l.drop i) = (if l[i].f2 = true then [l[i].f0] else [l[i].f0, l[i].f1]) ++ endsI (l.drop (i + 1)) := by rw [List.drop_eq_getElem_cons h, endsI_cons]
theorem i_merge.l1_ev (kp : Bool → Bool → Bool) (a b : List S65) (L : List (List S65)) (n j : Int) (l : List S65) (hl : l.length < 1073741824) (r : List S65) : ∀ (m i : Nat) (pts : List S24), l.length - i = m → i ≤ l.length → pts.length + 2 * m < 4398046511104 →
  Ev (fun k => i_merge.l0 kp k a b (pts ++ endsI (l.drop i)) L n (wrap64 (j + 1))) r → Ev (fun k => i_merge.l1 kp k a b pts L n j l l.length i) r := by
 intro m
 induction m with
 | zero =>
  intro i pts hm hi hp h
  rw [List.drop_eq_nil_iff.2 (by omega : l.length ≤ i)] at h
  refine Ev.step (fun k => by rw [i_merge.l1, if_neg (by omega)]) ?_
  simpa [endsI] using h
 | succ m ih =>
  intro i pts hm hi hp h
  have hil : i < l.length := by omega
  have hw : wrap64 ((i : Int) + 1) = ((i + 1 : Nat) : Int) := wrap64_succ (by omega)
  rw [endsI_drop l i hil] at h
  refine Ev.step (fun k => by rw [i_merge.l1, if_pos (by omega), if_pos (by omega), if_pos (by omega), if_pos (by omega), rd_T65_nat l i hil, hw, Option.bind_some]) ?_
  by_cases h2 : l[i].f2 = true
  ·rw [if_pos h2] at h
   refine Ev.congr (fun k => if_pos h2) ?_
   refine ih (i + 1) _ (by omega) (by omega) (by simp; omega) ?_
   rw [List.append_assoc]
   exact h
  ·rw [if_neg h2] at h
   refine Ev.congr (fun k => by rw [if_neg h2, if_pos (by simp; omega)]) ?_
   refine ih (i + 1) _ (by omega) (by omega) (by simp; omega) ?_
   rw [List.append_assoc, List.append_assoc]
   exact h
theorem rd_last (o : List S65) (y : S65) (ho : o.length < 1954687338268) : rd_T65 (o ++ [y]) (wrap64 (((o ++ [y]).length : Int) - 1)) = y ∧ (wrap64 (((o ++ [y]).length : Int) - 1)).toNat = o.length ∧ 0 ≤ wrap64 (((o ++ [y]).length : Int) - 1) ∧ wrap64 (((o ++ [y]).length : Int) - 1) < ((o ++ [y]).length : Int) := by
 have e : wrap64 (((o ++ [y]).length : Int) - 1) = (o.length : Int) := by
  rw [List.length_append, List.length_singleton]
  unfold wrap64
  omega
 rw [e]
 refine ⟨?_, by simp, by omega, by simp; omega⟩
 rw [rd_T65_nat _ _ (by simp)]
 simp
theorem set_last (o : List S65) (y z : S65) : (o ++ [y]).set o.length z = o ++ [z] := by
 rw [List.set_append_right _ _ (Nat.le_refl _)]
 simp
theorem i_merge.l2_ev (kp : Bool → Bool → Bool) (a b : List S65) (ha : a.length < 4611686018427387904) (hb : b.length < 4611686018427387904) (ps : List S24) (hp : ps.length < 1073741824) : ∀ (m i : Nat) (o : List S65), ps.length - i = m → i ≤ ps.length → o.length + m < 1954687338000 →
  Ev (fun k => i_merge.l2 kp k a b o false ps ps.length i) (o ++ sw (fun v => kp (inI a v) (inI b v)) (ps.drop i)) ∧ ∀ s : S24, Ev (fun k => i_merge.l2 kp k a b (o ++ [⟨s, zS, true⟩]) true ps ps.length i) (o ++ swO (fun v => kp (inI a v) (inI b v)) s (ps.drop i)) := by
 intro m
 induction m with
 | zero =>
  intro i o hm hi ho
  have e : ps.drop i = [] := List.drop_eq_nil_iff.2 (by omega)
  rw [e]
  refine ⟨Ev.step (fun k => by rw [i_merge.l2, if_neg (by omega)]) ?_, fun s => Ev.step (fun k => by rw [i_merge.l2, if_neg (by omega)]) ?_⟩
  ·rw [sw, List.append_nil]; exact Ev.now _
  ·rw [swO]; exact Ev.now _
 | succ m ih =>
  intro i o hm hi ho
  have hil : i < ps.length := by omega
  have hw : wrap64 ((i : Int) + 1) = ((i + 1 : Nat) : Int) := wrap64_succ (by omega)
  have hlo : o.length < 1954687338268 := by omega
  rw [List.drop_eq_getElem_cons hil]
  generalize hq : ps[i] = p
  refine ⟨?_, fun s => ?_⟩
  ·refine Ev.step (fun k => by rw [i_merge.l2, if_pos (by omega), if_pos (by omega), if_pos (by omega), rd_T24_nat ps i hil, hq]) ?_
   refine Ev.bind (i_contains.ev a ha p) ?_
   refine Ev.bind (i_contains.ev b hb p) ?_
   by_cases hg : kp (inI a p) (inI b p) = true
   ·simp only [Option.bind_some, hg, if_true]
    rw [sw, if_pos hg]
    refine Ev.step (fun k => by rw [i_merge.j3]) ?_
    simp only [Bool.not_false, if_true, hlo, Option.bind_some, hw]
    exact (ih (i + 1) o (by omega) (by omega) (by omega)).2 p
   ·have hg' := Bool.eq_false_iff.2 hg
    simp only [Option.bind_some, hg', if_false, Bool.false_eq_true]
    rw [sw, if_neg hg]
    refine Ev.step (fun k => by rw [i_merge.j3]) ?_
    simp only [Bool.false_eq_true, if_false, hw]
    exact (ih (i + 1) o (by omega) (by omega) (by omega)).1
  ·refine Ev.step (fun k => by rw [i_merge.l2, if_pos (by omega), if_pos (by omega), if_pos (by omega), rd_T24_nat ps i hil, hq]) ?_
   refine Ev.bind (i_contains.ev a ha p) ?_
   refine Ev.bind (i_contains.ev b hb p) ?_
   by_cases hg : kp (inI a p) (inI b p) = true
   ·simp only [Option.bind_some, hg, if_true]
    rw [swO, if_pos hg]
    refine Ev.step (fun k => by rw [i_merge.j3]) ?_
    simp only [Bool.not_true, Bool.false_eq_true, if_true, if_false, hw]
    exact (ih (i + 1) o (by omega) (by omega) (by omega)).2 s
   ·have hg' := Bool.eq_false_iff.2 hg
    simp only [Option.bind_some, hg', if_false, Bool.false_eq_true]
    rw [swO, if_neg hg]
    refine Ev.step (fun k => by rw [i_merge.j3]) ?_
    obtain ⟨r1, r2, r3, r4⟩ := rd_last o ⟨s, zS, true⟩ hlo
    obtain ⟨s1, _⟩ := rd_last o ⟨s, zS, false⟩ hlo
    have hll : ((o ++ [(⟨s, zS, true⟩ : S65)]).length : Int) = ((o ++ [(⟨s, zS, false⟩ : S65)]).length : Int) := by simp
    simp only [Bool.false_eq_true, if_true, if_false, hw, r3, r4, r1, r2, Option.bind_some, set_last]
    have s1' : rd_T65 (o ++ [(⟨s, zS, false⟩ : S65)]) (wrap64 (((o ++ [(⟨s, zS, true⟩ : S65)]).length : Int) - 1)) = ⟨s, zS, false⟩ := by rw [hll]; exact s1
    have := (ih (i + 1) (o ++ [⟨s, p, false⟩]) (by omega) (by omega) (by simp; omega)).1
    rw [List.append_assoc] at this
    refine Ev.congr (fun k => ?_) this
    show i_merge.l2 kp k a b (o ++ [(⟨(rd_T65 (o ++ [(⟨s, zS, false⟩ : S65)]) (wrap64 (((o ++ [(⟨s, zS, true⟩ : S65)]).length : Int) - 1))).f0, p, (rd_T65 (o ++ [(⟨s, zS, false⟩ : S65)]) (wrap64 (((o ++ [(⟨s, zS, true⟩ : S65)]).length : Int) - 1))).f2⟩ : S65)]) false ps ps.length ((i + 1 : Nat) : Int) = _
    rw [s1']
theorem endsI_le : ∀ l : List S65, (endsI l).length ≤ 2 * l.length
 | [] => by simp [endsI]
 | x :: l => by
  have := endsI_le l
  rw [endsI_cons, List.length_append, List.length_cons]
  split <;> simp <;> omega
theorem i_merge.ev (kp : Bool → Bool → Bool) (a b : List S65) (ha : a.length ≤ 1048576) (hb : b.length ≤ 1048576) : ∃ ps, IsPts (leastS :: (endsI a ++ endsI b)) ps ∧ Ev (fun k => i_merge.f k a b kp) (sw (fun v => kp (inI a v) (inI b v)) ps) := by
 have la := endsI_le a
 have lb := endsI_le b
 have hps := dedV_pts (leastS :: (endsI a ++ endsI b))
 refine ⟨_, hps, ?_⟩
 generalize hd : dedV ((leastS :: (endsI a ++ endsI b)).mergeSort leV) = ps at hps
 have hl := hps.len
 simp only [List.length_cons, List.length_append] at hl
 refine Ev.congr (f := fun k => i_merge.l0 kp k a b [leastS] [a, b] 2 0) (fun k => rfl) ?_
 refine Ev.step (fun k => by rw [i_merge.l0, if_pos (by omega), if_pos (by omega), if_pos (by simp), show rd_L7 [a, b] 0 = a from rfl]) ?_
 refine i_merge.l1_ev kp a b _ _ _ a (by omega) _ a.length 0 _ rfl (Nat.zero_le _) (by simp; omega) ?_
 rw [show wrap64 (0 + 1) = 1 by unfold wrap64; omega, List.drop_zero]
 refine Ev.step (fun k => by rw [i_merge.l0, if_pos (by omega), if_pos (by omega), if_pos (by simp), show rd_L7 [a, b] 1 = b from rfl]) ?_
 refine i_merge.l1_ev kp a b _ _ _ b (by omega) _ b.length 0 _ rfl (Nat.zero_le _) (by first | omega | (simp; omega)) ?_
 rw [show wrap64 (1 + 1) = 2 by unfold wrap64; omega, List.drop_zero, List.append_assoc, List.singleton_append]
 refine Ev.step (fun k => by rw [i_merge.l0, if_neg (by omega)]) ?_
 have h1 : a_99.f (leastS :: (endsI a ++ endsI b)) = some ((leastS :: (endsI a ++ endsI b)).mergeSort leV) := by
  unfold a_99.f
  rw [if_neg (by simp), if_pos (by simp; omega)]
 have h2 : a_100.f ((leastS :: (endsI a ++ endsI b)).mergeSort leV) = some ps := by
  unfold a_100.f
  rw [if_pos (by rw [List.length_mergeSort]; simp; omega), hd]
 simp only [h1, h2, Option.bind_some]
 have := (i_merge.l2_ev kp a b (by omega) (by omega) ps (by omega) ps.length 0 [] rfl (Nat.zero_le _) (by simp; omega)).1
 rw [List.nil_append, List.drop_zero] at this
 exact this
theorem ends_pts_valid {a b : List S65} {es ps : List S24} (ca : Can a) (cb : Can b) (h : IsPts es ps) (he : ∀ v ∈ es, v = leastS ∨ v ∈ endsI a ++ endsI b) : ∀ p ∈ ps, validS p = true := fun p hp => by
 rcases he p ((h.mem p).1 hp) with e | e
 ·exact e ▸ least_valid
 ·rcases List.mem_append.1 e with e | e
  ·exact ca.ends p e
  ·exact cb.ends p e
theorem i_merge.op (kp : Bool → Bool → Bool) {a b : List S65} (ha : okI a = true) (hb : okI b = true) : ∃ r, IsOp kp a b r ∧ Ev (fun k => i_merge.f k a b kp) r := by
 obtain ⟨ha, ca⟩ := okI_can.1 ha
 obtain ⟨hb, cb⟩ := okI_can.1 hb
 obtain ⟨ps, h, e⟩ := i_merge.ev kp a b (by omega) (by omega)
 exact ⟨_, IsOp.of_least kp (ends_pts_valid ca cb h fun v hv => by simpa using hv) h.sorted h.mem (by have := h.len; simp at this; omega), e⟩
theorem i_combine.ok (kp : Bool → Bool → Bool) {a b : List S65} (ha : okI a = true) (hb : okI b = true) : ∃ r, IsOp kp a b r ∧ Ev (fun k => i_combine.f k a b kp) (if r.length > 64 then ([], 2) else (r, 0)) := by
 obtain ⟨r, hr, e⟩ := i_merge.op kp ha hb
 refine ⟨r, hr, ?_⟩
 unfold i_combine.f
 refine Ev.bind (i_Valid.ev a) ?_
 simp only [ha, if_true]
 refine Ev.bind (i_Valid.ev b) ?_
 simp only [hb, Bool.not_true]
 refine Ev.step (fun k => by rw [i_combine.j0]) ?_
 simp only [Bool.false_eq_true, if_false]
 refine Ev.bind e ?_
 by_cases hc : r.length > 64
 ·rw [if_pos hc]
  exact Ev.congr (fun k => if_pos (by omega)) (Ev.now _)
 ·rw [if_neg hc]
  exact Ev.congr (fun k => if_neg (by omega)) (Ev.now _)
theorem i_combine.few (kp : Bool → Bool → Bool) {a b : List S65} (ha : okI a = true) (hb : okI b = true) (hn : 1 + (endsI a).length + (endsI b).length ≤ 64) : ∃ r, IsOp kp a b r ∧ okI r = true ∧ Ev (fun k => i_combine.f k a b kp) (r, 0) := by
 obtain ⟨r, hr, e⟩ := i_combine.ok kp ha hb
 have h1 := len_ends r
 have h2 := hr.len
 rw [if_neg (by omega)] at e
 exact ⟨r, hr, okI_can.2 ⟨by omega, hr.can⟩, e⟩
theorem r3_Points.l1_ev (L : List (List S65)) (n j : Int) (l : List S65) (hl : l.length < 1073741824) (r : List S24) : ∀ (m i : Nat) (es : List S24), l.length - i = m → i ≤ l.length → es.length + 2 * m < 4398046511104 →
  Ev (fun k => r3_Points.l0 k ((es ++ endsI (l.drop i)).map fun v => [v]) L n (wrap64 (j + 1))) r → Ev (fun k => r3_Points.l1 k (es.map fun v => [v]) L n j l l.length i) r := by
 intro m
 induction m with
 | zero =>
  intro i es hm hi hp h
  rw [List.drop_eq_nil_iff.2 (by omega : l.length ≤ i)] at h
  refine Ev.step (fun k => by rw [r3_Points.l1, if_neg (by omega)]) ?_
  simpa [endsI] using h
 | succ m ih =>
  intro i es hm hi hp h
  have hil : i < l.length := by omega
  have hw : wrap64 ((i : Int) + 1) = ((i + 1 : Nat) : Int) := wrap64_succ (by omega)
  rw [endsI_drop l i hil] at h
  refine Ev.step (fun k => by rw [r3_Points.l1, if_pos (by omega), if_pos (by omega), if_pos (by omega), if_pos (by simp; omega), rd_T65_nat l i hil, hw, Option.bind_some]) ?_
  by_cases h2 : l[i].f2 = true
  ·rw [if_pos h2] at h
   refine Ev.congr (fun k => if_pos h2) ?_
   have := ih (i + 1) (es ++ [l[i].f0]) (by omega) (by omega) (by simp; omega) (by rw [List.append_assoc]; exact h)
   rw [List.map_append] at this
   exact this
  ·rw [if_neg h2] at h
   refine Ev.congr (fun k => by rw [if_neg h2, if_pos (by simp; omega)]) ?_
   have := ih (i + 1) (es ++ [l[i].f0] ++ [l[i].f1]) (by omega) (by omega) (by simp; omega) (by rw [List.append_assoc, List.append_assoc]; exact h)
   rw [List.map_append, List.map_append] at this
   exact this
theorem r3_Points.l2_ev (ps : List S24) (hp : ps.length < 1073741824) : ∀ (m i : Nat), ps.length - i = m → i ≤ ps.length → Ev (fun k => r3_Points.l2 k (ps.take i) (ps.map fun v => [v]) ps.length i) ps := by
 intro m
 induction m with
 | zero =>
  intro i hm hi
  refine Ev.step (fun k => by rw [r3_Points.l2, if_neg (by omega)]) ?_
  rw [List.take_of_length_le (by omega)]
  exact Ev.now _
 | succ m ih =>
  intro i hm hi
  have hil : i < ps.length := by omega
  have hw : wrap64 ((i : Int) + 1) = ((i + 1 : Nat) : Int) := wrap64_succ (by omega)
  have hr : rd_L4 (ps.map fun v => [v]) (i : Int) = [ps[i]] := by rw [rd_L4_nat _ _ (by simpa using hil)]; simp
  refine Ev.step (fun k => by rw [r3_Points.l2, if_pos (by omega), if_pos (by omega), if_pos (by simp; omega), hr, if_pos (by simp), if_pos (by rw [List.length_take]; omega), hw, show rd_T24 [ps[i]] 0 = ps[i] from rfl]) ?_
  have := ih (i + 1) (by omega) (by omega)
  rw [List.take_succ_eq_append_getElem hil] at this
  exact this
theorem r3_Points.ev (a b : List S65) (ha : a.length ≤ 8192) (hb : b.length ≤ 8192) : ∃ ps, IsPts (endsI a ++ endsI b) ps ∧ Ev (fun k => r3_Points.f k [a, b]) ps := by
 have la := endsI_le a
 have lb := endsI_le b
 obtain ⟨ps, hd, hps⟩ := setOf_pts (endsI a ++ endsI b)
 refine ⟨ps, hps, ?_⟩
 have hl := hps.len
 simp only [List.length_append] at hl
 refine Ev.congr (f := fun k => r3_Points.l0 k (([] : List S24).map fun v => [v]) [a, b] 2 0) (fun k => rfl) ?_
 refine Ev.step (fun k => by rw [r3_Points.l0, if_pos (by omega), if_pos (by omega), if_pos (by simp), show rd_L7 [a, b] 0 = a from rfl]) ?_
 refine r3_Points.l1_ev _ _ _ a (by omega) _ a.length 0 _ rfl (Nat.zero_le _) (by simp; omega) ?_
 rw [show wrap64 (0 + 1) = 1 by unfold wrap64; omega, List.drop_zero, List.nil_append]
 refine Ev.step (fun k => by rw [r3_Points.l0, if_pos (by omega), if_pos (by omega), if_pos (by simp), show rd_L7 [a, b] 1 = b from rfl]) ?_
 refine r3_Points.l1_ev _ _ _ b (by omega) _ b.length 0 _ rfl (Nat.zero_le _) (by first | omega | (simp; omega)) ?_
 rw [show wrap64 (1 + 1) = 2 by unfold wrap64; omega, List.drop_zero]
 refine Ev.step (fun k => by rw [r3_Points.l0, if_neg (by omega)]) ?_
 have hk : okRows ((endsI a ++ endsI b).map fun v => [v]) = true := by
  unfold okRows
  rw [Bool.and_eq_true]
  refine ⟨decide_eq_true (by simp; omega), ?_⟩
  rw [List.all_eq_true]
  intro x hx
  obtain ⟨y, _, rfl⟩ := List.mem_map.1 hx
  exact decide_eq_true (by simp)
 have hs : ∀ k, r1_Set.f k ((endsI a ++ endsI b).map fun v => [v]) = some (ps.map fun v => [v]) := fun k => by
  unfold r1_Set.f
  rw [if_pos hk, hd]
 simp only [hs, Option.bind_some]
 have := r3_Points.l2_ev ps (by omega) ps.length 0 rfl (Nat.zero_le _)
 rw [List.take_zero] at this
 refine Ev.congr (fun k => ?_) this
 rw [List.length_map]
 rfl
theorem r3_Join.new (o : List S65) (x : S65) (ho : o.length < 1954687338268) (h : ∀ y ∈ o.getLast?, y.f2 = false → ltV y.f1 x.f0) : r3_Join.g o x = some (o ++ [x]) := by
 unfold r3_Join.g
 rcases List.eq_nil_or_concat o with rfl | ⟨o', y, rfl⟩
 ·rw [if_neg (by simp), if_pos (by simp)]
 ·rw [List.concat_eq_append] at *
  have ho' : o'.length < 1954687338268 := by simp at ho; omega
  obtain ⟨r1, r2, r3, r4⟩ := rd_last o' y ho'
  rw [if_pos (by rw [List.length_append, List.length_singleton]; omega), if_pos r3, if_pos r4, r1]
  by_cases h2 : y.f2 = true
  ·rw [if_pos h2, if_pos ho]
  ·have h1 := h y (by simp) (Bool.eq_false_iff.2 h2)
   rw [if_neg h2, r1_Compare.some_, Option.bind_some, v_Compare.lt_ h1, if_neg (by decide), if_pos ho]
theorem r3_Join.old (o : List S65) (s t u : S24) (d : Bool) (ho : o.length < 1954687338268) : r3_Join.g (o ++ [⟨s, t, false⟩]) ⟨t, u, d⟩ = some (o ++ [⟨s, u, d⟩]) := by
 unfold r3_Join.g
 obtain ⟨r1, r2, r3, r4⟩ := rd_last o ⟨s, t, false⟩ ho
 obtain ⟨s1, _⟩ := rd_last o ⟨s, u, false⟩ ho
 have hll : ((o ++ [(⟨s, t, false⟩ : S65)]).length : Int) = ((o ++ [(⟨s, u, false⟩ : S65)]).length : Int) := by simp
 have s1' : rd_T65 (o ++ [(⟨s, u, false⟩ : S65)]) (wrap64 (((o ++ [(⟨s, t, false⟩ : S65)]).length : Int) - 1)) = ⟨s, u, false⟩ := by rw [hll]; exact s1
 rw [if_pos (by rw [List.length_append, List.length_singleton]; omega), if_pos r3, if_pos r4, r1, r2, if_neg (by simp)]
 have hc := r1_Compare.some_ t t
 rw [v_Compare.eq_] at hc
 show (r1_Compare.f t.f0 t.f1 t.f2 t.f0 t.f1 t.f2).bind _ = _
 rw [hc, Option.bind_some, if_pos rfl]
 show (some ((o ++ [(⟨s, t, false⟩ : S65)]).set o.length ⟨s, u, false⟩)).bind _ = _
 rw [Option.bind_some, set_last, s1']
 show some ((o ++ [(⟨s, u, false⟩ : S65)]).set o.length ⟨s, u, d⟩) = _
 rw [set_last]
theorem r3_Join.x_last (ps : List S24) (i : Nat) (h : i + 1 = ps.length) (hp : ps.length < 1073741824) : r3_Join.x ps i = ⟨ps[i], zS, true⟩ := by
 have hw : wrap64 ((ps.length : Int) - 1) = (i : Int) := by unfold wrap64; omega
 unfold r3_Join.x
 rw [hw, rd_T24_nat ps i (by omega), if_pos rfl, beq_self_eq_true]
 rfl
theorem r3_Join.x_mid (ps : List S24) (i : Nat) (h : i + 1 < ps.length) (hp : ps.length < 1073741824) : r3_Join.x ps i = ⟨ps[i], ps[i + 1], false⟩ := by
 have hw : wrap64 ((ps.length : Int) - 1) = (ps.length : Int) - 1 := by unfold wrap64; omega
 have hw1 : wrap64 ((i : Int) + 1) = ((i + 1 : Nat) : Int) := wrap64_succ (by omega)
 unfold r3_Join.x
 rw [hw, hw1, rd_T24_nat ps i (by omega), rd_T24_nat ps (i + 1) h, if_neg (by omega), beq_eq_false_iff_ne.2 (by omega)]
def opK (op : Int) : Bool → Bool → Bool := if op = 1 then kOr else if op = 2 then kAnd else kMinus
theorem r3_Apply.some_ (op : Int) (x y : Bool) : r3_Apply.f op x y = some (opK op x y) := by
 unfold r3_Apply.f opK
 by_cases h1 : op = 1
 ·rw [if_pos h1, if_pos h1]; cases x <;> simp [kOr]
 ·rw [if_neg h1, if_neg h1]
  by_cases h2 : op = 2
  ·rw [if_pos h2, if_pos h2]; cases x <;> simp [kAnd]
  ·rw [if_neg h2, if_neg h2]; cases x <;> simp [kMinus]
theorem opK_none (op : Int) : opK op false false = false := by
 unfold opK
 split
 ·rfl
 ·split <;> rfl
theorem r3_Combine.l0_ev (op : Int) (a b : List S65) (ha : a.length < 4611686018427387904) (hb : b.length < 4611686018427387904) (ps : List S24) (hs : ps.Pairwise ltV) (hp : ps.length < 1073741824) : ∀ (m i : Nat) (o : List S65), ps.length - i = m → i ≤ ps.length → o.length + m < 1954687338000 →
  ((i < ps.length → ∀ y ∈ o.getLast?, y.f2 = false → ∀ p ∈ ps.drop i, ltV y.f1 p) → Ev (fun k => r3_Combine.l0 k op a b ps o ps ps.length i) (o ++ sw (fun v => opK op (inI a v) (inI b v)) (ps.drop i))) ∧
  ∀ (s : S24) (h : i < ps.length), Ev (fun k => r3_Combine.l0 k op a b ps (o ++ [⟨s, ps[i], false⟩]) ps ps.length i) (o ++ swO (fun v => opK op (inI a v) (inI b v)) s (ps.drop i)) := by
 intro m
 induction m with
 | zero =>
  intro i o hm hi ho
  have e : ps.drop i = [] := List.drop_eq_nil_iff.2 (by omega)
  rw [e]
  refine ⟨fun _ => Ev.step (fun k => by rw [r3_Combine.l0, if_neg (by omega)]) ?_, fun s h => absurd h (by omega)⟩
  rw [sw, List.append_nil]; exact Ev.now _
 | succ m ih =>
  intro i o hm hi ho
  have hil : i < ps.length := by omega
  have hw : wrap64 ((i : Int) + 1) = ((i + 1 : Nat) : Int) := wrap64_succ (by omega)
  have hlo : o.length < 1954687338268 := by omega
  have hdr := List.drop_eq_getElem_cons hil
  have hso : ∀ q ∈ ps.drop (i + 1), ltV ps[i] q := by
   have := hs.drop (i := i)
   rw [hdr] at this
   exact (List.pairwise_cons.1 this).1
  have pre : ∀ (o' : List S65) (res : List S65), (opK op (inI a ps[i]) (inI b ps[i]) = true → Ev (fun k => (r3_Join.f o' ps i).bind fun t => r3_Combine.l0 k op a b ps t ps ps.length ((i + 1 : Nat) : Int)) res) → (opK op (inI a ps[i]) (inI b ps[i]) = false → Ev (fun k => r3_Combine.l0 k op a b ps o' ps ps.length ((i + 1 : Nat) : Int)) res) → Ev (fun k => r3_Combine.l0 k op a b ps o' ps ps.length i) res := by
   intro o' res h1 h2
   refine Ev.step (fun k => by rw [r3_Combine.l0, if_pos (by omega), if_pos (by omega), if_pos (by omega), rd_T24_nat ps i hil, hw]) ?_
   refine Ev.bind (r3_In.ev a ha ps[i]) ?_
   refine Ev.bind (r3_In.ev b hb ps[i]) ?_
   simp only [r3_Apply.some_, Option.bind_some]
   by_cases hg : opK op (inI a ps[i]) (inI b ps[i]) = true
   ·simp only [hg, if_true]; exact h1 hg
   ·have hg' := Bool.eq_false_iff.2 hg
    simp only [hg', Bool.false_eq_true, if_false]; exact h2 hg'
  have jf : ∀ o', r3_Join.f o' ps i = r3_Join.g o' (r3_Join.x ps i) := fun o' => by unfold r3_Join.f; rw [if_pos (by omega), if_pos (by omega)]
  rw [hdr]
  have fin : ∀ o', i + 1 = ps.length → Ev (fun k => r3_Combine.l0 k op a b ps o' ps ps.length ((i + 1 : Nat) : Int)) o' := fun o' he => Ev.step (fun k => by rw [r3_Combine.l0, if_neg (by omega)]) (Ev.now _)
  refine ⟨fun hlast => ?_, fun s h => ?_⟩
  ·have hlast := hlast hil
   refine pre _ _ (fun hg => ?_) fun hg => ?_
   ·rw [sw, if_pos hg]
    rcases Nat.lt_or_eq_of_le (Nat.succ_le_of_lt hil) with hn | hn
    ·have hj : r3_Join.f o ps i = some (o ++ [⟨ps[i], ps[i + 1], false⟩]) := by
      rw [jf, r3_Join.x_mid ps i hn hp]
      exact r3_Join.new _ _ hlo fun y hy h2 => hlast y hy h2 _ (by first | exact List.mem_cons.2 (.inl rfl) | (rw [hdr]; exact List.mem_cons.2 (.inl rfl)))
     simp only [hj, Option.bind_some]
     exact (ih (i + 1) o (by omega) (by omega) (by omega)).2 ps[i] hn
    ·have hj : r3_Join.f o ps i = some (o ++ [⟨ps[i], zS, true⟩]) := by
      rw [jf, r3_Join.x_last ps i hn hp]
      exact r3_Join.new _ _ hlo fun y hy h2 => hlast y hy h2 _ (by first | exact List.mem_cons.2 (.inl rfl) | (rw [hdr]; exact List.mem_cons.2 (.inl rfl)))
     simp only [hj, Option.bind_some]
     rw [List.drop_eq_nil_iff.2 (by omega : ps.length ≤ i + 1), swO]
     exact fin _ hn
   ·rw [sw, if_neg (by rw [hg]; exact Bool.false_ne_true)]
    exact (ih (i + 1) o (by omega) (by omega) (by omega)).1 fun _ y hy h2 p hp => hlast y hy h2 p (by first | exact List.mem_cons_of_mem _ hp | (rw [hdr]; exact List.mem_cons_of_mem _ hp))
  ·refine pre _ _ (fun hg => ?_) fun hg => ?_
   ·rw [swO, if_pos hg]
    rcases Nat.lt_or_eq_of_le (Nat.succ_le_of_lt hil) with hn | hn
    ·have hj : r3_Join.f (o ++ [⟨s, ps[i], false⟩]) ps i = some (o ++ [⟨s, ps[i + 1], false⟩]) := by
      rw [jf, r3_Join.x_mid ps i hn hp, r3_Join.old _ _ _ _ _ hlo]
     simp only [hj, Option.bind_some]
     exact (ih (i + 1) o (by omega) (by omega) (by omega)).2 s hn
    ·have hj : r3_Join.f (o ++ [⟨s, ps[i], false⟩]) ps i = some (o ++ [⟨s, zS, true⟩]) := by
      rw [jf, r3_Join.x_last ps i hn hp, r3_Join.old _ _ _ _ _ hlo]
     simp only [hj, Option.bind_some]
     rw [List.drop_eq_nil_iff.2 (by omega : ps.length ≤ i + 1), swO]
     exact fin _ hn
   ·rw [swO, if_neg (by rw [hg]; exact Bool.false_ne_true)]
    have := (ih (i + 1) (o ++ [⟨s, ps[i], false⟩]) (by omega) (by omega) (by simp; omega)).1 fun _ y hy h2 p hp => by
     simp at hy
     subst hy
     exact hso p hp
    rw [List.append_assoc] at this
    exact this
theorem r3_Combine.op (op : Int) {a b : List S65} (ha : a.length ≤ 8192) (hb : b.length ≤ 8192) (ca : Can a) (cb : Can b) : ∃ r, IsOp (opK op) a b r ∧ (endsI r).length ≤ (endsI a).length + (endsI b).length ∧ Ev (fun k => r3_Combine.f k op a b) r := by
 obtain ⟨ps, h, e⟩ := r3_Points.ev a b ha hb
 have hl := h.len
 rw [List.length_append] at hl
 have la := endsI_le a
 have lb := endsI_le b
 obtain ⟨h1, h2⟩ := IsOp.of_none (opK op) (opK_none op) (ends_pts_valid ca cb h fun v hv => .inr hv) h.sorted h.mem hl
 refine ⟨_, h1, h2, ?_⟩
 unfold r3_Combine.f
 refine Ev.bind e ?_
 have := (r3_Combine.l0_ev op a b (by omega) (by omega) ps h.sorted (by omega) ps.length 0 [] rfl (Nat.zero_le _) (by simp; omega)).1 fun _ y hy => by simp at hy
 rw [List.nil_append, List.drop_zero] at this
 exact this
theorem can_one {s t : S24} (hs : validS s = true) (ht : validS t = true) (h : ltV s t) : Can [⟨s, t, false⟩] := .cons s t [] hs ht h (by simp) .nil
theorem r3_From.ok {x : S24} (hv : validS x = true) : Ev (fun k => r3_From.f k x.f0 x.f1 x.f2) ([⟨x, zS, true⟩], 0) := by
 unfold r3_From.f
 refine Ev.bind (r1_Valid.ev _ _ _) ?_
 have hv : validV x.f0 x.f1 x.f2 = true := hv
 simp only [hv, if_true]
 exact Ev.now _
theorem One.ok {x : S24} (hv : validS x = true) (lo : -9223372036854775808 ≤ x.f1) (hi : x.f1 ≤ 9223372036854775807) : ∃ l, Ev (fun k => r3_One.f k x.f0 x.f1 x.f2) (l, 0) ∧ Ev (fun k => i_One.f k x.f0 x.f1 x.f2) (l, 0) ∧ Can l ∧ (endsI l).length ≤ 2 := by
 have hv' : validV x.f0 x.f1 x.f2 = true := hv
 rcases v_Next.ok x hv' lo hi with ⟨y, hy, h1, h2⟩ | ⟨_, h1, h2⟩
 ·refine ⟨[⟨x, y, false⟩], ?_, ?_, can_one hv hy.valid hy.up, by simp [endsI]⟩
  ·unfold r3_One.f
   refine Ev.bind (r1_Valid.ev _ _ _) ?_
   simp only [hv', if_true]
   exact Ev.bind h2 (Ev.now _)
  ·unfold i_One.f
   refine Ev.bind (v_Valid.ev _ _ _) ?_
   simp only [hv', if_true]
   exact Ev.bind h1 (Ev.now _)
 ·refine ⟨[⟨x, zS, true⟩], ?_, ?_, .last _ hv, by simp [endsI]⟩
  ·unfold r3_One.f
   refine Ev.bind (r1_Valid.ev _ _ _) ?_
   simp only [hv', if_true]
   exact Ev.bind h2 (Ev.now _)
  ·unfold i_One.f
   refine Ev.bind (v_Valid.ev _ _ _) ?_
   simp only [hv', if_true]
   refine Ev.bind h1 ?_
   simp only [Bool.false_eq_true, if_false]
   exact Ev.now _
theorem Between.ok {x y : S24} (hx : validS x = true) (hy : validS y = true) : ∃ l, Ev (fun k => r3_Between.f k x.f0 x.f1 x.f2 y.f0 y.f1 y.f2) (l, 0) ∧ Ev (fun k => i_Between.f k x.f0 x.f1 x.f2 y.f0 y.f1 y.f2) (l, 0) ∧ Can l ∧ (endsI l).length ≤ 2 ∧ (ltV x y → l = [⟨x, y, false⟩]) := by
 have hx' : validV x.f0 x.f1 x.f2 = true := hx
 have hy' : validV y.f0 y.f1 y.f2 = true := hy
 have a : ∀ l, (if cmpV x y ≥ 0 then (([] : List S65), (0 : Int)) else ([⟨x, y, false⟩], 0)) = l → Ev (fun k => r3_Between.f k x.f0 x.f1 x.f2 y.f0 y.f1 y.f2) l ∧ Ev (fun k => i_Between.f k x.f0 x.f1 x.f2 y.f0 y.f1 y.f2) l := by
  rintro l rfl
  constructor
  ·unfold r3_Between.f
   refine Ev.bind (r1_Valid.ev _ _ _) ?_
   simp only [hx', if_true]
   refine Ev.bind (r1_Valid.ev _ _ _) ?_
   simp only [hy', Bool.not_true]
   refine Ev.step (fun k => by rw [r3_Between.j0, if_neg (by decide), r1_Compare.some_, Option.bind_some]) ?_
   by_cases hc : cmpV x y ≥ 0
   ·simp only [hc, if_true]; exact Ev.now _
   ·simp only [hc, if_false]; exact Ev.now _
  ·unfold i_Between.f
   refine Ev.bind (v_Valid.ev _ _ _) ?_
   simp only [hx', if_true]
   refine Ev.bind (v_Valid.ev _ _ _) ?_
   simp only [hy', Bool.not_true]
   refine Ev.step (fun k => by rw [i_Between.j0, if_neg (by decide), v_Compare.some_, Option.bind_some]) ?_
   by_cases hc : cmpV x y ≥ 0
   ·simp only [hc, if_true]; exact Ev.now _
   ·simp only [hc, if_false]; exact Ev.now _
 by_cases hc : cmpV x y ≥ 0
 ·have := a ([], 0) (by rw [if_pos hc])
  exact ⟨[], this.1, this.2, .nil, by simp [endsI], fun h => absurd (cmpV_lt.2 h) (by omega)⟩
 ·have := a ([⟨x, y, false⟩], 0) (by rw [if_neg hc])
  exact ⟨_, this.1, this.2, can_one hx hy (cmpV_lt.1 (by omega)), by simp [endsI], fun _ => rfl⟩
theorem lens {l : List S65} {n : Nat} (h : (endsI l).length ≤ n) : l.length ≤ n := Nat.le_trans (len_ends l) h
theorem cc_Interval.j1_ok (L : List Int) (m : Nat) (hm : m ≤ 2) (ih : ∀ (l : List S65) (i : Int), StOk L i → Can l → (endsI l).length ≤ 6 - 2 * m → ∃ r j, Ev (fun k => cc_Interval.l0 k l m L i) (r, j) ∧ StOk L j ∧ Can r ∧ (endsI r).length ≤ 7)
  (l : List S65) (i : Int) (hst : StOk L i) (hc : Can l) (hl : (endsI l).length ≤ 6 - 2 * (m + 1)) (x y : S24) (hx : validS x = true) (hy : validS y = true) (lo : -9223372036854775808 ≤ x.f1) (hi : x.f1 ≤ 9223372036854775807) :
  ∃ r j, Ev (fun k => cc_Interval.j1 k l ((m + 1 : Nat) : Int) L i x.f0 x.f1 x.f2 y.f0 y.f1 y.f2) (r, j) ∧ StOk L j ∧ Can r ∧ (endsI r).length ≤ 7 := by
 obtain ⟨r, j, hr, hst2, -⟩ := cc_Int.ok hst 5 (by omega)
 have hw : wrap64 (((m + 1 : Nat) : Int) - 1) = (m : Int) := by unfold wrap64; omega
 have go : ∀ (u : List S65), Can u → (endsI u).length ≤ 2 → ∃ r' j', Ev (fun k => (r3_Combine.f k 1 l u).bind fun t => cc_Interval.l0 k t m L j) (r', j') ∧ StOk L j' ∧ Can r' ∧ (endsI r').length ≤ 7 := by
  intro u hu hul
  obtain ⟨q, hq, hql, he⟩ := r3_Combine.op 1 (by have := lens hl; omega) (by have := lens hul; omega) hc hu
  obtain ⟨r', j', h1, h2⟩ := ih q j hst2 hq.can (by omega)
  exact ⟨r', j', Ev.bind he h1, h2⟩
 have st : ∀ (res : List S65 × Int), Ev (fun k => if r = 0 then ((r3_From.f k x.f0 x.f1 x.f2).bind fun bt463 => ((r3_Combine.f k 1 l bt463.1).bind fun t467 => (cc_Interval.l0 k t467 m L j))) else (if r = 1 then ((r3_One.f k x.f0 x.f1 x.f2).bind fun bt470 => ((r3_Combine.f k 1 l bt470.1).bind fun t474 => (cc_Interval.l0 k t474 m L j))) else ((r3_Between.f k x.f0 x.f1 x.f2 y.f0 y.f1 y.f2).bind fun bt477 => ((r3_Combine.f k 1 l bt477.1).bind fun t481 => (cc_Interval.l0 k t481 m L j))))) res → Ev (fun k => cc_Interval.j1 k l ((m + 1 : Nat) : Int) L i x.f0 x.f1 x.f2 y.f0 y.f1 y.f2) res :=
  fun res h => Ev.step (fun k => by rw [cc_Interval.j1, hr, Option.bind_some, hw]) h
 by_cases h0 : r = 0
 ·obtain ⟨r', j', h1, h2⟩ := go _ (.last x hx) (by simp [endsI])
  refine ⟨r', j', st _ (Ev.congr (fun k => if_pos h0) (Ev.bind (r3_From.ok hx) h1)), h2⟩
 ·by_cases h1 : r = 1
  ·obtain ⟨u, hu, -, cu, lu⟩ := One.ok hx lo hi
   obtain ⟨r', j', h3, h2⟩ := go _ cu lu
   refine ⟨r', j', st _ (Ev.congr (fun k => (if_neg h0).trans (if_pos h1)) (Ev.bind hu h3)), h2⟩
  ·obtain ⟨u, hu, -, cu, lu, -⟩ := Between.ok hx hy
   obtain ⟨r', j', h3, h2⟩ := go _ cu lu
   refine ⟨r', j', st _ (Ev.congr (fun k => (if_neg h0).trans (if_neg h1)) (Ev.bind hu h3)), h2⟩
theorem cc_Interval.l0_ok (L : List Int) : ∀ (m : Nat), m ≤ 3 → ∀ (l : List S65) (i : Int), StOk L i → Can l → (endsI l).length ≤ 6 - 2 * m → ∃ r j, Ev (fun k => cc_Interval.l0 k l m L i) (r, j) ∧ StOk L j ∧ Can r ∧ (endsI r).length ≤ 7
 | 0, _, l, i, hst, hc, hl => by
  obtain ⟨b, j, hb, hst2⟩ := cc_Bool.ok hst 4 (by omega) (by omega)
  by_cases hbt : b = true
  ·obtain ⟨r, hr, hrl, he⟩ := r3_Combine.op 3 (a := [⟨leastS, zS, true⟩]) (by simp) (by have := lens hl; omega) (.last _ least_valid) hc
   refine ⟨r, j, ?_, hst2, hr.can, ?_⟩
   ·refine Ev.step (fun k => by rw [cc_Interval.l0, if_neg (by omega), hb, Option.bind_some, if_pos hbt, r3_All.f, Option.bind_some]) ?_
    exact Ev.bind he (Ev.now _)
   ·have : (endsI [(⟨leastS, zS, true⟩ : S65)]).length = 1 := rfl
    omega
  ·refine ⟨l, j, ?_, hst2, hc, by omega⟩
   exact Ev.step (fun k => by rw [cc_Interval.l0, if_neg (by omega), hb, Option.bind_some, if_neg hbt]) (Ev.now _)
 | m + 1, hm, l, i, hst, hc, hl => by
  obtain ⟨a, b, c, i2, e1, hst2, v1, lo1, hi1⟩ := cc_Any.ok hst
  obtain ⟨a', b', c', i3, e2, hst3, v2, lo2, hi2⟩ := cc_Any.ok hst2
  have ih := cc_Interval.l0_ok L m (by omega)
  have hcmp := r1_Compare.some_ ⟨a, b, c⟩ ⟨a', b', c'⟩
  have st : ∀ (res : List S65 × Int), Ev (fun k => if cmpV ⟨a, b, c⟩ ⟨a', b', c'⟩ > 0 then cc_Interval.j1 k l ((m + 1 : Nat) : Int) L i3 a' b' c' a b c else cc_Interval.j1 k l ((m + 1 : Nat) : Int) L i3 a b c a' b' c') res → Ev (fun k => cc_Interval.l0 k l ((m + 1 : Nat) : Int) L i) res := by
   intro res h
   refine Ev.step (fun k => by rw [cc_Interval.l0, if_pos (by omega)]) ?_
   refine Ev.bind e1 (Ev.bind e2 ?_)
   dsimp only at hcmp
   simp only [hcmp, Option.bind_some]
   exact h
  by_cases hg : cmpV ⟨a, b, c⟩ ⟨a', b', c'⟩ > 0
  ·obtain ⟨r, j, h1, h2⟩ := cc_Interval.j1_ok L m (by omega) ih l i3 hst3 hc hl ⟨a', b', c'⟩ ⟨a, b, c⟩ v2 v1 lo2 hi2
   exact ⟨r, j, st _ (Ev.congr (fun k => if_pos hg) h1), h2⟩
  ·obtain ⟨r, j, h1, h2⟩ := cc_Interval.j1_ok L m (by omega) ih l i3 hst3 hc hl ⟨a, b, c⟩ ⟨a', b', c'⟩ v1 v2 lo1 hi1
   exact ⟨r, j, st _ (Ev.congr (fun k => if_neg hg) h1), h2⟩
structure IsDrawn (l : List S65) : Prop where
 ok : okI l = true
 few : (endsI l).length ≤ 7
theorem cc_Interval.ok {L : List Int} {i : Int} (h : StOk L i) : ∃ l j, Ev (fun k => cc_Interval.f k L i) (l, j) ∧ StOk L j ∧ IsDrawn l := by
 obtain ⟨r, j, hr, hst, h0, -, h3⟩ := cc_Int.ok h 3 (by omega)
 have h3 := h3 (by omega)
 obtain ⟨n, rfl⟩ := Int.eq_ofNat_of_zero_le h0
 have hw : wrap64 (1 + (n : Int)) = ((n + 1 : Nat) : Int) := by unfold wrap64; omega
 obtain ⟨l, j', h1, h2, h4, h5⟩ := cc_Interval.l0_ok L (n + 1) (by omega) [] j hst .nil (by simp [endsI])
 refine ⟨l, j', ?_, h2, okI_can.2 ⟨by have := lens h5; omega, h4⟩, h5⟩
 unfold cc_Interval.f
 rw [hr]
 simp only [Option.bind_some, hw]
 exact h1
theorem i_Has.ev (l : List S65) (hl : l.length < 4611686018427387904) (v : S24) : Ev (fun k => i_Has.f k l v.f0 v.f1 v.f2) (validS v && (okI l && inI l v)) := by
 unfold i_Has.f
 refine Ev.bind (v_Valid.ev _ _ _) ?_
 by_cases hv : validV v.f0 v.f1 v.f2 = true
 ·have hv' : validS v = true := hv
  simp only [hv, hv', if_true, Bool.true_and]
  refine Ev.bind (i_Valid.ev l) ?_
  by_cases ho : okI l = true
  ·simp only [ho, if_true, Bool.true_and]
   exact Ev.bind (i_contains.ev l hl v) (Ev.now _)
  ·simp only [Bool.eq_false_iff.2 ho, Bool.false_eq_true, if_false, Bool.false_and]
   exact Ev.now _
 ·have hv' : validS v = false := Bool.eq_false_iff.2 hv
  simp only [Bool.eq_false_iff.2 hv, hv', Bool.false_eq_true, if_false, Bool.false_and]
  exact Ev.now _
theorem i_Has.in_ {l : List S65} (hl : okI l = true) {v : S24} (hv : validS v = true) : Ev (fun k => i_Has.f k l v.f0 v.f1 v.f2) (inI l v) := by
 have := i_Has.ev l (by have := (okI_can.1 hl).1; omega) v
 rw [hv, hl, Bool.true_and, Bool.true_and] at this
 exact this
theorem i_Union.few {a b : List S65} (ha : okI a = true) (hb : okI b = true) (hn : 1 + (endsI a).length + (endsI b).length ≤ 64) : ∃ r, IsOp kOr a b r ∧ okI r = true ∧ Ev (fun k => i_Union.f k a b) (r, 0) := by
 obtain ⟨r, h1, h2, h3⟩ := i_combine.few kOr ha hb hn
 exact ⟨r, h1, h2, by unfold i_Union.f; exact Ev.bind h3 (Ev.now _)⟩
instance : DecidableEq S65 := fun x y => decidable_of_iff (x.f0 = y.f0 ∧ x.f1 = y.f1 ∧ x.f2 = y.f2) ⟨fun h => by cases x; cases y; simp only [S65.mk.injEq]; exact h, fun h => h ▸ ⟨rfl, rfl, rfl⟩⟩
def iV (n : Int) : S24 := ⟨4, n, ⟨#[]⟩⟩
theorem iV_valid (n : Int) : validS (iV n) = true := validV_low (a := 4) (b := n) (by omega)
theorem iV_lt {a b : Int} : ltV (iV a) (iV b) ↔ a < b := by
 constructor
 ·rintro (h | ⟨_, h | ⟨_, h⟩⟩)
  ·have h : (4 : Int) < 4 := h
   omega
  ·exact h
  ·exact absurd h (by unfold iV; exact List.lt_irrefl _)
 ·exact fun h => .inr ⟨rfl, .inl h⟩
theorem inI_one (x : S65) (v : S24) : inI [x] v = oneI x v := by rw [inI_cons]; exact Bool.or_false _
theorem l3_begun.ev : Ev (fun k => l3_begun.f k) true := by
 unfold l3_begun.f l3_num.f
 simp only [Option.bind_some]
 obtain ⟨a, -, ea, ca, la, ha⟩ := Between.ok (iV_valid 1) (iV_valid 3)
 have ha := ha (iV_lt.2 (by omega))
 obtain ⟨b, -, eb, cb, lb, hb⟩ := Between.ok (iV_valid 3) (iV_valid 5)
 have hb := hb (iV_lt.2 (by omega))
 refine Ev.bind ea (Ev.bind eb ?_)
 obtain ⟨r, hr, ho, er⟩ := i_Union.few (okI_can.2 ⟨by have := lens la; omega, ca⟩) (okI_can.2 ⟨by have := lens lb; omega, cb⟩) (by omega)
 refine Ev.bind er ?_
 have hr1 : r = [⟨iV 1, iV 5, false⟩] := by
  refine hr.can.unique (can_one (iV_valid 1) (iV_valid 5) (iV_lt.2 (by omega))) fun v hv => ?_
  rw [hr.mem v hv, ha, hb, Bool.eq_iff_iff]
  simp only [kOr, inI_one, Bool.or_eq_true, oneI_iff, Bool.false_eq_true, false_or]
  have h13 : ltV (iV 1) (iV 3) := iV_lt.2 (by omega)
  have h35 : ltV (iV 3) (iV 5) := iV_lt.2 (by omega)
  constructor
  ·rintro (⟨p, q⟩ | ⟨p, q⟩)
   ·exact ⟨p, ltV_trans q h35⟩
   ·exact ⟨le_le (le_of_lt h13) p, q⟩
  ·rintro ⟨p, q⟩
   by_cases c : ltV v (iV 3)
   ·exact .inl ⟨p, c⟩
   ·exact .inr ⟨c, q⟩
 subst hr1
 have e0 : rd_T65 [(⟨⟨4, 1, ⟨#[]⟩⟩, ⟨4, 5, ⟨#[]⟩⟩, false⟩ : S65)] 0 = ⟨⟨4, 1, ⟨#[]⟩⟩, ⟨4, 5, ⟨#[]⟩⟩, false⟩ := rfl
 simp only [iV, e0, if_true, List.length_singleton, beq_self_eq_true, Bool.and_self, Int.natCast_one, Int.zero_lt_one]
 refine Ev.bind (i_Valid.ev _) ?_
 have ho' : okI [(⟨⟨4, 1, ⟨#[]⟩⟩, ⟨4, 5, ⟨#[]⟩⟩, false⟩ : S65)] = true := ho
 simp only [ho', if_true]
 have hh := i_Has.in_ ho (iV_valid 3)
 have hi : inI [(⟨iV 1, iV 5, false⟩ : S65)] (iV 3) = true := by
  rw [inI_cons, (oneI_iff _ _).2 ⟨le_of_lt (iV_lt.2 (by omega)), .inr (iV_lt.2 (by omega))⟩]
  rfl
 rw [hi] at hh
 refine Ev.bind hh ?_
 simp only [if_true]
 exact Ev.congr (fun k => rfl) (Ev.now _)
theorem ev_one {α : Type} {g : Nat → Option α} {r q : α} (hm : ∀ k, LeO (g k) (g (k + 1))) (h : Ev g r) {k : Nat} (hk : g k = some q) : q = r := by
 obtain ⟨K, hK⟩ := h
 have h1 := at_rounds hm (Nat.le_max_left k K) hk
 rw [hK _ (Nat.le_max_right k K)] at h1
 exact (Option.some.inj h1).symm
theorem l3_begun.calls (k : Nat) (r : Bool) (w : World) (h : l3_begun.f k = some r) :
  Calls Try.prog 36 #[] w fun e w' => e = .returned (.bool r) ∧ Below w.heap.size w w' :=
 l3_begun.callsT k r w h ⟨ev_one l3_begun.mono l3_begun.ev h⟩
end Go.Proofs.Ytpjcdacnhalclaa.Q
