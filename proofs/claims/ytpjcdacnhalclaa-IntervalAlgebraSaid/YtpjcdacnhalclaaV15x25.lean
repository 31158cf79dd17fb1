/- A part of a proof: facts of functions that the law calls; conditions stand in each. -/
import Derived.Test.YtpjcdacnhalclaaV15x3
import Derived.Test.YtpjcdacnhalclaaV15x22
import Derived.Test.YtpjcdacnhalclaaV15x10
import Derived.Test.YtpjcdacnhalclaaV15x11
import Derived.Test.YtpjcdacnhalclaaV15x13
import Derived.Test.YtpjcdacnhalclaaV15x23
import Derived.Test.YtpjcdacnhalclaaV15x15
import Derived.Test.YtpjcdacnhalclaaV15x21
import Derived.Test.YtpjcdacnhalclaaV15x7
import Derived.Test.YtpjcdacnhalclaaV15x24
import Derived.Test.YtpjcdacnhalclaaV15x8
import Derived.Test.YtpjcdacnhalclaaV15x17
set_option linter.unusedVariables false
set_option linter.unusedSimpArgs false
namespace Go.Proofs.Ytpjcdacnhalclaa.Q
open Go.RowKit Go.Proofs.YtpjcdacnhalclaaW.PrintWords Go.Proofs.YtpjcdacnhalclaaW.PrintLast Go.Proofs.YtpjcdacnhalclaaW.PrintMore
attribute [local go_sem] max2_int min2_int max_two min_two max_three min_three max_four min_four
theorem can_one {s t : S24} (hs : validS s = true) (ht : validS t = true) (h : ltV s t) : Can [⟨s, t, false⟩] := .cons s t [] hs ht h (by simp) .nil
theorem r3_From.ok {x : S24} (hv : validS x = true) : Ev (fun k => r3_From.f k x.f0 x.f1 x.f2) ([⟨x, zS, true⟩], 0) := by
 unfold r3_From.f
 refine Ev.bind (r1_Valid.ev _ _ _) ?_
 have hv : validV x.f0 x.f1 x.f2 = true := hv
 simp only [hv, if_true]
 exact Ev.now _
theorem One.ok {x : S24} (hv : validS x = true) (lo : -9223372036854775808 ≤ x.f1) (hi : x.f1 ≤ 9223372036854775807) : ∃ l, Ev (fun k => r3_One.f k x.f0 x.f1 x.f2) (l, 0) ∧ Ev (fun k => i_One.f k x.f0 x.f1 x.f2) (l, 0) ∧ Can l ∧ (endsI l).length ≤ 2 := by
 have hv' : validV x.f0 x.f1 x.f2 = true := hv
 rcases v_Next.ok x hv' lo hi with ⟨y, hy, h1, h2⟩ | ⟨_, h1, h2⟩
 ·refine ⟨[⟨x, y, false⟩], ?_, ?_, can_one hv hy.valid hy.up, by simp [endsI]⟩
  ·unfold r3_One.f
   refine Ev.bind (r1_Valid.ev _ _ _) ?_
   simp only [hv', if_true]
   exact Ev.bind h2 (Ev.now _)
  ·unfold i_One.f
   refine Ev.bind (v_Valid.ev _ _ _) ?_
   simp only [hv', if_true]
   exact Ev.bind h1 (Ev.now _)
 ·refine ⟨[⟨x, zS, true⟩], ?_, ?_, .last _ hv, by simp [endsI]⟩
  ·unfold r3_One.f
   refine Ev.bind (r1_Valid.ev _ _ _) ?_
   simp only [hv', if_true]
   exact Ev.bind h2 (Ev.now _)
  ·unfold i_One.f
   refine Ev.bind (v_Valid.ev _ _ _) ?_
   simp only [hv', if_true]
   refine Ev.bind h1 ?_
   simp only [Bool.false_eq_true, if_false]
   exact Ev.now _
theorem Between.ok {x y : S24} (hx : validS x = true) (hy : validS y = true) : ∃ l, Ev (fun k => r3_Between.f k x.f0 x.f1 x.f2 y.f0 y.f1 y.f2) (l, 0) ∧ Ev (fun k => i_Between.f k x.f0 x.f1 x.f2 y.f0 y.f1 y.f2) (l, 0) ∧ Can l ∧ (endsI l).length ≤ 2 ∧ (ltV x y → l = [⟨x, y, false⟩]) := by
 have hx' : validV x.f0 x.f1 x.f2 = true := hx
 have hy' : validV y.f0 y.f1 y.f2 = true := hy
 have a : ∀ l, (if cmpV x y ≥ 0 then (([] : List S65), (0 : Int)) else ([⟨x, y, false⟩], 0)) = l → Ev (fun k => r3_Between.f k x.f0 x.f1 x.f2 y.f0 y.f1 y.f2) l ∧ Ev (fun k => i_Between.f k x.f0 x.f1 x.f2 y.f0 y.f1 y.f2) l := by
  rintro l rfl
  constructor
  ·unfold r3_Between.f
   refine Ev.bind (r1_Valid.ev _ _ _) ?_
   simp only [hx', if_true]
   refine Ev.bind (r1_Valid.ev _ _ _) ?_
   simp only [hy', Bool.not_true]
   refine Ev.step (fun k => by rw [r3_Between.j0, if_neg (by decide), r1_Compare.some_, Option.bind_some]) ?_
   by_cases hc : cmpV x y ≥ 0
   ·simp only [hc, if_true]; exact Ev.now _
   ·simp only [hc, if_false]; exact Ev.now _
  ·unfold i_Between.f
   refine Ev.bind (v_Valid.ev _ _ _) ?_
   simp only [hx', if_true]
   refine Ev.bind (v_Valid.ev _ _ _) ?_
   simp only [hy', Bool.not_true]
   refine Ev.step (fun k => by rw [i_Between.j0, if_neg (by decide), v_Compare.some_, Option.bind_some]) ?_
   by_cases hc : cmpV x y ≥ 0
   ·simp only [hc, if_true]; exact Ev.now _
   ·simp only [hc, if_false]; exact Ev.now _
 by_cases hc : cmpV x y ≥ 0
 ·have := a ([], 0) (by rw [if_pos hc])
  exact ⟨[], this.1, this.2, .nil, by simp [endsI], fun h => absurd (cmpV_lt.2 h) (by omega)⟩
 ·have := a ([⟨x, y, false⟩], 0) (by rw [if_neg hc])
  exact ⟨_, this.1, this.2, can_one hx hy (cmpV_lt.1 (by omega)), by simp [endsI], fun _ => rfl⟩
theorem lens {l : List S65} {n : Nat} (h : (endsI l).length ≤ n) : l.length ≤ n := Nat.le_trans (len_ends l) h
theorem cc_Interval.j1_ok (L : List Int) (m : Nat) (hm : m ≤ 2) (ih : ∀ (l : List S65) (i : Int), StOk L i → Can l → (endsI l).length ≤ 6 - 2 * m → ∃ r j, Ev (fun k => cc_Interval.l0 k l m L i) (r, j) ∧ StOk L j ∧ Can r ∧ (endsI r).length ≤ 7)
  (l : List S65) (i : Int) (hst : StOk L i) (hc : Can l) (hl : (endsI l).length ≤ 6 - 2 * (m + 1)) (x y : S24) (hx : validS x = true) (hy : validS y = true) (lo : -9223372036854775808 ≤ x.f1) (hi : x.f1 ≤ 9223372036854775807) :
  ∃ r j, Ev (fun k => cc_Interval.j1 k l ((m + 1 : Nat) : Int) L i x.f0 x.f1 x.f2 y.f0 y.f1 y.f2) (r, j) ∧ StOk L j ∧ Can r ∧ (endsI r).length ≤ 7 := by
 obtain ⟨r, j, hr, hst2, -⟩ := cc_Int.ok hst 5 (by omega)
 have hw : wrap64 (((m + 1 : Nat) : Int) - 1) = (m : Int) := by unfold wrap64; omega
 have go : ∀ (u : List S65), Can u → (endsI u).length ≤ 2 → ∃ r' j', Ev (fun k => (r3_Combine.f k 1 l u).bind fun t => cc_Interval.l0 k t m L j) (r', j') ∧ StOk L j' ∧ Can r' ∧ (endsI r').length ≤ 7 := by
  intro u hu hul
  obtain ⟨q, hq, hql, he⟩ := r3_Combine.op 1 (by have := lens hl; omega) (by have := lens hul; omega) hc hu
  obtain ⟨r', j', h1, h2⟩ := ih q j hst2 hq.can (by omega)
  exact ⟨r', j', Ev.bind he h1, h2⟩
 have st : ∀ (res : List S65 × Int), Ev (fun k => if r = 0 then ((r3_From.f k x.f0 x.f1 x.f2).bind fun bt463 => ((r3_Combine.f k 1 l bt463.1).bind fun t467 => (cc_Interval.l0 k t467 m L j))) else (if r = 1 then ((r3_One.f k x.f0 x.f1 x.f2).bind fun bt470 => ((r3_Combine.f k 1 l bt470.1).bind fun t474 => (cc_Interval.l0 k t474 m L j))) else ((r3_Between.f k x.f0 x.f1 x.f2 y.f0 y.f1 y.f2).bind fun bt477 => ((r3_Combine.f k 1 l bt477.1).bind fun t481 => (cc_Interval.l0 k t481 m L j))))) res → Ev (fun k => cc_Interval.j1 k l ((m + 1 : Nat) : Int) L i x.f0 x.f1 x.f2 y.f0 y.f1 y.f2) res :=
  fun res h => Ev.step (fun k => by rw [cc_Interval.j1, hr, Option.bind_some, hw]) h
 by_cases h0 : r = 0
 ·obtain ⟨r', j', h1, h2⟩ := go _ (.last x hx) (by simp [endsI])
  refine ⟨r', j', st _ (Ev.congr (fun k => if_pos h0) (Ev.bind (r3_From.ok hx) h1)), h2⟩
 ·by_cases h1 : r = 1
  ·obtain ⟨u, hu, -, cu, lu⟩ := One.ok hx lo hi
   obtain ⟨r', j', h3, h2⟩ := go _ cu lu
   refine ⟨r', j', st _ (Ev.congr (fun k => (if_neg h0).trans (if_pos h1)) (Ev.bind hu h3)), h2⟩
  ·obtain ⟨u, hu, -, cu, lu, -⟩ := Between.ok hx hy
   obtain ⟨r', j', h3, h2⟩ := go _ cu lu
   refine ⟨r', j', st _ (Ev.congr (fun k => (if_neg h0).trans (if_neg h1)) (Ev.bind hu h3)), h2⟩
theorem cc_Interval.l0_ok (L : List Int) : ∀ (m : Nat), m ≤ 3 → ∀ (l : List S65) (i : Int), StOk L i → Can l → (endsI l).length ≤ 6 - 2 * m → ∃ r j, Ev (fun k => cc_Interval.l0 k l m L i) (r, j) ∧ StOk L j ∧ Can r ∧ (endsI r).length ≤ 7
 | 0, _, l, i, hst, hc, hl => by
  obtain ⟨b, j, hb, hst2⟩ := cc_Bool.ok hst 4 (by omega) (by omega)
  by_cases hbt : b = true
  ·obtain ⟨r, hr, hrl, he⟩ := r3_Combine.op 3 (a := [⟨leastS, zS, true⟩]) (by simp) (by have := lens hl; omega) (.last _ least_valid) hc
   refine ⟨r, j, ?_, hst2, hr.can, ?_⟩
   ·refine Ev.step (fun k => by rw [cc_Interval.l0, if_neg (by omega), hb, Option.bind_some, if_pos hbt, r3_All.f, Option.bind_some]) ?_
    exact Ev.bind he (Ev.now _)
   ·have : (endsI [(⟨leastS, zS, true⟩ : S65)]).length = 1 := rfl
    omega
  ·refine ⟨l, j, ?_, hst2, hc, by omega⟩
   exact Ev.step (fun k => by rw [cc_Interval.l0, if_neg (by omega), hb, Option.bind_some, if_neg hbt]) (Ev.now _)
 | m + 1, hm, l, i, hst, hc, hl => by
  obtain ⟨a, b, c, i2, e1, hst2, v1, lo1, hi1⟩ := cc_Any.ok hst
  obtain ⟨a', b', c', i3, e2, hst3, v2, lo2, hi2⟩ := cc_Any.ok hst2
  have ih := cc_Interval.l0_ok L m (by omega)
  have hcmp := r1_Compare.some_ ⟨a, b, c⟩ ⟨a', b', c'⟩
  have st : ∀ (res : List S65 × Int), Ev (fun k => if cmpV ⟨a, b, c⟩ ⟨a', b', c'⟩ > 0 then cc_Interval.j1 k l ((m + 1 : Nat) : Int) L i3 a' b' c' a b c else cc_Interval.j1 k l ((m + 1 : Nat) : Int) L i3 a b c a' b' c') res → Ev (fun k => cc_Interval.l0 k l ((m + 1 : Nat) : Int) L i) res := by
   intro res h
   refine Ev.step (fun k => by rw [cc_Interval.l0, if_pos (by omega)]) ?_
   refine Ev.bind e1 (Ev.bind e2 ?_)
   dsimp only at hcmp
   simp only [hcmp, Option.bind_some]
   exact h
  by_cases hg : cmpV ⟨a, b, c⟩ ⟨a', b', c'⟩ > 0
  ·obtain ⟨r, j, h1, h2⟩ := cc_Interval.j1_ok L m (by omega) ih l i3 hst3 hc hl ⟨a', b', c'⟩ ⟨a, b, c⟩ v2 v1 lo2 hi2
   exact ⟨r, j, st _ (Ev.congr (fun k => if_pos hg) h1), h2⟩
  ·obtain ⟨r, j, h1, h2⟩ := cc_Interval.j1_ok L m (by omega) ih l i3 hst3 hc hl ⟨a, b, c⟩ ⟨a', b', c'⟩ v1 v2 lo1 hi1
   exact ⟨r, j, st _ (Ev.congr (fun k => if_neg hg) h1), h2⟩
structure IsDrawn (l : List S65) : Prop where
 ok : okI l = true
 few : (endsI l).length ≤ 7
theorem cc_Interval.ok {L : List Int} {i : Int} (h : StOk L i) : ∃ l j, Ev (fun k => cc_Interval.f k L i) (l, j) ∧ StOk L j ∧ IsDrawn l := by
 obtain ⟨r, j, hr, hst, h0, -, h3⟩ := cc_Int.ok h 3 (by omega)
 have h3 := h3 (by omega)
 obtain ⟨n, rfl⟩ := Int.eq_ofNat_of_zero_le h0
 have hw : wrap64 (1 + (n : Int)) = ((n + 1 : Nat) : Int) := by unfold wrap64; omega
 obtain ⟨l, j', h1, h2, h4, h5⟩ := cc_Interval.l0_ok L (n + 1) (by omega) [] j hst .nil (by simp [endsI])
 refine ⟨l, j', ?_, h2, okI_can.2 ⟨by have := lens h5; omega, h4⟩, h5⟩
 unfold cc_Interval.f
 rw [hr]
 simp only [Option.bind_some, hw]
 exact h1
theorem i_Has.ev (l : List S65) (hl : l.length < 4611686018427387904) (v : S24) : Ev (fun k => i_Has.f k l v.f0 v.f1 v.f2) (validS v && (okI l && inI l v)) := by
 unfold i_Has.f
 refine Ev.bind (v_Valid.ev _ _ _) ?_
 by_cases hv : validV v.f0 v.f1 v.f2 = true
 ·have hv' : validS v = true := hv
  simp only [hv, hv', if_true, Bool.true_and]
  refine Ev.bind (i_Valid.ev l) ?_
  by_cases ho : okI l = true
  ·simp only [ho, if_true, Bool.true_and]
   exact Ev.bind (i_contains.ev l hl v) (Ev.now _)
  ·simp only [Bool.eq_false_iff.2 ho, Bool.false_eq_true, if_false, Bool.false_and]
   exact Ev.now _
 ·have hv' : validS v = false := Bool.eq_false_iff.2 hv
  simp only [Bool.eq_false_iff.2 hv, hv', Bool.false_eq_true, if_false, Bool.false_and]
  exact Ev.now _
theorem i_Has.in_ {l : List S65} (hl : okI l = true) {v : S24} (hv : validS v = true) : Ev (fun k => i_Has.f k l v.f0 v.f1 v.f2) (inI l v) := by
 have := i_Has.ev l (by have := (okI_can.1 hl).1; omega) v
 rw [hv, hl, Bool.true_and, Bool.true_and] at this
 exact this
theorem i_Union.few {a b : List S65} (ha : okI a = true) (hb : okI b = true) (hn : 1 + (endsI a).length + (endsI b).length ≤ 64) : ∃ r, IsOp kOr a b r ∧ okI r = true ∧ Ev (fun k => i_Union.f k a b) (r, 0) := by
 obtain ⟨r, h1, h2, h3⟩ := i_combine.few kOr ha hb hn
 exact ⟨r, h1, h2, by unfold i_Union.f; exact Ev.bind h3 (Ev.now _)⟩
theorem i_Intersect.few {a b : List S65} (ha : okI a = true) (hb : okI b = true) (hn : 1 + (endsI a).length + (endsI b).length ≤ 64) : ∃ r, IsOp kAnd a b r ∧ okI r = true ∧ Ev (fun k => i_Intersect.f k a b) (r, 0) := by
 obtain ⟨r, h1, h2, h3⟩ := i_combine.few kAnd ha hb hn
 exact ⟨r, h1, h2, by unfold i_Intersect.f; exact Ev.bind h3 (Ev.now _)⟩
theorem i_Complement.few {a : List S65} (ha : okI a = true) (hn : 1 + (endsI a).length ≤ 64) : ∃ r, IsOp kNot a [] r ∧ okI r = true ∧ Ev (fun k => i_Complement.f k a) (r, 0) := by
 obtain ⟨r, h1, h2, h3⟩ := i_combine.few kNot ha (b := []) (by decide) (by simpa [endsI] using hn)
 exact ⟨r, h1, h2, by unfold i_Complement.f; exact Ev.bind h3 (Ev.now _)⟩
instance : DecidableEq S65 := fun x y => decidable_of_iff (x.f0 = y.f0 ∧ x.f1 = y.f1 ∧ x.f2 = y.f2) ⟨fun h => by cases x; cases y; simp only [S65.mk.injEq]; exact h, fun h => h ▸ ⟨rfl, rfl, rfl⟩⟩
theorem neS65 (x y : S65) : ((!(x.f0.f0 == y.f0.f0) || (!(x.f0.f1 == y.f0.f1) || !(x.f0.f2.toList == y.f0.f2.toList))) || ((!(x.f1.f0 == y.f1.f0) || (!(x.f1.f1 == y.f1.f1) || !(x.f1.f2.toList == y.f1.f2.toList))) || !(x.f2 == y.f2))) = !decide (x = y) := by
 by_cases h : x = y
 ·subst h; simp
 ·rw [decide_eq_false h, Bool.not_false]
  refine Classical.byContradiction fun c => h ?_
  have c := Bool.eq_false_iff.2 c
  simp only [Bool.or_eq_false_iff, Bool.not_eq_false', beq_iff_eq] at c
  obtain ⟨⟨c1, c2, c3⟩, ⟨c4, c5, c6⟩, c7⟩ := c
  cases x; cases y
  simp only [S65.mk.injEq]
  exact ⟨S24.ext_ c1 c2 c3, S24.ext_ c4 c5 c6, c7⟩
theorem r3_Same.l0_ev (l m : List S65) (hlm : l.length = m.length) (hl : l.length < 4611686018427387904) : ∀ (n i : Nat), l.length - i = n → i ≤ l.length → Ev (fun k => r3_Same.l0 k l m l.length i) (decide (l.drop i = m.drop i)) := by
 intro n
 induction n with
 | zero =>
  intro i hn hi
  rw [List.drop_eq_nil_iff.2 (by omega : l.length ≤ i), List.drop_eq_nil_iff.2 (by omega : m.length ≤ i)]
  rw [decide_eq_true (rfl : ([] : List S65) = [])]
  exact Ev.step (fun k => by rw [r3_Same.l0, if_neg (by omega)]) (Ev.now _)
 | succ n ih =>
  intro i hn hi
  have hil : i < l.length := by omega
  have him : i < m.length := by omega
  have hw : wrap64 ((i : Int) + 1) = ((i + 1 : Nat) : Int) := wrap64_succ (by omega)
  refine Ev.step (fun k => by rw [r3_Same.l0, if_pos (by omega), if_pos (by omega), if_pos (by omega), if_pos (by omega), rd_T65_nat l i hil, rd_T65_nat m i him, hw, neS65]) ?_
  rw [List.drop_eq_getElem_cons hil, List.drop_eq_getElem_cons him]
  by_cases h : l[i] = m[i]
  ·simp only [h, decide_true, Bool.not_true, Bool.false_eq_true, if_false, List.cons.injEq, true_and]
   exact ih (i + 1) (by omega) (by omega)
  ·simp only [h, decide_false, Bool.not_false, if_true, List.cons.injEq, false_and]
   exact Ev.now _
theorem r3_Same.ev (l m : List S65) (hl : l.length < 4611686018427387904) : Ev (fun k => r3_Same.f k l m) (decide (l = m)) := by
 unfold r3_Same.f
 by_cases h : l.length = m.length
 ·refine Ev.congr (fun k => if_pos (by omega)) ?_
  exact r3_Same.l0_ev l m h hl l.length 0 rfl (Nat.zero_le _)
 ·refine Ev.congr (fun k => if_neg (by omega)) ?_
  rw [decide_eq_false (fun e : l = m => h (by rw [e]))]
  exact Ev.now _
theorem r3_Same.yes {l m : List S65} (h : l = m) (hl : l.length < 4611686018427387904) : Ev (fun k => r3_Same.f k l m) true := by
 have := r3_Same.ev l m hl
 rw [decide_eq_true h] at this
 exact this
theorem okI_len {l : List S65} (h : okI l = true) : l.length < 4611686018427387904 := by have := (okI_can.1 h).1; omega
def iV (n : Int) : S24 := ⟨4, n, ⟨#[]⟩⟩
theorem iV_valid (n : Int) : validS (iV n) = true := validV_low (a := 4) (b := n) (by omega)
theorem iV_lt {a b : Int} : ltV (iV a) (iV b) ↔ a < b := by
 constructor
 ·rintro (h | ⟨_, h | ⟨_, h⟩⟩)
  ·have h : (4 : Int) < 4 := h
   omega
  ·exact h
  ·exact absurd h (by unfold iV; exact List.lt_irrefl _)
 ·exact fun h => .inr ⟨rfl, .inl h⟩
theorem inI_one (x : S65) (v : S24) : inI [x] v = oneI x v := by rw [inI_cons]; exact Bool.or_false _
theorem l3_begun.ev : Ev (fun k => l3_begun.f k) true := by
 unfold l3_begun.f l3_num.f
 simp only [Option.bind_some]
 obtain ⟨a, -, ea, ca, la, ha⟩ := Between.ok (iV_valid 1) (iV_valid 3)
 have ha := ha (iV_lt.2 (by omega))
 obtain ⟨b, -, eb, cb, lb, hb⟩ := Between.ok (iV_valid 3) (iV_valid 5)
 have hb := hb (iV_lt.2 (by omega))
 refine Ev.bind ea (Ev.bind eb ?_)
 obtain ⟨r, hr, ho, er⟩ := i_Union.few (okI_can.2 ⟨by have := lens la; omega, ca⟩) (okI_can.2 ⟨by have := lens lb; omega, cb⟩) (by omega)
 refine Ev.bind er ?_
 have hr1 : r = [⟨iV 1, iV 5, false⟩] := by
  refine hr.can.unique (can_one (iV_valid 1) (iV_valid 5) (iV_lt.2 (by omega))) fun v hv => ?_
  rw [hr.mem v hv, ha, hb, Bool.eq_iff_iff]
  simp only [kOr, inI_one, Bool.or_eq_true, oneI_iff, Bool.false_eq_true, false_or]
  have h13 : ltV (iV 1) (iV 3) := iV_lt.2 (by omega)
  have h35 : ltV (iV 3) (iV 5) := iV_lt.2 (by omega)
  constructor
  ·rintro (⟨p, q⟩ | ⟨p, q⟩)
   ·exact ⟨p, ltV_trans q h35⟩
   ·exact ⟨le_le (le_of_lt h13) p, q⟩
  ·rintro ⟨p, q⟩
   by_cases c : ltV v (iV 3)
   ·exact .inl ⟨p, c⟩
   ·exact .inr ⟨c, q⟩
 subst hr1
 have e0 : rd_T65 [(⟨⟨4, 1, ⟨#[]⟩⟩, ⟨4, 5, ⟨#[]⟩⟩, false⟩ : S65)] 0 = ⟨⟨4, 1, ⟨#[]⟩⟩, ⟨4, 5, ⟨#[]⟩⟩, false⟩ := rfl
 simp only [iV, e0, if_true, List.length_singleton, beq_self_eq_true, Bool.and_self, Int.natCast_one, Int.zero_lt_one]
 refine Ev.bind (i_Valid.ev _) ?_
 have ho' : okI [(⟨⟨4, 1, ⟨#[]⟩⟩, ⟨4, 5, ⟨#[]⟩⟩, false⟩ : S65)] = true := ho
 simp only [ho', if_true]
 have hh := i_Has.in_ ho (iV_valid 3)
 have hi : inI [(⟨iV 1, iV 5, false⟩ : S65)] (iV 3) = true := by
  rw [inI_cons, (oneI_iff _ _).2 ⟨le_of_lt (iV_lt.2 (by omega)), .inr (iV_lt.2 (by omega))⟩]
  rfl
 rw [hi] at hh
 refine Ev.bind hh ?_
 simp only [if_true]
 exact Ev.congr (fun k => rfl) (Ev.now _)
theorem ev_one {α : Type} {g : Nat → Option α} {r q : α} (hm : ∀ k, LeO (g k) (g (k + 1))) (h : Ev g r) {k : Nat} (hk : g k = some q) : q = r := by
 obtain ⟨K, hK⟩ := h
 have h1 := at_rounds hm (Nat.le_max_left k K) hk
 rw [hK _ (Nat.le_max_right k K)] at h1
 exact (Option.some.inj h1).symm
theorem l3_begun.calls (k : Nat) (r : Bool) (w : World) (h : l3_begun.f k = some r) :
  Calls Try.prog 36 #[] w fun e w' => e = .returned (.bool r) ∧ Below w.heap.size w w' :=
 l3_begun.callsT k r w h ⟨ev_one l3_begun.mono l3_begun.ev h⟩
def l3_not.f (k : Nat) (l0 : List (S65)) : Option ((List (S65))) := (i_Complement.f k l0).bind fun bt1016 => (some bt1016.1)
set_option maxHeartbeats 8000000 in
set_option maxRecDepth 100000 in
theorem l3_not.calls (k : Nat) (A0 : Option Addr) (c0 : Nat) (l0 : List (S65)) (r : List (S65)) (w : World) (hr0 : Kd.C k65 w A0 l0.length l0) (hc0 : l0.length ≤ c0) (h : l3_not.f k l0 = some r) :
  Calls Try.prog 65 #[.slice A0 l0.length c0] w fun e w' => ∃ v0_ : Value, e = .returned (v0_) ∧ Kd.R k65 65 w' w.heap.size (fun _ => True) v0_ r ∧ Below w.heap.size w w' := by
 have HR0 := Aside0.mk hr0
 have HC0 := Aside0.mk hc0
 clear hr0 hc0
 have HB := aK (Below.refl w.heap.size w)
 have H : ((i_Complement.f k l0).bind fun bt1016 => (some bt1016.1)) = some r := h
 clear h
 obtain ⟨⟨t1016, t1017⟩, A2, H⟩ := oB H
 try dsimp only at H
 obtain rfl := Option.some.inj H
 go_enter Try.func65, Try.ntmps65
 go_wp2_with (first | ((with_reducible refine gate_callee (f := 33) rfl ?_); refine gL (some 7) rfl Try.func33 #[.slice A0 l0.length c0] rfl ?_; (with_reducible refine (i_Complement.calls k _ _ l0 t1016 t1017 _ ?side1 ?side2 A2.out).mono ?_); (case side1 => exact cX HR0.out); (case side2 => exact HC0.out); rintro e w3 ⟨v1018, rfl, ho0, hb⟩; refine ⟨_, rfl, ?_⟩; have n0_ := aK (Kd.R_lower ho0 (below_size bO)); have n1_ := aK (below_step bO hb); clear HB; have HO1019 := n0_; have HB := n1_; clear n0_ n1_; (try clear hb ho0)))
 go_ret
 exact ⟨_, eW, by (with_reducible repeat (first | apply Kd.R_alloc | apply Kd.R_drewN | apply Kd.R_drew)); exact HO1019.out, bO⟩
def l3_or.f (k : Nat) (l0 : List (S65)) (l1 : List (S65)) : Option ((List (S65))) := (i_Union.f k l0 l1).bind fun bt1020 => (some bt1020.1)
set_option maxHeartbeats 8000000 in
set_option maxRecDepth 100000 in
theorem l3_or.calls (k : Nat) (A0 : Option Addr) (c0 : Nat) (l0 : List (S65)) (A1 : Option Addr) (c1 : Nat) (l1 : List (S65)) (r : List (S65)) (w : World) (hr0 : Kd.C k65 w A0 l0.length l0) (hc0 : l0.length ≤ c0) (hr1 : Kd.C k65 w A1 l1.length l1) (hc1 : l1.length ≤ c1) (h : l3_or.f k l0 l1 = some r) :
  Calls Try.prog 66 #[.slice A0 l0.length c0, .slice A1 l1.length c1] w fun e w' => ∃ v0_ : Value, e = .returned (v0_) ∧ Kd.R k65 65 w' w.heap.size (fun _ => True) v0_ r ∧ Below w.heap.size w w' := by
 have HR0 := Aside0.mk hr0
 have HC0 := Aside0.mk hc0
 clear hr0 hc0
 have HR1 := Aside0.mk hr1
 have HC1 := Aside0.mk hc1
 clear hr1 hc1
 have HB := aK (Below.refl w.heap.size w)
 have H : ((i_Union.f k l0 l1).bind fun bt1020 => (some bt1020.1)) = some r := h
 clear h
 obtain ⟨⟨t1020, t1021⟩, A3, H⟩ := oB H
 try dsimp only at H
 obtain rfl := Option.some.inj H
 go_enter Try.func66, Try.ntmps66
 go_wp2_with (first | ((with_reducible refine gate_callee (f := 30) rfl ?_); refine gL (some 10) rfl Try.func30 #[.slice A0 l0.length c0, .slice A1 l1.length c1] rfl ?_; (with_reducible refine (i_Union.calls k _ _ l0 _ _ l1 t1020 t1021 _ ?side1 ?side2 ?side3 ?side4 A3.out).mono ?_); (case side1 => exact cX HR0.out); (case side2 => exact HC0.out); (case side3 => exact cX HR1.out); (case side4 => exact HC1.out); rintro e w4 ⟨v1022, rfl, ho0, hb⟩; refine ⟨_, rfl, ?_⟩; have n0_ := aK (Kd.R_lower ho0 (below_size bO)); have n1_ := aK (below_step bO hb); clear HB; have HO1023 := n0_; have HB := n1_; clear n0_ n1_; (try clear hb ho0)))
 go_ret
 exact ⟨_, eW, by (with_reducible repeat (first | apply Kd.R_alloc | apply Kd.R_drewN | apply Kd.R_drew)); exact HO1023.out, bO⟩
def l3_and.f (k : Nat) (l0 : List (S65)) (l1 : List (S65)) : Option ((List (S65))) := (i_Intersect.f k l0 l1).bind fun bt1024 => (some bt1024.1)
set_option maxHeartbeats 8000000 in
set_option maxRecDepth 100000 in
theorem l3_and.calls (k : Nat) (A0 : Option Addr) (c0 : Nat) (l0 : List (S65)) (A1 : Option Addr) (c1 : Nat) (l1 : List (S65)) (r : List (S65)) (w : World) (hr0 : Kd.C k65 w A0 l0.length l0) (hc0 : l0.length ≤ c0) (hr1 : Kd.C k65 w A1 l1.length l1) (hc1 : l1.length ≤ c1) (h : l3_and.f k l0 l1 = some r) :
  Calls Try.prog 67 #[.slice A0 l0.length c0, .slice A1 l1.length c1] w fun e w' => ∃ v0_ : Value, e = .returned (v0_) ∧ Kd.R k65 65 w' w.heap.size (fun _ => True) v0_ r ∧ Below w.heap.size w w' := by
 have HR0 := Aside0.mk hr0
 have HC0 := Aside0.mk hc0
 clear hr0 hc0
 have HR1 := Aside0.mk hr1
 have HC1 := Aside0.mk hc1
 clear hr1 hc1
 have HB := aK (Below.refl w.heap.size w)
 have H : ((i_Intersect.f k l0 l1).bind fun bt1024 => (some bt1024.1)) = some r := h
 clear h
 obtain ⟨⟨t1024, t1025⟩, A3, H⟩ := oB H
 try dsimp only at H
 obtain rfl := Option.some.inj H
 go_enter Try.func67, Try.ntmps67
 go_wp2_with (first | ((with_reducible refine gate_callee (f := 31) rfl ?_); refine gL (some 10) rfl Try.func31 #[.slice A0 l0.length c0, .slice A1 l1.length c1] rfl ?_; (with_reducible refine (i_Intersect.calls k _ _ l0 _ _ l1 t1024 t1025 _ ?side1 ?side2 ?side3 ?side4 A3.out).mono ?_); (case side1 => exact cX HR0.out); (case side2 => exact HC0.out); (case side3 => exact cX HR1.out); (case side4 => exact HC1.out); rintro e w4 ⟨v1026, rfl, ho0, hb⟩; refine ⟨_, rfl, ?_⟩; have n0_ := aK (Kd.R_lower ho0 (below_size bO)); have n1_ := aK (below_step bO hb); clear HB; have HO1027 := n0_; have HB := n1_; clear n0_ n1_; (try clear hb ho0)))
 go_ret
 exact ⟨_, eW, by (with_reducible repeat (first | apply Kd.R_alloc | apply Kd.R_drewN | apply Kd.R_drew)); exact HO1027.out, bO⟩
end Go.Proofs.Ytpjcdacnhalclaa.Q
