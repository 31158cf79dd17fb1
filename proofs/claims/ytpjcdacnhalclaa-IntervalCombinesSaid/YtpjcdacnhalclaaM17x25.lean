/- A part of a proof: facts of functions that the law calls; conditions stand in each. -/
import Derived.Test.YtpjcdacnhalclaaM17x3
import Derived.Test.YtpjcdacnhalclaaM17x22
import Derived.Test.YtpjcdacnhalclaaM17x10
import Derived.Test.YtpjcdacnhalclaaM17x23
import Derived.Test.YtpjcdacnhalclaaM17x11
import Derived.Test.YtpjcdacnhalclaaM17x13
import Derived.Test.YtpjcdacnhalclaaM17x15
import Derived.Test.YtpjcdacnhalclaaM17x21
import Derived.Test.YtpjcdacnhalclaaM17x7
import Derived.Test.YtpjcdacnhalclaaM17x24
import Derived.Test.YtpjcdacnhalclaaM17x8
import Derived.Test.YtpjcdacnhalclaaM17x17
import Derived.Test.YtpjcdacnhalclaaM17x5
set_option linter.unusedVariables false
set_option linter.unusedSimpArgs false
namespace Go.Proofs.Ytpjcdacnhalclaa.Q
open Go.RowKit Go.Proofs.YtpjcdacnhalclaaW.PrintWords Go.Proofs.YtpjcdacnhalclaaW.PrintLast Go.Proofs.YtpjcdacnhalclaaW.PrintMore
attribute [local go_sem] max2_int min2_int max_two min_two max_three min_three max_four min_four
theorem can_one {s t : S24} (hs : validS s = true) (ht : validS t = true) (h : ltV s t) : Can [⟨s, t, false⟩] := .cons s t [] hs ht h (by simp) .nil
theorem r3_From.ok {x : S24} (hv : validS x = true) : Ev (fun k => r3_From.f k x.f0 x.f1 x.f2) ([⟨x, zS, true⟩], 0) := by
 unfold r3_From.f
 refine Ev.bind (r1_Valid.ev _ _ _) ?_
 have hv : validV x.f0 x.f1 x.f2 = true := hv
 simp only [hv, if_true]
 exact Ev.now _
theorem One.ok {x : S24} (hv : validS x = true) (lo : -9223372036854775808 ≤ x.f1) (hi : x.f1 ≤ 9223372036854775807) : ∃ l, Ev (fun k => r3_One.f k x.f0 x.f1 x.f2) (l, 0) ∧ Ev (fun k => i_One.f k x.f0 x.f1 x.f2) (l, 0) ∧ Can l ∧ (endsI l).length ≤ 2 := by
 have hv' : validV x.f0 x.f1 x.f2 = true := hv
 rcases v_Next.ok x hv' lo hi with ⟨y, hy, h1, h2⟩ | ⟨_, h1, h2⟩
 ·refine ⟨[⟨x, y, false⟩], ?_, ?_, can_one hv hy.valid hy.up, by simp [endsI]⟩
  ·unfold r3_One.f
   refine Ev.bind (r1_Valid.ev _ _ _) ?_
   simp only [hv', if_true]
   exact Ev.bind h2 (Ev.now _)
  ·unfold i_One.f
   refine Ev.bind (v_Valid.ev _ _ _) ?_
   simp only [hv', if_true]
   exact Ev.bind h1 (Ev.now _)
 ·refine ⟨[⟨x, zS, true⟩], ?_, ?_, .last _ hv, by simp [endsI]⟩
  ·unfold r3_One.f
   refine Ev.bind (r1_Valid.ev _ _ _) ?_
   simp only [hv', if_true]
   exact Ev.bind h2 (Ev.now _)
  ·unfold i_One.f
   refine Ev.bind (v_Valid.ev _ _ _) ?_
   simp only [hv', if_true]
   refine Ev.bind h1 ?_
   simp only [Bool.false_eq_true, if_false]
   exact Ev.now _
theorem Between.ok {x y : S24} (hx : validS x = true) (hy : validS y = true) : ∃ l, Ev (fun k => r3_Between.f k x.f0 x.f1 x.f2 y.f0 y.f1 y.f2) (l, 0) ∧ Ev (fun k => i_Between.f k x.f0 x.f1 x.f2 y.f0 y.f1 y.f2) (l, 0) ∧ Can l ∧ (endsI l).length ≤ 2 ∧ (ltV x y → l = [⟨x, y, false⟩]) := by
 have hx' : validV x.f0 x.f1 x.f2 = true := hx
 have hy' : validV y.f0 y.f1 y.f2 = true := hy
 have a : ∀ l, (if cmpV x y ≥ 0 then (([] : List S65), (0 : Int)) else ([⟨x, y, false⟩], 0)) = l → Ev (fun k => r3_Between.f k x.f0 x.f1 x.f2 y.f0 y.f1 y.f2) l ∧ Ev (fun k => i_Between.f k x.f0 x.f1 x.f2 y.f0 y.f1 y.f2) l := by
  rintro l rfl
  constructor
  ·unfold r3_Between.f
   refine Ev.bind (r1_Valid.ev _ _ _) ?_
   simp only [hx', if_true]
   refine Ev.bind (r1_Valid.ev _ _ _) ?_
   simp only [hy', Bool.not_true]
   refine Ev.step (fun k => by rw [r3_Between.j0, if_neg (by decide), r1_Compare.some_, Option.bind_some]) ?_
   by_cases hc : cmpV x y ≥ 0
   ·simp only [hc, if_true]; exact Ev.now _
   ·simp only [hc, if_false]; exact Ev.now _
  ·unfold i_Between.f
   refine Ev.bind (v_Valid.ev _ _ _) ?_
   simp only [hx', if_true]
   refine Ev.bind (v_Valid.ev _ _ _) ?_
   simp only [hy', Bool.not_true]
   refine Ev.step (fun k => by rw [i_Between.j0, if_neg (by decide), v_Compare.some_, Option.bind_some]) ?_
   by_cases hc : cmpV x y ≥ 0
   ·simp only [hc, if_true]; exact Ev.now _
   ·simp only [hc, if_false]; exact Ev.now _
 by_cases hc : cmpV x y ≥ 0
 ·have := a ([], 0) (by rw [if_pos hc])
  exact ⟨[], this.1, this.2, .nil, by simp [endsI], fun h => absurd (cmpV_lt.2 h) (by omega)⟩
 ·have := a ([⟨x, y, false⟩], 0) (by rw [if_neg hc])
  exact ⟨_, this.1, this.2, can_one hx hy (cmpV_lt.1 (by omega)), by simp [endsI], fun _ => rfl⟩
theorem lens {l : List S65} {n : Nat} (h : (endsI l).length ≤ n) : l.length ≤ n := Nat.le_trans (len_ends l) h
theorem cc_Interval.j1_ok (L : List Int) (m : Nat) (hm : m ≤ 2) (ih : ∀ (l : List S65) (i : Int), StOk L i → Can l → (endsI l).length ≤ 6 - 2 * m → ∃ r j, Ev (fun k => cc_Interval.l0 k l m L i) (r, j) ∧ StOk L j ∧ Can r ∧ (endsI r).length ≤ 7)
  (l : List S65) (i : Int) (hst : StOk L i) (hc : Can l) (hl : (endsI l).length ≤ 6 - 2 * (m + 1)) (x y : S24) (hx : validS x = true) (hy : validS y = true) (lo : -9223372036854775808 ≤ x.f1) (hi : x.f1 ≤ 9223372036854775807) :
  ∃ r j, Ev (fun k => cc_Interval.j1 k l ((m + 1 : Nat) : Int) L i x.f0 x.f1 x.f2 y.f0 y.f1 y.f2) (r, j) ∧ StOk L j ∧ Can r ∧ (endsI r).length ≤ 7 := by
 obtain ⟨r, j, hr, hst2, -⟩ := cc_Int.ok hst 5 (by omega)
 have hw : wrap64 (((m + 1 : Nat) : Int) - 1) = (m : Int) := by unfold wrap64; omega
 have go : ∀ (u : List S65), Can u → (endsI u).length ≤ 2 → ∃ r' j', Ev (fun k => (r3_Combine.f k 1 l u).bind fun t => cc_Interval.l0 k t m L j) (r', j') ∧ StOk L j' ∧ Can r' ∧ (endsI r').length ≤ 7 := by
  intro u hu hul
  obtain ⟨q, hq, hql, he⟩ := r3_Combine.op 1 (by have := lens hl; omega) (by have := lens hul; omega) hc hu
  obtain ⟨r', j', h1, h2⟩ := ih q j hst2 hq.can (by omega)
  exact ⟨r', j', Ev.bind he h1, h2⟩
 have st : ∀ (res : List S65 × Int), Ev (fun k => if r = 0 then ((r3_From.f k x.f0 x.f1 x.f2).bind fun bt463 => ((r3_Combine.f k 1 l bt463.1).bind fun t467 => (cc_Interval.l0 k t467 m L j))) else (if r = 1 then ((r3_One.f k x.f0 x.f1 x.f2).bind fun bt470 => ((r3_Combine.f k 1 l bt470.1).bind fun t474 => (cc_Interval.l0 k t474 m L j))) else ((r3_Between.f k x.f0 x.f1 x.f2 y.f0 y.f1 y.f2).bind fun bt477 => ((r3_Combine.f k 1 l bt477.1).bind fun t481 => (cc_Interval.l0 k t481 m L j))))) res → Ev (fun k => cc_Interval.j1 k l ((m + 1 : Nat) : Int) L i x.f0 x.f1 x.f2 y.f0 y.f1 y.f2) res :=
  fun res h => Ev.step (fun k => by rw [cc_Interval.j1, hr, Option.bind_some, hw]) h
 by_cases h0 : r = 0
 ·obtain ⟨r', j', h1, h2⟩ := go _ (.last x hx) (by simp [endsI])
  refine ⟨r', j', st _ (Ev.congr (fun k => if_pos h0) (Ev.bind (r3_From.ok hx) h1)), h2⟩
 ·by_cases h1 : r = 1
  ·obtain ⟨u, hu, -, cu, lu⟩ := One.ok hx lo hi
   obtain ⟨r', j', h3, h2⟩ := go _ cu lu
   refine ⟨r', j', st _ (Ev.congr (fun k => (if_neg h0).trans (if_pos h1)) (Ev.bind hu h3)), h2⟩
  ·obtain ⟨u, hu, -, cu, lu, -⟩ := Between.ok hx hy
   obtain ⟨r', j', h3, h2⟩ := go _ cu lu
   refine ⟨r', j', st _ (Ev.congr (fun k => (if_neg h0).trans (if_neg h1)) (Ev.bind hu h3)), h2⟩
theorem cc_Interval.l0_ok (L : List Int) : ∀ (m : Nat), m ≤ 3 → ∀ (l : List S65) (i : Int), StOk L i → Can l → (endsI l).length ≤ 6 - 2 * m → ∃ r j, Ev (fun k => cc_Interval.l0 k l m L i) (r, j) ∧ StOk L j ∧ Can r ∧ (endsI r).length ≤ 7
 | 0, _, l, i, hst, hc, hl => by
  obtain ⟨b, j, hb, hst2⟩ := cc_Bool.ok hst 4 (by omega) (by omega)
  by_cases hbt : b = true
  ·obtain ⟨r, hr, hrl, he⟩ := r3_Combine.op 3 (a := [⟨leastS, zS, true⟩]) (by simp) (by have := lens hl; omega) (.last _ least_valid) hc
   refine ⟨r, j, ?_, hst2, hr.can, ?_⟩
   ·refine Ev.step (fun k => by rw [cc_Interval.l0, if_neg (by omega), hb, Option.bind_some, if_pos hbt, r3_All.f, Option.bind_some]) ?_
    exact Ev.bind he (Ev.now _)
   ·have : (endsI [(⟨leastS, zS, true⟩ : S65)]).length = 1 := rfl
    omega
  ·refine ⟨l, j, ?_, hst2, hc, by omega⟩
   exact Ev.step (fun k => by rw [cc_Interval.l0, if_neg (by omega), hb, Option.bind_some, if_neg hbt]) (Ev.now _)
 | m + 1, hm, l, i, hst, hc, hl => by
  obtain ⟨a, b, c, i2, e1, hst2, v1, lo1, hi1⟩ := cc_Any.ok hst
  obtain ⟨a', b', c', i3, e2, hst3, v2, lo2, hi2⟩ := cc_Any.ok hst2
  have ih := cc_Interval.l0_ok L m (by omega)
  have hcmp := r1_Compare.some_ ⟨a, b, c⟩ ⟨a', b', c'⟩
  have st : ∀ (res : List S65 × Int), Ev (fun k => if cmpV ⟨a, b, c⟩ ⟨a', b', c'⟩ > 0 then cc_Interval.j1 k l ((m + 1 : Nat) : Int) L i3 a' b' c' a b c else cc_Interval.j1 k l ((m + 1 : Nat) : Int) L i3 a b c a' b' c') res → Ev (fun k => cc_Interval.l0 k l ((m + 1 : Nat) : Int) L i) res := by
   intro res h
   refine Ev.step (fun k => by rw [cc_Interval.l0, if_pos (by omega)]) ?_
   refine Ev.bind e1 (Ev.bind e2 ?_)
   dsimp only at hcmp
   simp only [hcmp, Option.bind_some]
   exact h
  by_cases hg : cmpV ⟨a, b, c⟩ ⟨a', b', c'⟩ > 0
  ·obtain ⟨r, j, h1, h2⟩ := cc_Interval.j1_ok L m (by omega) ih l i3 hst3 hc hl ⟨a', b', c'⟩ ⟨a, b, c⟩ v2 v1 lo2 hi2
   exact ⟨r, j, st _ (Ev.congr (fun k => if_pos hg) h1), h2⟩
  ·obtain ⟨r, j, h1, h2⟩ := cc_Interval.j1_ok L m (by omega) ih l i3 hst3 hc hl ⟨a, b, c⟩ ⟨a', b', c'⟩ v1 v2 lo1 hi1
   exact ⟨r, j, st _ (Ev.congr (fun k => if_neg hg) h1), h2⟩
structure IsDrawn (l : List S65) : Prop where
 ok : okI l = true
 few : (endsI l).length ≤ 7
theorem cc_Interval.ok {L : List Int} {i : Int} (h : StOk L i) : ∃ l j, Ev (fun k => cc_Interval.f k L i) (l, j) ∧ StOk L j ∧ IsDrawn l := by
 obtain ⟨r, j, hr, hst, h0, -, h3⟩ := cc_Int.ok h 3 (by omega)
 have h3 := h3 (by omega)
 obtain ⟨n, rfl⟩ := Int.eq_ofNat_of_zero_le h0
 have hw : wrap64 (1 + (n : Int)) = ((n + 1 : Nat) : Int) := by unfold wrap64; omega
 obtain ⟨l, j', h1, h2, h4, h5⟩ := cc_Interval.l0_ok L (n + 1) (by omega) [] j hst .nil (by simp [endsI])
 refine ⟨l, j', ?_, h2, okI_can.2 ⟨by have := lens h5; omega, h4⟩, h5⟩
 unfold cc_Interval.f
 rw [hr]
 simp only [Option.bind_some, hw]
 exact h1
theorem i_Has.ev (l : List S65) (hl : l.length < 4611686018427387904) (v : S24) : Ev (fun k => i_Has.f k l v.f0 v.f1 v.f2) (validS v && (okI l && inI l v)) := by
 unfold i_Has.f
 refine Ev.bind (v_Valid.ev _ _ _) ?_
 by_cases hv : validV v.f0 v.f1 v.f2 = true
 ·have hv' : validS v = true := hv
  simp only [hv, hv', if_true, Bool.true_and]
  refine Ev.bind (i_Valid.ev l) ?_
  by_cases ho : okI l = true
  ·simp only [ho, if_true, Bool.true_and]
   exact Ev.bind (i_contains.ev l hl v) (Ev.now _)
  ·simp only [Bool.eq_false_iff.2 ho, Bool.false_eq_true, if_false, Bool.false_and]
   exact Ev.now _
 ·have hv' : validS v = false := Bool.eq_false_iff.2 hv
  simp only [Bool.eq_false_iff.2 hv, hv', Bool.false_eq_true, if_false, Bool.false_and]
  exact Ev.now _
theorem i_Has.in_ {l : List S65} (hl : okI l = true) {v : S24} (hv : validS v = true) : Ev (fun k => i_Has.f k l v.f0 v.f1 v.f2) (inI l v) := by
 have := i_Has.ev l (by have := (okI_can.1 hl).1; omega) v
 rw [hv, hl, Bool.true_and, Bool.true_and] at this
 exact this
theorem i_Covers.ok {a b : List S65} (ha : okI a = true) (hb : okI b = true) : ∃ r, IsOp kCov a b r ∧ Ev (fun k => i_Covers.f k a b) (((r.length : Int) == 0), 0) := by
 obtain ⟨r, hr, e⟩ := i_merge.op kCov ha hb
 refine ⟨r, hr, ?_⟩
 unfold i_Covers.f
 refine Ev.bind (i_Valid.ev a) ?_
 simp only [ha, if_true]
 refine Ev.bind (i_Valid.ev b) ?_
 simp only [hb, if_true]
 exact Ev.bind e (Ev.now _)
theorem i_Union.few {a b : List S65} (ha : okI a = true) (hb : okI b = true) (hn : 1 + (endsI a).length + (endsI b).length ≤ 64) : ∃ r, IsOp kOr a b r ∧ okI r = true ∧ Ev (fun k => i_Union.f k a b) (r, 0) := by
 obtain ⟨r, h1, h2, h3⟩ := i_combine.few kOr ha hb hn
 exact ⟨r, h1, h2, by unfold i_Union.f; exact Ev.bind h3 (Ev.now _)⟩
instance : DecidableEq S65 := fun x y => decidable_of_iff (x.f0 = y.f0 ∧ x.f1 = y.f1 ∧ x.f2 = y.f2) ⟨fun h => by cases x; cases y; simp only [S65.mk.injEq]; exact h, fun h => h ▸ ⟨rfl, rfl, rfl⟩⟩
theorem neS65 (x y : S65) : ((!(x.f0.f0 == y.f0.f0) || (!(x.f0.f1 == y.f0.f1) || !(x.f0.f2.toList == y.f0.f2.toList))) || ((!(x.f1.f0 == y.f1.f0) || (!(x.f1.f1 == y.f1.f1) || !(x.f1.f2.toList == y.f1.f2.toList))) || !(x.f2 == y.f2))) = !decide (x = y) := by
 by_cases h : x = y
 ·subst h; simp
 ·rw [decide_eq_false h, Bool.not_false]
  refine Classical.byContradiction fun c => h ?_
  have c := Bool.eq_false_iff.2 c
  simp only [Bool.or_eq_false_iff, Bool.not_eq_false', beq_iff_eq] at c
  obtain ⟨⟨c1, c2, c3⟩, ⟨c4, c5, c6⟩, c7⟩ := c
  cases x; cases y
  simp only [S65.mk.injEq]
  exact ⟨S24.ext_ c1 c2 c3, S24.ext_ c4 c5 c6, c7⟩
theorem r3_Same.l0_ev (l m : List S65) (hlm : l.length = m.length) (hl : l.length < 4611686018427387904) : ∀ (n i : Nat), l.length - i = n → i ≤ l.length → Ev (fun k => r3_Same.l0 k l m l.length i) (decide (l.drop i = m.drop i)) := by
 intro n
 induction n with
 | zero =>
  intro i hn hi
  rw [List.drop_eq_nil_iff.2 (by omega : l.length ≤ i), List.drop_eq_nil_iff.2 (by omega : m.length ≤ i)]
  rw [decide_eq_true (rfl : ([] : List S65) = [])]
  exact Ev.step (fun k => by rw [r3_Same.l0, if_neg (by omega)]) (Ev.now _)
 | succ n ih =>
  intro i hn hi
  have hil : i < l.length := by omega
  have him : i < m.length := by omega
  have hw : wrap64 ((i : Int) + 1) = ((i + 1 : Nat) : Int) := wrap64_succ (by omega)
  refine Ev.step (fun k => by rw [r3_Same.l0, if_pos (by omega), if_pos (by omega), if_pos (by omega), if_pos (by omega), rd_T65_nat l i hil, rd_T65_nat m i him, hw, neS65]) ?_
  rw [List.drop_eq_getElem_cons hil, List.drop_eq_getElem_cons him]
  by_cases h : l[i] = m[i]
  ·simp only [h, decide_true, Bool.not_true, Bool.false_eq_true, if_false, List.cons.injEq, true_and]
   exact ih (i + 1) (by omega) (by omega)
  ·simp only [h, decide_false, Bool.not_false, if_true, List.cons.injEq, false_and]
   exact Ev.now _
theorem r3_Same.ev (l m : List S65) (hl : l.length < 4611686018427387904) : Ev (fun k => r3_Same.f k l m) (decide (l = m)) := by
 unfold r3_Same.f
 by_cases h : l.length = m.length
 ·refine Ev.congr (fun k => if_pos (by omega)) ?_
  exact r3_Same.l0_ev l m h hl l.length 0 rfl (Nat.zero_le _)
 ·refine Ev.congr (fun k => if_neg (by omega)) ?_
  rw [decide_eq_false (fun e : l = m => h (by rw [e]))]
  exact Ev.now _
theorem r3_Same.yes {l m : List S65} (h : l = m) (hl : l.length < 4611686018427387904) : Ev (fun k => r3_Same.f k l m) true := by
 have := r3_Same.ev l m hl
 rw [decide_eq_true h] at this
 exact this
def iV (n : Int) : S24 := ⟨4, n, ⟨#[]⟩⟩
theorem iV_valid (n : Int) : validS (iV n) = true := validV_low (a := 4) (b := n) (by omega)
theorem iV_lt {a b : Int} : ltV (iV a) (iV b) ↔ a < b := by
 constructor
 ·rintro (h | ⟨_, h | ⟨_, h⟩⟩)
  ·have h : (4 : Int) < 4 := h
   omega
  ·exact h
  ·exact absurd h (by unfold iV; exact List.lt_irrefl _)
 ·exact fun h => .inr ⟨rfl, .inl h⟩
theorem inI_one (x : S65) (v : S24) : inI [x] v = oneI x v := by rw [inI_cons]; exact Bool.or_false _
theorem l3_begun.ev : Ev (fun k => l3_begun.f k) true := by
 unfold l3_begun.f l3_num.f
 simp only [Option.bind_some]
 obtain ⟨a, -, ea, ca, la, ha⟩ := Between.ok (iV_valid 1) (iV_valid 3)
 have ha := ha (iV_lt.2 (by omega))
 obtain ⟨b, -, eb, cb, lb, hb⟩ := Between.ok (iV_valid 3) (iV_valid 5)
 have hb := hb (iV_lt.2 (by omega))
 refine Ev.bind ea (Ev.bind eb ?_)
 obtain ⟨r, hr, ho, er⟩ := i_Union.few (okI_can.2 ⟨by have := lens la; omega, ca⟩) (okI_can.2 ⟨by have := lens lb; omega, cb⟩) (by omega)
 refine Ev.bind er ?_
 have hr1 : r = [⟨iV 1, iV 5, false⟩] := by
  refine hr.can.unique (can_one (iV_valid 1) (iV_valid 5) (iV_lt.2 (by omega))) fun v hv => ?_
  rw [hr.mem v hv, ha, hb, Bool.eq_iff_iff]
  simp only [kOr, inI_one, Bool.or_eq_true, oneI_iff, Bool.false_eq_true, false_or]
  have h13 : ltV (iV 1) (iV 3) := iV_lt.2 (by omega)
  have h35 : ltV (iV 3) (iV 5) := iV_lt.2 (by omega)
  constructor
  ·rintro (⟨p, q⟩ | ⟨p, q⟩)
   ·exact ⟨p, ltV_trans q h35⟩
   ·exact ⟨le_le (le_of_lt h13) p, q⟩
  ·rintro ⟨p, q⟩
   by_cases c : ltV v (iV 3)
   ·exact .inl ⟨p, c⟩
   ·exact .inr ⟨c, q⟩
 subst hr1
 have e0 : rd_T65 [(⟨⟨4, 1, ⟨#[]⟩⟩, ⟨4, 5, ⟨#[]⟩⟩, false⟩ : S65)] 0 = ⟨⟨4, 1, ⟨#[]⟩⟩, ⟨4, 5, ⟨#[]⟩⟩, false⟩ := rfl
 simp only [iV, e0, if_true, List.length_singleton, beq_self_eq_true, Bool.and_self, Int.natCast_one, Int.zero_lt_one]
 refine Ev.bind (i_Valid.ev _) ?_
 have ho' : okI [(⟨⟨4, 1, ⟨#[]⟩⟩, ⟨4, 5, ⟨#[]⟩⟩, false⟩ : S65)] = true := ho
 simp only [ho', if_true]
 have hh := i_Has.in_ ho (iV_valid 3)
 have hi : inI [(⟨iV 1, iV 5, false⟩ : S65)] (iV 3) = true := by
  rw [inI_cons, (oneI_iff _ _).2 ⟨le_of_lt (iV_lt.2 (by omega)), .inr (iV_lt.2 (by omega))⟩]
  rfl
 rw [hi] at hh
 refine Ev.bind hh ?_
 simp only [if_true]
 exact Ev.congr (fun k => rfl) (Ev.now _)
theorem ev_one {α : Type} {g : Nat → Option α} {r q : α} (hm : ∀ k, LeO (g k) (g (k + 1))) (h : Ev g r) {k : Nat} (hk : g k = some q) : q = r := by
 obtain ⟨K, hK⟩ := h
 have h1 := at_rounds hm (Nat.le_max_left k K) hk
 rw [hK _ (Nat.le_max_right k K)] at h1
 exact (Option.some.inj h1).symm
theorem l3_begun.calls (k : Nat) (r : Bool) (w : World) (h : l3_begun.f k = some r) :
  Calls Try.prog 36 #[] w fun e w' => e = .returned (.bool r) ∧ Below w.heap.size w w' :=
 l3_begun.callsT k r w h ⟨ev_one l3_begun.mono l3_begun.ev h⟩
def enc65 (x : S65) : List Value := [.int .i64 x.f0.f0, .int .i64 x.f0.f1, .string x.f0.f2, .int .i64 x.f1.f0, .int .i64 x.f1.f1, .string x.f1.f2, .bool x.f2]
def cells65 (l : List S65) : List Value := l.flatMap enc65
theorem cells65_length (l : List S65) : (cells65 l).length = l.length * 7 := by
 induction l with
 | nil => rfl
 | cons a l ih => simp only [cells65, List.flatMap_cons, List.length_append, List.length_cons] at ih ⊢; rw [ih]; simp [enc65]; omega
theorem cells65_at : ∀ (l : List S65) (q : Nat) (hq : q < l.length), ((cells65 l).drop (q * 7)).take 7 = enc65 l[q]
 | [], _, hq => by simp at hq
 | a :: l, 0, _ => by simp [cells65, enc65]
 | a :: l, q + 1, hq => by
  have := cells65_at l q (by simpa using hq)
  simp only [cells65, List.flatMap_cons, List.getElem_cons_succ] at this ⊢
  rw [show (q + 1) * 7 = 7 + q * 7 from by omega, ← List.drop_drop]
  exact this
theorem cells65_set : ∀ (l : List S65) (q j : Nat) (u : Value) (x' : S65) (hq : q < l.length) (_ : (enc65 l[q]).set j u = enc65 x') (_ : j < 7), (cells65 l).set (q * 7 + j) u = cells65 (l.set q x')
 | [], _, _, _, _, hq, _, _ => by simp at hq
 | a :: l, 0, j, u, x', _, h, hj => by
  simp only [cells65, List.flatMap_cons, List.set_cons_zero, Nat.zero_mul, Nat.zero_add, List.getElem_cons_zero] at h ⊢
  rw [List.set_append_left _ _ (by show j < 7; exact hj), h]
 | a :: l, q + 1, j, u, x', hq, h, hj => by
  have := cells65_set l q j u x' (by simpa using hq) (by simpa using h) hj
  simp only [cells65, List.flatMap_cons, List.set_cons_succ] at this ⊢
  rw [List.set_append_right _ _ (by show 7 ≤ _; omega), ← this]
  congr 1
  show List.set _ ((q + 1) * 7 + j - 7) u = _
  rw [show (q + 1) * 7 + j - 7 = q * 7 + j from by omega]
def Own65 (W : World) (base g cap : Nat) (l : List S65) : Prop := ∃ cur : Array Value, base ≤ g ∧ W.heap[g]? = some (.cells cur 65 (0, 0)) ∧ l.length ≤ cap ∧ cap ≤ maxLen ∧ cur.size = cap * 7 ∧ cur.toList.take (l.length * 7) = cells65 l
theorem own65_open {W : World} {base : Nat} {P : Nat → Prop} {u : Value} {l : List S65} (h : Kd.R k65 65 W base P u l) (hne : l ≠ []) :
  ∃ g cap, u = .slice (some ⟨g, 0, none⟩) l.length cap ∧ base ≤ g ∧ Own65 W base g cap l := by
 obtain ⟨h0, inner, ⟨hil, ho⟩, hr1, hr2⟩ := h
 rcases ho with ⟨_, hn⟩ | ⟨g, cap, cur, rfl, hg, hW, hlc, hm, hs, hc⟩
 ·exact absurd (List.eq_nil_of_length_eq_zero hn) hne
 ·refine ⟨g, cap, rfl, hg, cur, hg, hW, hlc, hm, hs, ?_⟩
  have hc' : cur.toList.take (l.length * 7) = inner := hc
  rw [hc']
  have hil' : inner.length = l.length * 7 := hr1
  refine List.ext_getElem? fun t => ?_
  by_cases ht : t < l.length * 7
  ·have hq : t / 7 < l.length := by omega
   have e1 := k65_openM (hr2 (t / 7) _ (List.getElem?_eq_getElem hq))
   have e2 := cells65_at l (t / 7) hq
   have e3 : (inner.drop (t / 7 * 7)).take 7 = ((cells65 l).drop (t / 7 * 7)).take 7 := by rw [e2]; exact e1
   have := congrArg (fun z : List Value => z[t % 7]?) e3
   simp only [List.getElem?_take, List.getElem?_drop] at this
   rwa [if_pos (by omega), if_pos (by omega), show t / 7 * 7 + t % 7 = t by omega] at this
  ·rw [List.getElem?_eq_none (by omega), List.getElem?_eq_none (by rw [cells65_length]; omega)]
theorem Own65.row {W : World} {base g cap : Nat} {l : List S65} (h : Own65 W base g cap l) : Kd.R k65 65 W base (fun _ => True) (.slice (some ⟨g, 0, none⟩) l.length cap) l := by
 obtain ⟨cur, hg, hW, hlc, hm, hs, hc⟩ := h
 have hfl := cells65_length l
 refine ⟨fun k hk => trivial, cells65 l, ⟨hfl, .inr ⟨_, _, _, rfl, hg, hW, hlc, hm, hs, hc⟩⟩, hfl, ?_⟩
 intro j p hj
 obtain ⟨hj', rfl⟩ := List.getElem?_eq_some_iff.1 hj
 show k65.M _ _ _ _ ((List.drop (j * 7) (cells65 l)).take 7)
 rw [cells65_at l j hj']
 exact k65_mkM _ _ _ _
theorem Own65.keep {W W1 : World} {base g cap : Nat} {l : List S65} (h : Own65 W base g cap l) {gs : Nat} (hk : KeepBut W W1 gs none) (hne : g ≠ gs) : Own65 W1 base g cap l := by
 obtain ⟨cur, hg, hW, hr⟩ := h
 exact ⟨cur, hg, hk.blk hW hne (by simp), hr⟩
theorem Own65.lt {W : World} {base g cap : Nat} {l : List S65} (h : Own65 W base g cap l) : g < W.heap.size := by
 obtain ⟨cur, hg, hW, hr⟩ := h
 exact blk_lt hW
theorem Own65.at_ {W : World} {base g cap : Nat} {l : List S65} (h : Own65 W base g cap l) (q : Nat) (x : S65) (hq : l[q]? = some x) :
  W.cell? ⟨g, q * 7, none⟩ = some (.int .i64 x.f0.f0) ∧ W.cell? ⟨g, q * 7 + 1, none⟩ = some (.int .i64 x.f0.f1) ∧ W.cell? ⟨g, q * 7 + 2, none⟩ = some (.string x.f0.f2) ∧ W.cell? ⟨g, q * 7 + 3, none⟩ = some (.int .i64 x.f1.f0) ∧ W.cell? ⟨g, q * 7 + 4, none⟩ = some (.int .i64 x.f1.f1) ∧ W.cell? ⟨g, q * 7 + 5, none⟩ = some (.string x.f1.f2) ∧ W.cell? ⟨g, q * 7 + 6, none⟩ = some (.bool x.f2) ∧
   W.frozen? ⟨g, q * 7, none⟩ = false ∧ W.frozen? ⟨g, q * 7 + 1, none⟩ = false ∧ W.frozen? ⟨g, q * 7 + 2, none⟩ = false ∧ W.frozen? ⟨g, q * 7 + 3, none⟩ = false ∧ W.frozen? ⟨g, q * 7 + 4, none⟩ = false ∧ W.frozen? ⟨g, q * 7 + 5, none⟩ = false ∧ W.frozen? ⟨g, q * 7 + 6, none⟩ = false := by
 obtain ⟨cur, hg, hW, hlc, hm, hs, hc⟩ := h
 obtain ⟨hq', rfl⟩ := List.getElem?_eq_some_iff.1 hq
 have e := cells65_at l q hq'
 rw [← hc] at e
 have hx : ∀ j (hj : j < 7), cur[q * 7 + j]? = (enc65 l[q])[j]? := by
  intro j hj
  have := congrArg (fun z : List Value => z[j]?) e
  simp only [List.getElem?_take, List.getElem?_drop] at this
  rw [if_pos hj, if_pos (by omega)] at this
  rw [← Array.getElem?_toList]
  exact this
 have hf : ∀ j, W.frozen? ⟨g, j, none⟩ = false := fun j => blk_frozen hW j
 have hy : ∀ j (hj : j < 7), W.cell? ⟨g, q * 7 + j, none⟩ = (enc65 l[q])[j]? := fun j hj => (blk_cell hW _).trans (hx j hj)
 exact ⟨hy 0 (by omega), hy 1 (by omega), hy 2 (by omega), hy 3 (by omega), hy 4 (by omega), hy 5 (by omega), hy 6 (by omega), hf _, hf _, hf _, hf _, hf _, hf _, hf _⟩
theorem Own65.set {W : World} {base g cap : Nat} {l : List S65} (h : Own65 W base g cap l) (q j : Nat) (u : Value) (x x' : S65) (hq : l[q]? = some x) (hj : j < 7) (hx : (enc65 x).set j u = enc65 x') : Own65 (W.setCell ⟨g, q * 7 + j, none⟩ u) base g cap (l.set q x') := by
 obtain ⟨cur, hg, hW, hlc, hm, hs, hc⟩ := h
 obtain ⟨hq', rfl⟩ := List.getElem?_eq_some_iff.1 hq
 refine ⟨cur.setIfInBounds (q * 7 + j) u, hg, blk_set hW _ _, by rw [List.length_set]; exact hlc, hm, by rw [Array.size_setIfInBounds]; exact hs, ?_⟩
 rw [List.length_set, ← cells65_set l q j u x' hq' hx hj, ← hc, Array.toList_setIfInBounds, List.take_set]
theorem get_set_self {α : Type} (l : List α) (q : Nat) (x y : α) (h : l[q]? = some x) : (l.set q y)[q]? = some y := by
 obtain ⟨hq, _⟩ := List.getElem?_eq_some_iff.1 h
 rw [List.getElem?_set_self hq]
theorem Own65.setFrom {W : World} {base g cap : Nat} {l : List S65} (h : Own65 W base g cap l) (q : Nat) (x : S65) (hq : l[q]? = some x) (v : S24) : Own65 (((W.setCell ⟨g, q * 7, none⟩ (.int .i64 v.f0)).setCell ⟨g, q * 7 + 1, none⟩ (.int .i64 v.f1)).setCell ⟨g, q * 7 + 2, none⟩ (.string v.f2)) base g cap (l.set q ⟨v, x.f1, x.f2⟩) := by
 have h1 := h.set q 0 (.int .i64 v.f0) x ⟨⟨v.f0, x.f0.f1, x.f0.f2⟩, x.f1, x.f2⟩ hq (by omega) rfl
 have h2 := h1.set q 1 (.int .i64 v.f1) _ ⟨⟨v.f0, v.f1, x.f0.f2⟩, x.f1, x.f2⟩ (get_set_self l q x _ hq) (by omega) rfl
 have h3 := h2.set q 2 (.string v.f2) _ ⟨v, x.f1, x.f2⟩ (get_set_self _ q _ _ (get_set_self l q x _ hq)) (by omega) rfl
 rwa [List.set_set, List.set_set] at h3
theorem Own65.setTo {W : World} {base g cap : Nat} {l : List S65} (h : Own65 W base g cap l) (q : Nat) (x : S65) (hq : l[q]? = some x) (v : S24) : Own65 (((W.setCell ⟨g, q * 7 + 3, none⟩ (.int .i64 v.f0)).setCell ⟨g, q * 7 + 4, none⟩ (.int .i64 v.f1)).setCell ⟨g, q * 7 + 5, none⟩ (.string v.f2)) base g cap (l.set q ⟨x.f0, v, x.f2⟩) := by
 have h1 := h.set q 3 (.int .i64 v.f0) x ⟨x.f0, ⟨v.f0, x.f1.f1, x.f1.f2⟩, x.f2⟩ hq (by omega) rfl
 have h2 := h1.set q 4 (.int .i64 v.f1) _ ⟨x.f0, ⟨v.f0, v.f1, x.f1.f2⟩, x.f2⟩ (get_set_self l q x _ hq) (by omega) rfl
 have h3 := h2.set q 5 (.string v.f2) _ ⟨x.f0, v, x.f2⟩ (get_set_self _ q _ _ (get_set_self l q x _ hq)) (by omega) rfl
 rwa [List.set_set, List.set_set] at h3
theorem Own65.setAll {W : World} {base g cap : Nat} {l : List S65} (h : Own65 W base g cap l) (q : Nat) (x : S65) (hq : l[q]? = some x) (v : S65) :
  Own65 (((((((W.setCell ⟨g, q * 7, none⟩ (.int .i64 v.f0.f0)).setCell ⟨g, q * 7 + 1, none⟩ (.int .i64 v.f0.f1)).setCell ⟨g, q * 7 + 2, none⟩ (.string v.f0.f2)).setCell ⟨g, q * 7 + 3, none⟩ (.int .i64 v.f1.f0)).setCell ⟨g, q * 7 + 4, none⟩ (.int .i64 v.f1.f1)).setCell ⟨g, q * 7 + 5, none⟩ (.string v.f1.f2)).setCell ⟨g, q * 7 + 6, none⟩ (.bool v.f2)) base g cap (l.set q v) := by
 have h1 := (h.setFrom q x hq v.f0).setTo q _ (get_set_self l q x _ hq) v.f1
 rw [List.set_set] at h1
 have h2 := h1.set q 6 (.bool v.f2) _ v (get_set_self l q x _ hq) (by omega) rfl
 rwa [List.set_set] at h2
def Has65 (W : World) (g n : Nat) : Prop := ∃ cur : Array Value, W.heap[g]? = some (.cells cur 65 (0, 0)) ∧ n ≤ cur.size
theorem Has65.set {W : World} {g n : Nat} (h : Has65 W g n) (i : Nat) (v : Value) : Has65 (W.setCell ⟨g, i, none⟩ v) g n := by
 obtain ⟨cur, hW, hs⟩ := h
 exact ⟨_, blk_set hW i v, by rw [Array.size_setIfInBounds]; exact hs⟩
theorem Own65.swap {W : World} {base g cap : Nat} {l : List S65} (h : Own65 W base g cap l) (q : Nat) (h0 : 0 < l.length) (hq : q < l.length) (v u : S65) :
  Kd.R k65 65 ((((((((((((((W.setCell ⟨g, 0, none⟩ (.int .i64 v.f0.f0)).setCell ⟨g, 1, none⟩ (.int .i64 v.f0.f1)).setCell ⟨g, 2, none⟩ (.string v.f0.f2)).setCell ⟨g, 3, none⟩ (.int .i64 v.f1.f0)).setCell ⟨g, 4, none⟩ (.int .i64 v.f1.f1)).setCell ⟨g, 5, none⟩ (.string v.f1.f2)).setCell ⟨g, 6, none⟩ (.bool v.f2)).setCell ⟨g, q * 7, none⟩ (.int .i64 u.f0.f0)).setCell ⟨g, q * 7 + 1, none⟩ (.int .i64 u.f0.f1)).setCell ⟨g, q * 7 + 2, none⟩ (.string u.f0.f2)).setCell ⟨g, q * 7 + 3, none⟩ (.int .i64 u.f1.f0)).setCell ⟨g, q * 7 + 4, none⟩ (.int .i64 u.f1.f1)).setCell ⟨g, q * 7 + 5, none⟩ (.string u.f1.f2)).setCell ⟨g, q * 7 + 6, none⟩ (.bool u.f2)) base (fun _ => True) (.slice (some ⟨g, 0, none⟩) l.length cap) ((l.set 0 v).set q u) := by
 have h1 := h.setAll 0 _ (List.getElem?_eq_getElem h0) v
 rw [Nat.zero_mul, Nat.zero_add, Nat.zero_add, Nat.zero_add, Nat.zero_add, Nat.zero_add, Nat.zero_add] at h1
 have h2 := (h1.setAll q _ (List.getElem?_eq_getElem (by rw [List.length_set]; exact hq)) u).row
 rw [List.length_set, List.length_set] at h2
 exact h2
theorem Own65.swap0 {W : World} {base g cap : Nat} {l : List S65} (h : Own65 W base g cap l) (h0 : 0 < l.length) (v u : S65) :
  Kd.R k65 65 ((((((((((((((W.setCell ⟨g, 0, none⟩ (.int .i64 v.f0.f0)).setCell ⟨g, 1, none⟩ (.int .i64 v.f0.f1)).setCell ⟨g, 2, none⟩ (.string v.f0.f2)).setCell ⟨g, 3, none⟩ (.int .i64 v.f1.f0)).setCell ⟨g, 4, none⟩ (.int .i64 v.f1.f1)).setCell ⟨g, 5, none⟩ (.string v.f1.f2)).setCell ⟨g, 6, none⟩ (.bool v.f2)).setCell ⟨g, 0, none⟩ (.int .i64 u.f0.f0)).setCell ⟨g, 1, none⟩ (.int .i64 u.f0.f1)).setCell ⟨g, 2, none⟩ (.string u.f0.f2)).setCell ⟨g, 3, none⟩ (.int .i64 u.f1.f0)).setCell ⟨g, 4, none⟩ (.int .i64 u.f1.f1)).setCell ⟨g, 5, none⟩ (.string u.f1.f2)).setCell ⟨g, 6, none⟩ (.bool u.f2)) base (fun _ => True) (.slice (some ⟨g, 0, none⟩) l.length cap) ((l.set 0 v).set 0 u) := by
 have h2 := h.swap 0 h0 h0 v u
 rwa [Nat.zero_mul, Nat.zero_add, Nat.zero_add, Nat.zero_add, Nat.zero_add, Nat.zero_add, Nat.zero_add] at h2
end Go.Proofs.Ytpjcdacnhalclaa.Q
