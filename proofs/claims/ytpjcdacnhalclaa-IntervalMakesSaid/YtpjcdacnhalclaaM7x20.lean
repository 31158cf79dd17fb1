/- A part of the proof of the law that the last part names: facts of the functions that the law calls. No condition beyond those that stand in them. -/
import Derived.Test.YtpjcdacnhalclaaM7x3
import Derived.Test.YtpjcdacnhalclaaM7x16
import Derived.Test.YtpjcdacnhalclaaM7x10
import Derived.Test.YtpjcdacnhalclaaM7x11
import Derived.Test.YtpjcdacnhalclaaM7x14
import Derived.Test.YtpjcdacnhalclaaM7x18
import Derived.Test.YtpjcdacnhalclaaM7x7
import Derived.Test.YtpjcdacnhalclaaM7x19
import Derived.Test.YtpjcdacnhalclaaM7x8
namespace Go.Proofs.Ytpjcdacnhalclaa.Q
open Go.RowKit Go.Proofs.YtpjcdacnhalclaaW.PrintWords Go.Proofs.YtpjcdacnhalclaaW.PrintLast Go.Proofs.YtpjcdacnhalclaaW.PrintMore
attribute [local go_sem] max2_int min2_int max_two min_two max_three min_three max_four min_four
set_option linter.unusedVariables false
set_option linter.unusedSimpArgs false
theorem can_one {s t : S24} (hs : validS s = true) (ht : validS t = true) (h : ltV s t) : Can [⟨s, t, false⟩] := .cons s t [] hs ht h (by simp) .nil
theorem partsyncref03_From.ok {x : S24} (hv : validS x = true) : Ev (fun k => partsyncref03_From.f k x.f0 x.f1 x.f2) ([⟨x, zS, true⟩], 0) := by
  unfold partsyncref03_From.f
  refine Ev.bind (partsyncref01_Valid.ev _ _ _) ?_
  have hv : validV x.f0 x.f1 x.f2 = true := hv
  simp only [hv, if_true]
  exact Ev.now _
theorem interval_From.ok {x : S24} (hv : validS x = true) : Ev (fun k => interval_From.f k x.f0 x.f1 x.f2) ([⟨x, zS, true⟩], 0) := by
  unfold interval_From.f
  refine Ev.bind (value_Valid.ev _ _ _) ?_
  have hv : validV x.f0 x.f1 x.f2 = true := hv
  simp only [hv, if_true]
  exact Ev.now _
theorem One.ok {x : S24} (hv : validS x = true) (lo : -9223372036854775808 ≤ x.f1) (hi : x.f1 ≤ 9223372036854775807) : ∃ l, Ev (fun k => partsyncref03_One.f k x.f0 x.f1 x.f2) (l, 0) ∧ Ev (fun k => interval_One.f k x.f0 x.f1 x.f2) (l, 0) ∧ Can l ∧ (endsI l).length ≤ 2 := by
  have hv' : validV x.f0 x.f1 x.f2 = true := hv
  rcases value_Next.ok x hv' lo hi with ⟨y, hy, h1, h2⟩ | ⟨_, h1, h2⟩
  · refine ⟨[⟨x, y, false⟩], ?_, ?_, can_one hv hy.valid hy.up, by simp [endsI]⟩
    · unfold partsyncref03_One.f
      refine Ev.bind (partsyncref01_Valid.ev _ _ _) ?_
      simp only [hv', if_true]
      exact Ev.bind h2 (Ev.now _)
    · unfold interval_One.f
      refine Ev.bind (value_Valid.ev _ _ _) ?_
      simp only [hv', if_true]
      exact Ev.bind h1 (Ev.now _)
  · refine ⟨[⟨x, zS, true⟩], ?_, ?_, .last _ hv, by simp [endsI]⟩
    · unfold partsyncref03_One.f
      refine Ev.bind (partsyncref01_Valid.ev _ _ _) ?_
      simp only [hv', if_true]
      exact Ev.bind h2 (Ev.now _)
    · unfold interval_One.f
      refine Ev.bind (value_Valid.ev _ _ _) ?_
      simp only [hv', if_true]
      refine Ev.bind h1 ?_
      simp only [Bool.false_eq_true, if_false]
      exact Ev.now _
theorem Between.ok {x y : S24} (hx : validS x = true) (hy : validS y = true) : ∃ l, Ev (fun k => partsyncref03_Between.f k x.f0 x.f1 x.f2 y.f0 y.f1 y.f2) (l, 0) ∧ Ev (fun k => interval_Between.f k x.f0 x.f1 x.f2 y.f0 y.f1 y.f2) (l, 0) ∧ Can l ∧ (endsI l).length ≤ 2 ∧ (ltV x y → l = [⟨x, y, false⟩]) := by
  have hx' : validV x.f0 x.f1 x.f2 = true := hx
  have hy' : validV y.f0 y.f1 y.f2 = true := hy
  have a : ∀ l, (if cmpV x y ≥ 0 then (([] : List S65), (0 : Int)) else ([⟨x, y, false⟩], 0)) = l → Ev (fun k => partsyncref03_Between.f k x.f0 x.f1 x.f2 y.f0 y.f1 y.f2) l ∧ Ev (fun k => interval_Between.f k x.f0 x.f1 x.f2 y.f0 y.f1 y.f2) l := by
    rintro l rfl
    constructor
    · unfold partsyncref03_Between.f
      refine Ev.bind (partsyncref01_Valid.ev _ _ _) ?_
      simp only [hx', if_true]
      refine Ev.bind (partsyncref01_Valid.ev _ _ _) ?_
      simp only [hy', Bool.not_true]
      refine Ev.step (fun k => by rw [partsyncref03_Between.j0, if_neg (by decide), partsyncref01_Compare.some_, Option.bind_some]) ?_
      by_cases hc : cmpV x y ≥ 0
      · simp only [hc, if_true]; exact Ev.now _
      · simp only [hc, if_false]; exact Ev.now _
    · unfold interval_Between.f
      refine Ev.bind (value_Valid.ev _ _ _) ?_
      simp only [hx', if_true]
      refine Ev.bind (value_Valid.ev _ _ _) ?_
      simp only [hy', Bool.not_true]
      refine Ev.step (fun k => by rw [interval_Between.j0, if_neg (by decide), value_Compare.some_, Option.bind_some]) ?_
      by_cases hc : cmpV x y ≥ 0
      · simp only [hc, if_true]; exact Ev.now _
      · simp only [hc, if_false]; exact Ev.now _
  by_cases hc : cmpV x y ≥ 0
  · have := a ([], 0) (by rw [if_pos hc])
    exact ⟨[], this.1, this.2, .nil, by simp [endsI], fun h => absurd (cmpV_lt.2 h) (by omega)⟩
  · have := a ([⟨x, y, false⟩], 0) (by rw [if_neg hc])
    exact ⟨_, this.1, this.2, can_one hx hy (cmpV_lt.1 (by omega)), by simp [endsI], fun _ => rfl⟩
theorem lens {l : List S65} {n : Nat} (h : (endsI l).length ≤ n) : l.length ≤ n := Nat.le_trans (len_ends l) h
/-- A drawn set. -/
structure IsDrawn (l : List S65) : Prop where
  ok : okI l = true
  few : (endsI l).length ≤ 7
theorem interval_Has.ev (l : List S65) (hl : l.length < 4611686018427387904) (v : S24) : Ev (fun k => interval_Has.f k l v.f0 v.f1 v.f2) (validS v && (okI l && inI l v)) := by
  unfold interval_Has.f
  refine Ev.bind (value_Valid.ev _ _ _) ?_
  by_cases hv : validV v.f0 v.f1 v.f2 = true
  · have hv' : validS v = true := hv
    simp only [hv, hv', if_true, Bool.true_and]
    refine Ev.bind (interval_Valid.ev l) ?_
    by_cases ho : okI l = true
    · simp only [ho, if_true, Bool.true_and]
      exact Ev.bind (interval_contains.ev l hl v) (Ev.now _)
    · simp only [Bool.eq_false_iff.2 ho, Bool.false_eq_true, if_false, Bool.false_and]
      exact Ev.now _
  · have hv' : validS v = false := Bool.eq_false_iff.2 hv
    simp only [Bool.eq_false_iff.2 hv, hv', Bool.false_eq_true, if_false, Bool.false_and]
    exact Ev.now _
theorem interval_Has.in_ {l : List S65} (hl : okI l = true) {v : S24} (hv : validS v = true) : Ev (fun k => interval_Has.f k l v.f0 v.f1 v.f2) (inI l v) := by
  have := interval_Has.ev l (by have := (okI_can.1 hl).1; omega) v
  rw [hv, hl, Bool.true_and, Bool.true_and] at this
  exact this
theorem interval_Union.few {a b : List S65} (ha : okI a = true) (hb : okI b = true) (hn : 1 + (endsI a).length + (endsI b).length ≤ 64) : ∃ r, IsOp kOr a b r ∧ okI r = true ∧ Ev (fun k => interval_Union.f k a b) (r, 0) := by
  obtain ⟨r, h1, h2, h3⟩ := interval_combine.few kOr ha hb hn
  exact ⟨r, h1, h2, by unfold interval_Union.f; exact Ev.bind h3 (Ev.now _)⟩
instance : DecidableEq S65 := fun x y => decidable_of_iff (x.f0 = y.f0 ∧ x.f1 = y.f1 ∧ x.f2 = y.f2) ⟨fun h => by cases x; cases y; simp only [S65.mk.injEq]; exact h, fun h => h ▸ ⟨rfl, rfl, rfl⟩⟩
theorem neS65 (x y : S65) : ((!(x.f0.f0 == y.f0.f0) || (!(x.f0.f1 == y.f0.f1) || !(x.f0.f2.toList == y.f0.f2.toList))) || ((!(x.f1.f0 == y.f1.f0) || (!(x.f1.f1 == y.f1.f1) || !(x.f1.f2.toList == y.f1.f2.toList))) || !(x.f2 == y.f2))) = !decide (x = y) := by
  by_cases h : x = y
  · subst h; simp
  · rw [decide_eq_false h, Bool.not_false]
    refine Classical.byContradiction fun c => h ?_
    have c := Bool.eq_false_iff.2 c
    simp only [Bool.or_eq_false_iff, Bool.not_eq_false', beq_iff_eq] at c
    obtain ⟨⟨c1, c2, c3⟩, ⟨c4, c5, c6⟩, c7⟩ := c
    cases x; cases y
    simp only [S65.mk.injEq]
    exact ⟨S24.ext_ c1 c2 c3, S24.ext_ c4 c5 c6, c7⟩
theorem partsyncref03_Same.l0_ev (l m : List S65) (hlm : l.length = m.length) (hl : l.length < 4611686018427387904) : ∀ (n i : Nat), l.length - i = n → i ≤ l.length → Ev (fun k => partsyncref03_Same.l0 k l m l.length i) (decide (l.drop i = m.drop i)) := by
  intro n
  induction n with
  | zero =>
    intro i hn hi
    rw [List.drop_eq_nil_iff.2 (by omega : l.length ≤ i), List.drop_eq_nil_iff.2 (by omega : m.length ≤ i)]
    rw [decide_eq_true (rfl : ([] : List S65) = [])]
    exact Ev.step (fun k => by rw [partsyncref03_Same.l0, if_neg (by omega)]) (Ev.now _)
  | succ n ih =>
    intro i hn hi
    have hil : i < l.length := by omega
    have him : i < m.length := by omega
    have hw : wrap64 ((i : Int) + 1) = ((i + 1 : Nat) : Int) := wrap64_succ (by omega)
    refine Ev.step (fun k => by rw [partsyncref03_Same.l0, if_pos (by omega), if_pos (by omega), if_pos (by omega), if_pos (by omega), rd_T65_nat l i hil, rd_T65_nat m i him, hw, neS65]) ?_
    rw [List.drop_eq_getElem_cons hil, List.drop_eq_getElem_cons him]
    by_cases h : l[i] = m[i]
    · simp only [h, decide_true, Bool.not_true, Bool.false_eq_true, if_false, List.cons.injEq, true_and]
      exact ih (i + 1) (by omega) (by omega)
    · simp only [h, decide_false, Bool.not_false, if_true, List.cons.injEq, false_and]
      exact Ev.now _
theorem partsyncref03_Same.ev (l m : List S65) (hl : l.length < 4611686018427387904) : Ev (fun k => partsyncref03_Same.f k l m) (decide (l = m)) := by
  unfold partsyncref03_Same.f
  by_cases h : l.length = m.length
  · refine Ev.congr (fun k => if_pos (by omega)) ?_
    exact partsyncref03_Same.l0_ev l m h hl l.length 0 rfl (Nat.zero_le _)
  · refine Ev.congr (fun k => if_neg (by omega)) ?_
    rw [decide_eq_false (fun e : l = m => h (by rw [e]))]
    exact Ev.now _
theorem partsyncref03_Same.yes {l m : List S65} (h : l = m) (hl : l.length < 4611686018427387904) : Ev (fun k => partsyncref03_Same.f k l m) true := by
  have := partsyncref03_Same.ev l m hl
  rw [decide_eq_true h] at this
  exact this
def iV (n : Int) : S24 := ⟨4, n, ⟨#[]⟩⟩
theorem iV_valid (n : Int) : validS (iV n) = true := validV_low (a := 4) (b := n) (by omega)
theorem iV_lt {a b : Int} : ltV (iV a) (iV b) ↔ a < b := by
  constructor
  · rintro (h | ⟨_, h | ⟨_, h⟩⟩)
    · have h : (4 : Int) < 4 := h
      omega
    · exact h
    · exact absurd h (by unfold iV; exact List.lt_irrefl _)
  · exact fun h => .inr ⟨rfl, .inl h⟩
theorem inI_one (x : S65) (v : S24) : inI [x] v = oneI x v := by rw [inI_cons]; exact Bool.or_false _
theorem partsynclaw03_begun.ev : Ev (fun k => partsynclaw03_begun.f k) true := by
  unfold partsynclaw03_begun.f partsynclaw03_num.f
  simp only [Option.bind_some]
  obtain ⟨a, -, ea, ca, la, ha⟩ := Between.ok (iV_valid 1) (iV_valid 3)
  have ha := ha (iV_lt.2 (by omega))
  obtain ⟨b, -, eb, cb, lb, hb⟩ := Between.ok (iV_valid 3) (iV_valid 5)
  have hb := hb (iV_lt.2 (by omega))
  refine Ev.bind ea (Ev.bind eb ?_)
  obtain ⟨r, hr, ho, er⟩ := interval_Union.few (okI_can.2 ⟨by have := lens la; omega, ca⟩) (okI_can.2 ⟨by have := lens lb; omega, cb⟩) (by omega)
  refine Ev.bind er ?_
  have hr1 : r = [⟨iV 1, iV 5, false⟩] := by
    refine hr.can.unique (can_one (iV_valid 1) (iV_valid 5) (iV_lt.2 (by omega))) fun v hv => ?_
    rw [hr.mem v hv, ha, hb, Bool.eq_iff_iff]
    simp only [kOr, inI_one, Bool.or_eq_true, oneI_iff, Bool.false_eq_true, false_or]
    have h13 : ltV (iV 1) (iV 3) := iV_lt.2 (by omega)
    have h35 : ltV (iV 3) (iV 5) := iV_lt.2 (by omega)
    constructor
    · rintro (⟨p, q⟩ | ⟨p, q⟩)
      · exact ⟨p, ltV_trans q h35⟩
      · exact ⟨le_le (le_of_lt h13) p, q⟩
    · rintro ⟨p, q⟩
      by_cases c : ltV v (iV 3)
      · exact .inl ⟨p, c⟩
      · exact .inr ⟨c, q⟩
  subst hr1
  have e0 : rd_T65 [(⟨⟨4, 1, ⟨#[]⟩⟩, ⟨4, 5, ⟨#[]⟩⟩, false⟩ : S65)] 0 = ⟨⟨4, 1, ⟨#[]⟩⟩, ⟨4, 5, ⟨#[]⟩⟩, false⟩ := rfl
  simp only [iV, e0, if_true, List.length_singleton, beq_self_eq_true, Bool.and_self, Int.natCast_one, Int.zero_lt_one]
  refine Ev.bind (interval_Valid.ev _) ?_
  have ho' : okI [(⟨⟨4, 1, ⟨#[]⟩⟩, ⟨4, 5, ⟨#[]⟩⟩, false⟩ : S65)] = true := ho
  simp only [ho', if_true]
  have hh := interval_Has.in_ ho (iV_valid 3)
  have hi : inI [(⟨iV 1, iV 5, false⟩ : S65)] (iV 3) = true := by
    rw [inI_cons, (oneI_iff _ _).2 ⟨le_of_lt (iV_lt.2 (by omega)), .inr (iV_lt.2 (by omega))⟩]
    rfl
  rw [hi] at hh
  refine Ev.bind hh ?_
  simp only [if_true]
  exact Ev.congr (fun k => rfl) (Ev.now _)
end Go.Proofs.Ytpjcdacnhalclaa.Q
namespace Go.Proofs.Ytpjcdacnhalclaa.Q
open Go.RowKit Go.Proofs.YtpjcdacnhalclaaW.PrintWords Go.Proofs.YtpjcdacnhalclaaW.PrintLast Go.Proofs.YtpjcdacnhalclaaW.PrintMore
attribute [local go_sem] max2_int min2_int max_two min_two max_three min_three max_four min_four
set_option linter.unusedVariables false
set_option linter.unusedSimpArgs false
theorem ev_one {α : Type} {g : Nat → Option α} {r q : α} (hm : ∀ k, LeO (g k) (g (k + 1))) (h : Ev g r) {k : Nat} (hk : g k = some q) : q = r := by
  obtain ⟨K, hK⟩ := h
  have h1 := at_rounds hm (Nat.le_max_left k K) hk
  rw [hK _ (Nat.le_max_right k K)] at h1
  exact (Option.some.inj h1).symm
theorem partsynclaw03_begun.calls (k : Nat) (r : Bool) (w : World) (h : partsynclaw03_begun.f k = some r) :
    Calls Try.prog 36 #[] w fun e w' => e = .returned (.bool r) ∧ Below w.heap.size w w' :=
  partsynclaw03_begun.callsT k r w h ⟨ev_one partsynclaw03_begun.mono partsynclaw03_begun.ev h⟩
end Go.Proofs.Ytpjcdacnhalclaa.Q
namespace Go.Proofs.Ytpjcdacnhalclaa.Q
open Go.RowKit Go.Proofs.YtpjcdacnhalclaaW.PrintWords Go.Proofs.YtpjcdacnhalclaaW.PrintLast Go.Proofs.YtpjcdacnhalclaaW.PrintMore
attribute [local go_sem] max2_int min2_int max_two min_two max_three min_three max_four min_four
set_option linter.unusedVariables false
set_option linter.unusedSimpArgs false
def interval_OfKind.f (k : Nat) (a0 : Int) : Option ((List (S65)) × Int) := (value_First.f k a0).bind fun bt694 => (if bt694.2.2.2 = true then ((value_First.f k (wrap64 (a0 + 1))).bind fun bt699 => (if bt699.2.2.2 = true then (some ((([(⟨(⟨bt694.1, bt694.2.1, bt694.2.2.1⟩ : S24), (⟨bt699.1, bt699.2.1, bt699.2.2.1⟩ : S24), false⟩ : S65)] : List (S65))), 0)) else (some ((([(⟨(⟨bt694.1, bt694.2.1, bt694.2.2.1⟩ : S24), (⟨0, 0, (⟨#[]⟩ : ByteArray)⟩ : S24), true⟩ : S65)] : List (S65))), 0)))) else (some (([] : List (S65)), 1)))
set_option maxHeartbeats 8000000 in
set_option maxRecDepth 100000 in
theorem interval_OfKind.calls (k : Nat) (a0 : Int) (r1 : List (S65)) (r2 : Int) (w : World) (h : interval_OfKind.f k a0 = some (r1, r2)) :
  Calls Try.prog 45 #[.int .i64 a0] w fun e w' => ∃ v0_ : Value, e = .returned (.tuple #[v0_, .int .i64 r2]) ∧ Kd.R k65 65 w' w.heap.size (fun _ => True) v0_ r1 ∧ Below w.heap.size w w' := by
 have hu24 := Try.underlying24
 have hu65 := Try.underlying65
 have HB := Aside0.mk (Below.refl w.heap.size w)
 have H : ((value_First.f k a0).bind fun bt694 => (if bt694.2.2.2 = true then ((value_First.f k (wrap64 (a0 + 1))).bind fun bt699 => (if bt699.2.2.2 = true then (some ((([(⟨(⟨bt694.1, bt694.2.1, bt694.2.2.1⟩ : S24), (⟨bt699.1, bt699.2.1, bt699.2.2.1⟩ : S24), false⟩ : S65)] : List (S65))), 0)) else (some ((([(⟨(⟨bt694.1, bt694.2.1, bt694.2.2.1⟩ : S24), (⟨0, 0, (⟨#[]⟩ : ByteArray)⟩ : S24), true⟩ : S65)] : List (S65))), 0)))) else (some (([] : List (S65)), 1)))) = some (r1, r2) := h
 clear h
 replace H := Option.bind_eq_some_iff.mp H
 obtain ⟨⟨t694, t695, t696, t697⟩, A20, H⟩ := H
 replace H : (if t697 = true then ((value_First.f k (wrap64 (a0 + 1))).bind fun bt699 => (if bt699.2.2.2 = true then (some ((([(⟨(⟨t694, t695, t696⟩ : S24), (⟨bt699.1, bt699.2.1, bt699.2.2.1⟩ : S24), false⟩ : S65)] : List (S65))), 0)) else (some ((([(⟨(⟨t694, t695, t696⟩ : S24), (⟨0, 0, (⟨#[]⟩ : ByteArray)⟩ : S24), true⟩ : S65)] : List (S65))), 0)))) else (some (([] : List (S65)), 1))) = some (r1, r2) := H
 have A2 := Aside0.mk A20
 clear A20
 by_cases c3 : t697 = true
 ·subst c3
  have H1 : ((value_First.f k (wrap64 (a0 + 1))).bind fun bt699 => (if bt699.2.2.2 = true then (some ((([(⟨(⟨t694, t695, t696⟩ : S24), (⟨bt699.1, bt699.2.1, bt699.2.2.1⟩ : S24), false⟩ : S65)] : List (S65))), 0)) else (some ((([(⟨(⟨t694, t695, t696⟩ : S24), (⟨0, 0, (⟨#[]⟩ : ByteArray)⟩ : S24), true⟩ : S65)] : List (S65))), 0)))) = some (r1, r2) := by rw [if_pos rfl] at H; exact H
  clear H
  have H := H1
  clear H1
  replace H := Option.bind_eq_some_iff.mp H
  obtain ⟨⟨t699, t700, t701, t702⟩, A40, H⟩ := H
  replace H : (if t702 = true then (some ((([(⟨(⟨t694, t695, t696⟩ : S24), (⟨t699, t700, t701⟩ : S24), false⟩ : S65)] : List (S65))), 0)) else (some ((([(⟨(⟨t694, t695, t696⟩ : S24), (⟨0, 0, (⟨#[]⟩ : ByteArray)⟩ : S24), true⟩ : S65)] : List (S65))), 0))) = some (r1, r2) := H
  have A4 := Aside0.mk A40
  clear A40
  by_cases c5 : t702 = true
  ·subst c5
   have H1 : (some ((([(⟨(⟨t694, t695, t696⟩ : S24), (⟨t699, t700, t701⟩ : S24), false⟩ : S65)] : List (S65))), 0)) = some (r1, r2) := by rw [if_pos rfl] at H; exact H
   clear H
   have H := H1
   clear H1
   obtain ⟨y704, hy704⟩ : ∃ y_ : List (S65), y_ = (([(⟨(⟨t694, t695, t696⟩ : S24), (⟨t699, t700, t701⟩ : S24), false⟩ : S65)] : List (S65))) := ⟨_, rfl⟩
   replace H : (some (y704, 0)) = some (r1, r2) := by first | (rw [hy704]; with_reducible exact H) | (have H2_ := (Option.bind_some _ _).symm.trans H; rw [hy704]; with_reducible exact H2_) | (have H2_ := (Option.bind_some _ _).symm.trans H; with_reducible exact H2_) | with_reducible exact H | (rw [hy704]; exact H) | exact H
   have Ny704 := Aside0.mk hy704
   clear hy704
   simp only [Option.some.injEq, Prod.mk.injEq] at H
   obtain ⟨rfl, rfl⟩ := H
   go_enter Try.func45, Try.ntmps45
   go_wp2_with (first | ((with_reducible refine gate_callee (f := 49) rfl ?_); refine gL (some 10) rfl Try.func49 #[.int .i64 a0] rfl ?_; (with_reducible refine (value_First.calls k a0 t694 t695 t696 true _ A2.out).mono ?_); rintro e w6 ⟨rfl, hb⟩; refine ⟨_, rfl, ?_⟩; have n0_ := Aside0.mk (below_step bO hb); clear HB; have HB := n0_; clear n0_; (try clear hb); (try clear hb2); (try clear hk); (try clear hi)) | ((with_reducible refine gate_dst (N := 4) rfl ?_); refine box_event ?hg (N := 4) ?hd (cs := #[.int .i64 0, .int .i64 0, .string (⟨#[]⟩ : ByteArray)]) (t := 24) ?hr ?_; (case hd => rfl); (case hg => rfl); (case hr => first | (go_simp; done) | (go_simp; rfl)); intro gb698 hg w7 hbox hb; have n0_ := Aside0.mk (below_step bO hb); have n1_ := Aside0.mk (hbox); have n2_ := Aside0.mk ((by rw [hg]; exact (below_size bO) : w.heap.size ≤ gb698)); have n3_ := Aside0.mk ((by rw [hg]; exact (below_size bO) : w.heap.size ≤ gb698)); clear HB; have HB := n0_; have BK698 := n1_; have GW698 := n2_; have GE698 := n3_; clear n0_ n1_ n2_ n3_; clear hb hbox hg; have hcz8_0 : w7.cell? ⟨gb698, 0, none⟩ = some (.int .i64 0) := (blk_cell BK698.out 0).trans rfl; have hcz8_1 : w7.cell? ⟨gb698, 1, none⟩ = some (.int .i64 0) := (blk_cell BK698.out 1).trans rfl; have hcz8_2 : w7.cell? ⟨gb698, 2, none⟩ = some (.string (⟨#[]⟩ : ByteArray)) := (blk_cell BK698.out 2).trans rfl; have hfz8_0 := blk_frozen BK698.out 0; have hfz8_1 := blk_frozen BK698.out 1; have hfz8_2 := blk_frozen BK698.out 2) | ((with_reducible refine gate_callee (f := 49) rfl ?_); refine gL (some 18) rfl Try.func49 #[.int .i64 (wrap64 (a0 + 1))] rfl ?_; (with_reducible refine (value_First.calls k (wrap64 (a0 + 1)) t699 t700 t701 true _ A4.out).mono ?_); rintro e w9 ⟨rfl, hb⟩; refine ⟨_, rfl, ?_⟩; have n0_ := Aside0.mk (blk_below (g := gb698) (o := .cells #[.int .i64 t694, .int .i64 t695, .string t696] 24 (0, 0)) (by (with_reducible repeat (first | refine blk_drewN ?_ _ | refine blk_drew ?_ | refine blk_alloc ?_ _)); refine blk_put (cs := #[.int .i64 t694, .int .i64 t695, .string (⟨#[]⟩ : ByteArray)]) ?_ 2 _ rfl; (with_reducible repeat (first | refine blk_drewN ?_ _ | refine blk_drew ?_ | refine blk_alloc ?_ _)); refine blk_put (cs := #[.int .i64 t694, .int .i64 0, .string (⟨#[]⟩ : ByteArray)]) ?_ 1 _ rfl; (with_reducible repeat (first | refine blk_drewN ?_ _ | refine blk_drew ?_ | refine blk_alloc ?_ _)); refine blk_put (cs := #[.int .i64 0, .int .i64 0, .string (⟨#[]⟩ : ByteArray)]) ?_ 0 _ rfl; (with_reducible repeat (first | refine blk_drewN ?_ _ | refine blk_drew ?_ | refine blk_alloc ?_ _)); exact BK698.out) hb); have n1_ := Aside0.mk (below_step (bS GE698.out) hb); clear BK698; clear HB; have BK698 := n0_; have HB := n1_; clear n0_ n1_; (try clear hb); (try clear hb2); (try clear hk); (try clear hi)) | ((with_reducible refine gate_dst (N := 6) rfl ?_); refine box_event ?hg (N := 6) ?hd (cs := #[.int .i64 0, .int .i64 0, .string (⟨#[]⟩ : ByteArray)]) (t := 24) ?hr ?_; (case hd => rfl); (case hg => rfl); (case hr => first | (go_simp; done) | (go_simp; rfl)); intro gb703 hg w10 hbox hb; have n0_ := Aside0.mk (blk_below (g := gb698) (o := .cells #[.int .i64 t694, .int .i64 t695, .string t696] 24 (0, 0)) (bX BK698.out) hb); have n1_ := Aside0.mk (below_step (bS GE698.out) hb); have n2_ := Aside0.mk (hbox); have n3_ := Aside0.mk ((by rw [hg]; exact (below_size (bS GE698.out)) : w.heap.size ≤ gb703)); have n4_ := Aside0.mk ((by rw [hg]; exact (below_size (bS GE698.out)) : w.heap.size ≤ gb703)); have n5_ := Aside0.mk ((by rw [hg]; exact Nat.ne_of_lt (blk_lt (g := gb698) (o := .cells #[.int .i64 t694, .int .i64 t695, .string t696] 24 (0, 0)) (bX BK698.out)) : gb698 ≠ gb703)); have n6_ := Aside0.mk ((by rw [hg]; exact Nat.ne_of_gt (blk_lt (g := gb698) (o := .cells #[.int .i64 t694, .int .i64 t695, .string t696] 24 (0, 0)) (bX BK698.out)) : gb703 ≠ gb698)); clear BK698; clear HB; have BK698 := n0_; have HB := n1_; have BK703 := n2_; have GW703 := n3_; have GE703 := n4_; have NB698_703 := n5_; have NB703_698 := n6_; clear n0_ n1_ n2_ n3_ n4_ n5_ n6_; clear hb hbox hg; have hnb11 := NB703_698.out; have hnc11 := NB698_703.out; have hcz12_0 : w10.cell? ⟨gb703, 0, none⟩ = some (.int .i64 0) := (blk_cell BK703.out 0).trans rfl; have hcz12_1 : w10.cell? ⟨gb703, 1, none⟩ = some (.int .i64 0) := (blk_cell BK703.out 1).trans rfl; have hcz12_2 : w10.cell? ⟨gb703, 2, none⟩ = some (.string (⟨#[]⟩ : ByteArray)) := (blk_cell BK703.out 2).trans rfl; have hfz12_0 := blk_frozen BK703.out 0; have hfz12_1 := blk_frozen BK703.out 1; have hfz12_2 := blk_frozen BK703.out 2; have hcz13_0 : w10.cell? ⟨gb698, 0, none⟩ = some (.int .i64 t694) := (blk_cell BK698.out 0).trans rfl; have hcz13_1 : w10.cell? ⟨gb698, 1, none⟩ = some (.int .i64 t695) := (blk_cell BK698.out 1).trans rfl; have hcz13_2 : w10.cell? ⟨gb698, 2, none⟩ = some (.string t696) := (blk_cell BK698.out 2).trans rfl; have hfz13_0 := blk_frozen BK698.out 0; have hfz13_1 := blk_frozen BK698.out 1; have hfz13_2 := blk_frozen BK698.out 2) | ((with_reducible refine gate_dst (N := 25) rfl ?_); refine Kd.R_lit k65 _ 65 ?hg (N := 25) ?hd (xs := ([(⟨(⟨t694, t695, t696⟩ : S24), (⟨t699, t700, t701⟩ : S24), false⟩ : S65)] : List (S65))) (inner := [.int .i64 t694, .int .i64 t695, .string t696, .int .i64 t699, .int .i64 t700, .string t701, .bool false]) (ok := fun _ => True) (okp := fun _ => True) ?hr ?hp (fun _ hk => hk) trivial (Below.refl _ _) (Nat.le_refl _) (by simp) ?_; (case hd => rfl); (case hg => rfl); (case hr => first | (go_simp; done) | (go_simp; rfl)); (case hp => exact (Reps.c7 (show Kd.M k65 _ _ _ (⟨(⟨t694, t695, t696⟩ : S24), (⟨t699, t700, t701⟩ : S24), false⟩ : S65) [.int .i64 t694, .int .i64 t695, .string t696, .int .i64 t699, .int .i64 t700, .string t701, .bool false] from (k65_mkM _ _ _ (⟨(⟨t694, t695, t696⟩ : S24), (⟨t699, t700, t701⟩ : S24), false⟩ : S65) )) (Reps.none _ _))); intro v705 w14 ho15 hb hg_ hnew_; clear hg_ hnew_; (first | rw [← Ny704.out] at ho15 | (simp only [Int.reduceToNat] at ho15; rw [← Ny704.out] at ho15)); have n0_ := Aside0.mk (Kd.R_lower ho15 (below_size (bT GE698.out GE703.out))); have n1_ := Aside0.mk (blk_below (g := gb698) (o := .cells #[.int .i64 t694, .int .i64 t695, .string t696] 24 (0, 0)) (by (with_reducible repeat (first | refine blk_drewN ?_ _ | refine blk_drew ?_ | refine blk_alloc ?_ _)); refine blk_far ?_ NB698_703.out _; (with_reducible repeat (first | refine blk_drewN ?_ _ | refine blk_drew ?_ | refine blk_alloc ?_ _)); refine blk_far ?_ NB698_703.out _; (with_reducible repeat (first | refine blk_drewN ?_ _ | refine blk_drew ?_ | refine blk_alloc ?_ _)); refine blk_far ?_ NB698_703.out _; (with_reducible repeat (first | refine blk_drewN ?_ _ | refine blk_drew ?_ | refine blk_alloc ?_ _)); exact BK698.out) hb); have n2_ := Aside0.mk (blk_below (g := gb703) (o := .cells #[.int .i64 t699, .int .i64 t700, .string t701] 24 (0, 0)) (by (with_reducible repeat (first | refine blk_drewN ?_ _ | refine blk_drew ?_ | refine blk_alloc ?_ _)); refine blk_put (cs := #[.int .i64 t699, .int .i64 t700, .string (⟨#[]⟩ : ByteArray)]) ?_ 2 _ rfl; (with_reducible repeat (first | refine blk_drewN ?_ _ | refine blk_drew ?_ | refine blk_alloc ?_ _)); refine blk_put (cs := #[.int .i64 t699, .int .i64 0, .string (⟨#[]⟩ : ByteArray)]) ?_ 1 _ rfl; (with_reducible repeat (first | refine blk_drewN ?_ _ | refine blk_drew ?_ | refine blk_alloc ?_ _)); refine blk_put (cs := #[.int .i64 0, .int .i64 0, .string (⟨#[]⟩ : ByteArray)]) ?_ 0 _ rfl; (with_reducible repeat (first | refine blk_drewN ?_ _ | refine blk_drew ?_ | refine blk_alloc ?_ _)); exact BK703.out) hb); have n3_ := Aside0.mk (below_step (bT GE698.out GE703.out) hb); clear BK698; clear BK703; clear HB; have HO706 := n0_; have BK698 := n1_; have BK703 := n2_; have HB := n3_; clear n0_ n1_ n2_ n3_; clear hb ho15))
   go_ret2
   exact ⟨_, by first | rfl | (simp [errW_none, errW_some] <;> rfl) | (simp [*, errW_none, errW_some] <;> rfl), by (with_reducible repeat (first | apply Kd.R_alloc | apply Kd.R_drewN | apply Kd.R_drew)); exact HO706.out, by repeat (first | (with_reducible first | exact HB.out | apply below_alloc | apply pw_below_drewN | apply below_drew1 | refine below_set ?_ GE698.out | refine below_set ?_ GE703.out) | exact HB.out)⟩
  ·replace c5 := Bool.eq_false_iff.mpr c5
   subst c5
   have H1 : (some ((([(⟨(⟨t694, t695, t696⟩ : S24), (⟨0, 0, (⟨#[]⟩ : ByteArray)⟩ : S24), true⟩ : S65)] : List (S65))), 0)) = some (r1, r2) := by rw [if_neg (show ¬ (false = true) by decide)] at H; exact H
   clear H
   have H := H1
   clear H1
   obtain ⟨y707, hy707⟩ : ∃ y_ : List (S65), y_ = (([(⟨(⟨t694, t695, t696⟩ : S24), (⟨0, 0, (⟨#[]⟩ : ByteArray)⟩ : S24), true⟩ : S65)] : List (S65))) := ⟨_, rfl⟩
   replace H : (some (y707, 0)) = some (r1, r2) := by first | (rw [hy707]; with_reducible exact H) | (have H2_ := (Option.bind_some _ _).symm.trans H; rw [hy707]; with_reducible exact H2_) | (have H2_ := (Option.bind_some _ _).symm.trans H; with_reducible exact H2_) | with_reducible exact H | (rw [hy707]; exact H) | exact H
   have Ny707 := Aside0.mk hy707
   clear hy707
   simp only [Option.some.injEq, Prod.mk.injEq] at H
   obtain ⟨rfl, rfl⟩ := H
   go_enter Try.func45, Try.ntmps45
   go_wp2_with (first | ((with_reducible refine gate_callee (f := 49) rfl ?_); refine gL (some 10) rfl Try.func49 #[.int .i64 a0] rfl ?_; (with_reducible refine (value_First.calls k a0 t694 t695 t696 true _ A2.out).mono ?_); rintro e w16 ⟨rfl, hb⟩; refine ⟨_, rfl, ?_⟩; have n0_ := Aside0.mk (below_step bO hb); clear HB; have HB := n0_; clear n0_; (try clear hb); (try clear hb2); (try clear hk); (try clear hi)) | ((with_reducible refine gate_dst (N := 4) rfl ?_); refine box_event ?hg (N := 4) ?hd (cs := #[.int .i64 0, .int .i64 0, .string (⟨#[]⟩ : ByteArray)]) (t := 24) ?hr ?_; (case hd => rfl); (case hg => rfl); (case hr => first | (go_simp; done) | (go_simp; rfl)); intro gb698 hg w17 hbox hb; have n0_ := Aside0.mk (below_step bO hb); have n1_ := Aside0.mk (hbox); have n2_ := Aside0.mk ((by rw [hg]; exact (below_size bO) : w.heap.size ≤ gb698)); have n3_ := Aside0.mk ((by rw [hg]; exact (below_size bO) : w.heap.size ≤ gb698)); clear HB; have HB := n0_; have BK698 := n1_; have GW698 := n2_; have GE698 := n3_; clear n0_ n1_ n2_ n3_; clear hb hbox hg; have hcz18_0 : w17.cell? ⟨gb698, 0, none⟩ = some (.int .i64 0) := (blk_cell BK698.out 0).trans rfl; have hcz18_1 : w17.cell? ⟨gb698, 1, none⟩ = some (.int .i64 0) := (blk_cell BK698.out 1).trans rfl; have hcz18_2 : w17.cell? ⟨gb698, 2, none⟩ = some (.string (⟨#[]⟩ : ByteArray)) := (blk_cell BK698.out 2).trans rfl; have hfz18_0 := blk_frozen BK698.out 0; have hfz18_1 := blk_frozen BK698.out 1; have hfz18_2 := blk_frozen BK698.out 2) | ((with_reducible refine gate_callee (f := 49) rfl ?_); refine gL (some 18) rfl Try.func49 #[.int .i64 (wrap64 (a0 + 1))] rfl ?_; (with_reducible refine (value_First.calls k (wrap64 (a0 + 1)) t699 t700 t701 false _ A4.out).mono ?_); rintro e w19 ⟨rfl, hb⟩; refine ⟨_, rfl, ?_⟩; have n0_ := Aside0.mk (blk_below (g := gb698) (o := .cells #[.int .i64 t694, .int .i64 t695, .string t696] 24 (0, 0)) (by (with_reducible repeat (first | refine blk_drewN ?_ _ | refine blk_drew ?_ | refine blk_alloc ?_ _)); refine blk_put (cs := #[.int .i64 t694, .int .i64 t695, .string (⟨#[]⟩ : ByteArray)]) ?_ 2 _ rfl; (with_reducible repeat (first | refine blk_drewN ?_ _ | refine blk_drew ?_ | refine blk_alloc ?_ _)); refine blk_put (cs := #[.int .i64 t694, .int .i64 0, .string (⟨#[]⟩ : ByteArray)]) ?_ 1 _ rfl; (with_reducible repeat (first | refine blk_drewN ?_ _ | refine blk_drew ?_ | refine blk_alloc ?_ _)); refine blk_put (cs := #[.int .i64 0, .int .i64 0, .string (⟨#[]⟩ : ByteArray)]) ?_ 0 _ rfl; (with_reducible repeat (first | refine blk_drewN ?_ _ | refine blk_drew ?_ | refine blk_alloc ?_ _)); exact BK698.out) hb); have n1_ := Aside0.mk (below_step (bS GE698.out) hb); clear BK698; clear HB; have BK698 := n0_; have HB := n1_; clear n0_ n1_; (try clear hb); (try clear hb2); (try clear hk); (try clear hi)) | ((with_reducible refine gate_dst (N := 6) rfl ?_); refine box_event ?hg (N := 6) ?hd (cs := #[.int .i64 0, .int .i64 0, .string (⟨#[]⟩ : ByteArray)]) (t := 24) ?hr ?_; (case hd => rfl); (case hg => rfl); (case hr => first | (go_simp; done) | (go_simp; rfl)); intro gb703 hg w20 hbox hb; have n0_ := Aside0.mk (blk_below (g := gb698) (o := .cells #[.int .i64 t694, .int .i64 t695, .string t696] 24 (0, 0)) (bX BK698.out) hb); have n1_ := Aside0.mk (below_step (bS GE698.out) hb); have n2_ := Aside0.mk (hbox); have n3_ := Aside0.mk ((by rw [hg]; exact (below_size (bS GE698.out)) : w.heap.size ≤ gb703)); have n4_ := Aside0.mk ((by rw [hg]; exact (below_size (bS GE698.out)) : w.heap.size ≤ gb703)); have n5_ := Aside0.mk ((by rw [hg]; exact Nat.ne_of_lt (blk_lt (g := gb698) (o := .cells #[.int .i64 t694, .int .i64 t695, .string t696] 24 (0, 0)) (bX BK698.out)) : gb698 ≠ gb703)); have n6_ := Aside0.mk ((by rw [hg]; exact Nat.ne_of_gt (blk_lt (g := gb698) (o := .cells #[.int .i64 t694, .int .i64 t695, .string t696] 24 (0, 0)) (bX BK698.out)) : gb703 ≠ gb698)); clear BK698; clear HB; have BK698 := n0_; have HB := n1_; have BK703 := n2_; have GW703 := n3_; have GE703 := n4_; have NB698_703 := n5_; have NB703_698 := n6_; clear n0_ n1_ n2_ n3_ n4_ n5_ n6_; clear hb hbox hg; have hnb21 := NB703_698.out; have hnc21 := NB698_703.out; have hcz22_0 : w20.cell? ⟨gb703, 0, none⟩ = some (.int .i64 0) := (blk_cell BK703.out 0).trans rfl; have hcz22_1 : w20.cell? ⟨gb703, 1, none⟩ = some (.int .i64 0) := (blk_cell BK703.out 1).trans rfl; have hcz22_2 : w20.cell? ⟨gb703, 2, none⟩ = some (.string (⟨#[]⟩ : ByteArray)) := (blk_cell BK703.out 2).trans rfl; have hfz22_0 := blk_frozen BK703.out 0; have hfz22_1 := blk_frozen BK703.out 1; have hfz22_2 := blk_frozen BK703.out 2; have hcz23_0 : w20.cell? ⟨gb698, 0, none⟩ = some (.int .i64 t694) := (blk_cell BK698.out 0).trans rfl; have hcz23_1 : w20.cell? ⟨gb698, 1, none⟩ = some (.int .i64 t695) := (blk_cell BK698.out 1).trans rfl; have hcz23_2 : w20.cell? ⟨gb698, 2, none⟩ = some (.string t696) := (blk_cell BK698.out 2).trans rfl; have hfz23_0 := blk_frozen BK698.out 0; have hfz23_1 := blk_frozen BK698.out 1; have hfz23_2 := blk_frozen BK698.out 2) | ((with_reducible refine gate_dst (N := 28) rfl ?_); refine Kd.R_lit k65 _ 65 ?hg (N := 28) ?hd (xs := ([(⟨(⟨t694, t695, t696⟩ : S24), (⟨0, 0, (⟨#[]⟩ : ByteArray)⟩ : S24), true⟩ : S65)] : List (S65))) (inner := [.int .i64 t694, .int .i64 t695, .string t696, .int .i64 0, .int .i64 0, .string (⟨#[]⟩ : ByteArray), .bool true]) (ok := fun _ => True) (okp := fun _ => True) ?hr ?hp (fun _ hk => hk) trivial (Below.refl _ _) (Nat.le_refl _) (by simp) ?_; (case hd => rfl); (case hg => rfl); (case hr => first | (go_simp; done) | (go_simp; rfl)); (case hp => exact (Reps.c7 (show Kd.M k65 _ _ _ (⟨(⟨t694, t695, t696⟩ : S24), (⟨0, 0, (⟨#[]⟩ : ByteArray)⟩ : S24), true⟩ : S65) [.int .i64 t694, .int .i64 t695, .string t696, .int .i64 0, .int .i64 0, .string (⟨#[]⟩ : ByteArray), .bool true] from (k65_mkM _ _ _ (⟨(⟨t694, t695, t696⟩ : S24), (⟨0, 0, (⟨#[]⟩ : ByteArray)⟩ : S24), true⟩ : S65) )) (Reps.none _ _))); intro v708 w24 ho25 hb hg_ hnew_; clear hg_ hnew_; (first | rw [← Ny707.out] at ho25 | (simp only [Int.reduceToNat] at ho25; rw [← Ny707.out] at ho25)); have n0_ := Aside0.mk (Kd.R_lower ho25 (below_size (bT GE698.out GE703.out))); have n1_ := Aside0.mk (blk_below (g := gb698) (o := .cells #[.int .i64 t694, .int .i64 t695, .string t696] 24 (0, 0)) (by (with_reducible repeat (first | refine blk_drewN ?_ _ | refine blk_drew ?_ | refine blk_alloc ?_ _)); refine blk_far ?_ NB698_703.out _; (with_reducible repeat (first | refine blk_drewN ?_ _ | refine blk_drew ?_ | refine blk_alloc ?_ _)); refine blk_far ?_ NB698_703.out _; (with_reducible repeat (first | refine blk_drewN ?_ _ | refine blk_drew ?_ | refine blk_alloc ?_ _)); refine blk_far ?_ NB698_703.out _; (with_reducible repeat (first | refine blk_drewN ?_ _ | refine blk_drew ?_ | refine blk_alloc ?_ _)); exact BK698.out) hb); have n2_ := Aside0.mk (blk_below (g := gb703) (o := .cells #[.int .i64 t699, .int .i64 t700, .string t701] 24 (0, 0)) (by (with_reducible repeat (first | refine blk_drewN ?_ _ | refine blk_drew ?_ | refine blk_alloc ?_ _)); refine blk_put (cs := #[.int .i64 t699, .int .i64 t700, .string (⟨#[]⟩ : ByteArray)]) ?_ 2 _ rfl; (with_reducible repeat (first | refine blk_drewN ?_ _ | refine blk_drew ?_ | refine blk_alloc ?_ _)); refine blk_put (cs := #[.int .i64 t699, .int .i64 0, .string (⟨#[]⟩ : ByteArray)]) ?_ 1 _ rfl; (with_reducible repeat (first | refine blk_drewN ?_ _ | refine blk_drew ?_ | refine blk_alloc ?_ _)); refine blk_put (cs := #[.int .i64 0, .int .i64 0, .string (⟨#[]⟩ : ByteArray)]) ?_ 0 _ rfl; (with_reducible repeat (first | refine blk_drewN ?_ _ | refine blk_drew ?_ | refine blk_alloc ?_ _)); exact BK703.out) hb); have n3_ := Aside0.mk (below_step (bT GE698.out GE703.out) hb); clear BK698; clear BK703; clear HB; have HO709 := n0_; have BK698 := n1_; have BK703 := n2_; have HB := n3_; clear n0_ n1_ n2_ n3_; clear hb ho25))
   go_ret2
   exact ⟨_, by first | rfl | (simp [errW_none, errW_some] <;> rfl) | (simp [*, errW_none, errW_some] <;> rfl), by (with_reducible repeat (first | apply Kd.R_alloc | apply Kd.R_drewN | apply Kd.R_drew)); exact HO709.out, by repeat (first | (with_reducible first | exact HB.out | apply below_alloc | apply pw_below_drewN | apply below_drew1 | refine below_set ?_ GE698.out | refine below_set ?_ GE703.out) | exact HB.out)⟩
 ·replace c3 := Bool.eq_false_iff.mpr c3
  subst c3
  have H1 : (some (([] : List (S65)), 1)) = some (r1, r2) := by rw [if_neg (show ¬ (false = true) by decide)] at H; exact H
  clear H
  have H := H1
  clear H1
  simp only [Option.some.injEq, Prod.mk.injEq] at H
  obtain ⟨rfl, rfl⟩ := H
  go_enter Try.func45, Try.ntmps45
  go_wp2_with (first | ((with_reducible refine gate_callee (f := 49) rfl ?_); refine gL (some 10) rfl Try.func49 #[.int .i64 a0] rfl ?_; (with_reducible refine (value_First.calls k a0 t694 t695 t696 false _ A2.out).mono ?_); rintro e w26 ⟨rfl, hb⟩; refine ⟨_, rfl, ?_⟩; have n0_ := Aside0.mk (below_step bO hb); clear HB; have HB := n0_; clear n0_; (try clear hb); (try clear hb2); (try clear hk); (try clear hi)) | ((with_reducible refine gate_dst (N := 4) rfl ?_); refine box_event ?hg (N := 4) ?hd (cs := #[.int .i64 0, .int .i64 0, .string (⟨#[]⟩ : ByteArray)]) (t := 24) ?hr ?_; (case hd => rfl); (case hg => rfl); (case hr => first | (go_simp; done) | (go_simp; rfl)); intro gb698 hg w27 hbox hb; have n0_ := Aside0.mk (below_step bO hb); have n1_ := Aside0.mk (hbox); have n2_ := Aside0.mk ((by rw [hg]; exact (below_size bO) : w.heap.size ≤ gb698)); have n3_ := Aside0.mk ((by rw [hg]; exact (below_size bO) : w.heap.size ≤ gb698)); clear HB; have HB := n0_; have BK698 := n1_; have GW698 := n2_; have GE698 := n3_; clear n0_ n1_ n2_ n3_; clear hb hbox hg; have hcz28_0 : w27.cell? ⟨gb698, 0, none⟩ = some (.int .i64 0) := (blk_cell BK698.out 0).trans rfl; have hcz28_1 : w27.cell? ⟨gb698, 1, none⟩ = some (.int .i64 0) := (blk_cell BK698.out 1).trans rfl; have hcz28_2 : w27.cell? ⟨gb698, 2, none⟩ = some (.string (⟨#[]⟩ : ByteArray)) := (blk_cell BK698.out 2).trans rfl; have hfz28_0 := blk_frozen BK698.out 0; have hfz28_1 := blk_frozen BK698.out 1; have hfz28_2 := blk_frozen BK698.out 2))
  go_ret2
  exact ⟨_, by first | rfl | (simp [errW_none, errW_some] <;> rfl) | (simp [*, errW_none, errW_some] <;> rfl), by first | exact Kd.R_nil _ _ _ _ _ | exact Kd.N_nil _ _ _ _ _ | exact Kd.V_nil _ _ _ _ _ | exact Kd.Q_nil _ _ _ _ _ | exact Kd.S_nil _ _ _ _ _, by repeat (first | (with_reducible first | exact HB.out | apply below_alloc | apply pw_below_drewN | apply below_drew1 | refine below_set ?_ GE698.out) | exact HB.out)⟩
end Go.Proofs.Ytpjcdacnhalclaa.Q
namespace Go.Proofs.Ytpjcdacnhalclaa.Q
open Go.RowKit Go.Proofs.YtpjcdacnhalclaaW.PrintWords Go.Proofs.YtpjcdacnhalclaaW.PrintLast Go.Proofs.YtpjcdacnhalclaaW.PrintMore
attribute [local go_sem] max2_int min2_int max_two min_two max_three min_three max_four min_four
set_option linter.unusedVariables false
set_option linter.unusedSimpArgs false
def partsyncref01_First.j0 : Nat → Int → Int → Bool → Option (Int × Int × ByteArray × Bool)
 | 0, _, _, _ => none
 | k + 1, x0, x4, x5 => if x5 = true then (some (x0, 0, (⟨#[]⟩ : ByteArray), true)) else (if x4 = 4 then (some (x0, (-9223372036854775808), (⟨#[]⟩ : ByteArray), true)) else (some (0, 0, (⟨#[]⟩ : ByteArray), false)))
def partsyncref01_First.f (k : Nat) (a0 : Int) : Option (Int × Int × ByteArray × Bool) := if a0 = 1 then (partsyncref01_First.j0 k a0 a0 (a0 == 1)) else (if a0 = 2 then (partsyncref01_First.j0 k a0 a0 (a0 == 2)) else (if a0 = 3 then (partsyncref01_First.j0 k a0 a0 (a0 == 3)) else (partsyncref01_First.j0 k a0 a0 (a0 == 5))))
set_option maxHeartbeats 8000000 in
set_option maxRecDepth 100000 in
theorem partsyncref01_First.calls (k : Nat) (a0 : Int) (r1 : Int) (r2 : Int) (r3 : ByteArray) (r4 : Bool) (w : World) (h : partsyncref01_First.f k a0 = some (r1, r2, r3, r4)) :
  Calls Try.prog 50 #[.int .i64 a0] w fun e w' => e = .returned (.tuple #[.agg #[.int .i64 r1, .int .i64 r2, .string r3], .bool r4]) ∧ Below w.heap.size w w' := by
 have hu24 := Try.underlying24
 have HB := Aside0.mk (Below.refl w.heap.size w)
 have H : (if a0 = 1 then (partsyncref01_First.j0 k a0 a0 (a0 == 1)) else (if a0 = 2 then (partsyncref01_First.j0 k a0 a0 (a0 == 2)) else (if a0 = 3 then (partsyncref01_First.j0 k a0 a0 (a0 == 3)) else (partsyncref01_First.j0 k a0 a0 (a0 == 5))))) = some (r1, r2, r3, r4) := h
 clear h
 have HC2 := Aside0.mk H
 clear H
 go_enter Try.func50, Try.ntmps50
 go_upto_if 5 with (first | ((with_reducible refine gate_dst (N := 2) rfl ?_); refine box_event ?hg (N := 2) ?hd (cs := #[.int .i64 0, .int .i64 0, .string (⟨#[]⟩ : ByteArray)]) (t := 24) ?hr ?_; (case hd => rfl); (case hg => rfl); (case hr => first | (go_simp; done) | (go_simp; rfl)); intro gb710 hg w3 hbox hb; have n0_ := Aside0.mk (below_step bO hb); have n1_ := Aside0.mk (hbox); have n2_ := Aside0.mk ((by rw [hg]; exact (below_size bO) : w.heap.size ≤ gb710)); have n3_ := Aside0.mk ((by rw [hg]; exact (below_size bO) : w.heap.size ≤ gb710)); clear HB; have HB := n0_; have BK710 := n1_; have GW710 := n2_; have GE710 := n3_; clear n0_ n1_ n2_ n3_; clear hb hbox hg))
 (try simp only [Act.put, List.setIfInBounds_toArray, List.set_cons_zero, List.set_cons_succ])
 go_cut [5] (fun v5 wc => ∃ (kq : Nat) (x5_1 : Bool), v5 = .bool x5_1 ∧ Aside0 (partsyncref01_First.j0 kq a0 a0 x5_1 = some (r1, r2, r3, r4)) ∧ Aside0 (kq ≤ k) ∧ Aside0 (wc.heap[gb710]? = some (.cells #[.int .i64 0, .int .i64 0, .string (⟨#[]⟩ : ByteArray)] 24 (0, 0))) ∧ Aside0 (Below w.heap.size w wc))
 case first =>
  have H := HC2.out
  clear HC2
  by_cases c4 : a0 = 1
  ·rw [if_pos c4] at H
   have c4b0 : (a0 == 1) = true := beq_iff_eq.mpr c4
   have c4b1 : (a0 != 1) = false := bne_eq_false_iff_eq.mpr c4
   clear c4
   (first | rw [c4b0] | (simp only [i64_w, i32_w]; rw [c4b0]) | skip)
   have H' := Aside0.mk H
   clear H
   go_wp2
   go_meet
   case rel => exact ⟨_, ((a0 == 1)), (by first | rfl | (simp; done) | (simp [*]; done)), H', ⟨by first | omega | exact Nat.le_refl _⟩, ⟨by (with_reducible repeat (first | refine blk_drewN ?_ _ | refine blk_drew ?_ | refine blk_alloc ?_ _)); exact BK710.out⟩, ⟨bS GE710.out⟩⟩
  ·rw [if_neg c4] at H
   have c4b0 : (a0 == 1) = false := beq_eq_false_iff_ne.mpr c4
   have c4b1 : (a0 != 1) = true := bne_iff_ne.mpr c4
   (first | rw [c4b0] | (simp only [i64_w, i32_w]; rw [c4b0]) | skip)
   by_cases c5 : a0 = 2
   ·rw [if_pos c5] at H
    have c5b0 : (a0 == 2) = true := beq_iff_eq.mpr c5
    have c5b1 : (a0 != 2) = false := bne_eq_false_iff_eq.mpr c5
    clear c5
    have H' := Aside0.mk H
    clear H
    go_wp2
    go_meet
    case rel => exact ⟨_, ((a0 == 2)), (by first | rfl | (simp; done) | (simp [*]; done)), H', ⟨by first | omega | exact Nat.le_refl _⟩, ⟨by (with_reducible repeat (first | refine blk_drewN ?_ _ | refine blk_drew ?_ | refine blk_alloc ?_ _)); exact BK710.out⟩, ⟨bS GE710.out⟩⟩
   ·rw [if_neg c5] at H
    have c5b0 : (a0 == 2) = false := beq_eq_false_iff_ne.mpr c5
    have c5b1 : (a0 != 2) = true := bne_iff_ne.mpr c5
    by_cases c6 : a0 = 3
    ·rw [if_pos c6] at H
     have c6b0 : (a0 == 3) = true := beq_iff_eq.mpr c6
     have c6b1 : (a0 != 3) = false := bne_eq_false_iff_eq.mpr c6
     clear c6
     have H' := Aside0.mk H
     clear H
     go_wp2
     go_meet
     case rel => exact ⟨_, ((a0 == 3)), (by first | rfl | (simp; done) | (simp [*]; done)), H', ⟨by first | omega | exact Nat.le_refl _⟩, ⟨by (with_reducible repeat (first | refine blk_drewN ?_ _ | refine blk_drew ?_ | refine blk_alloc ?_ _)); exact BK710.out⟩, ⟨bS GE710.out⟩⟩
    ·rw [if_neg c6] at H
     have c6b0 : (a0 == 3) = false := beq_eq_false_iff_ne.mpr c6
     have c6b1 : (a0 != 3) = true := bne_iff_ne.mpr c6
     have H' := Aside0.mk H
     clear H
     go_wp2
     go_meet
     case rel => exact ⟨_, ((a0 == 5)), (by first | rfl | (simp; done) | (simp [*]; done)), H', ⟨by first | omega | exact Nat.le_refl _⟩, ⟨by (with_reducible repeat (first | refine blk_drewN ?_ _ | refine blk_drew ?_ | refine blk_alloc ?_ _)); exact BK710.out⟩, ⟨bS GE710.out⟩⟩
 case rest =>
  clear HC2
  try clear p2
  try clear c4
  try clear c4b0
  try clear c4b1
  try clear c5
  try clear c5b0
  try clear c5b1
  try clear c6
  try clear c6b0
  try clear c6b1
  obtain ⟨kq, x5_1, rfl, HA, HJ1, BK710, HB⟩ := hcut
  cases kq with
  | zero => exact absurd HA.out (by simp [partsyncref01_First.j0])
  | succ kj1 =>
   have H := HA.out
   clear HA
   simp only [partsyncref01_First.j0] at H
   by_cases c7 : x5_1 = true
   ·subst c7
    have H1 : (some (a0, 0, (⟨#[]⟩ : ByteArray), true)) = some (r1, r2, r3, r4) := by rw [if_pos rfl] at H; exact H
    clear H
    have H := H1
    clear H1
    simp only [Option.some.injEq, Prod.mk.injEq] at H
    obtain ⟨rfl, rfl, rfl, rfl⟩ := H
    have hcz8_0 : wc.cell? ⟨gb710, 0, none⟩ = some (.int .i64 0) := (blk_cell BK710.out 0).trans rfl
    have hcz8_1 : wc.cell? ⟨gb710, 1, none⟩ = some (.int .i64 0) := (blk_cell BK710.out 1).trans rfl
    have hcz8_2 : wc.cell? ⟨gb710, 2, none⟩ = some (.string (⟨#[]⟩ : ByteArray)) := (blk_cell BK710.out 2).trans rfl
    have hfz8_0 := blk_frozen BK710.out 0
    have hfz8_1 := blk_frozen BK710.out 1
    have hfz8_2 := blk_frozen BK710.out 2
    go_wp2
    refine bodyPost_ret (results_ct rfl _ _ gb710 24 #[.int .i64 a0, .int .i64 0, .string (⟨#[]⟩ : ByteArray)] (0, 0) _ rfl (by (with_reducible repeat (first | refine blk_drewN ?_ _ | refine blk_drew ?_ | refine blk_alloc ?_ _)); refine blk_put (cs := #[.int .i64 a0, .int .i64 0, .string (⟨#[]⟩ : ByteArray)]) ?_ 2 _ rfl; (with_reducible repeat (first | refine blk_drewN ?_ _ | refine blk_drew ?_ | refine blk_alloc ?_ _)); refine blk_put (cs := #[.int .i64 a0, .int .i64 0, .string (⟨#[]⟩ : ByteArray)]) ?_ 1 _ rfl; (with_reducible repeat (first | refine blk_drewN ?_ _ | refine blk_drew ?_ | refine blk_alloc ?_ _)); refine blk_put (cs := #[.int .i64 0, .int .i64 0, .string (⟨#[]⟩ : ByteArray)]) ?_ 0 _ rfl; (with_reducible repeat (first | refine blk_drewN ?_ _ | refine blk_drew ?_ | refine blk_alloc ?_ _)); exact BK710.out) Try.underlying24 rfl (by kernel_rfl)) rfl ?_
    exact ⟨by first | rfl | (simp [errW_none, errW_some] <;> rfl) | (simp [*, errW_none, errW_some] <;> rfl), by repeat (first | (with_reducible first | exact HB.out | apply below_alloc | apply pw_below_drewN | apply below_drew1 | refine below_set ?_ GE710.out) | exact HB.out)⟩
   ·replace c7 := Bool.eq_false_iff.mpr c7
    subst c7
    have H1 : (if a0 = 4 then (some (a0, (-9223372036854775808), (⟨#[]⟩ : ByteArray), true)) else (some (0, 0, (⟨#[]⟩ : ByteArray), false))) = some (r1, r2, r3, r4) := by rw [if_neg (show ¬ (false = true) by decide)] at H; exact H
    clear H
    have H := H1
    clear H1
    by_cases c9 : a0 = 4
    ·rw [if_pos c9] at H
     have c9b0 : (a0 == 4) = true := beq_iff_eq.mpr c9
     have c9b1 : (a0 != 4) = false := bne_eq_false_iff_eq.mpr c9
     clear c9
     simp only [Option.some.injEq, Prod.mk.injEq] at H
     obtain ⟨rfl, rfl, rfl, rfl⟩ := H
     have hcz10_0 : wc.cell? ⟨gb710, 0, none⟩ = some (.int .i64 0) := (blk_cell BK710.out 0).trans rfl
     have hcz10_1 : wc.cell? ⟨gb710, 1, none⟩ = some (.int .i64 0) := (blk_cell BK710.out 1).trans rfl
     have hcz10_2 : wc.cell? ⟨gb710, 2, none⟩ = some (.string (⟨#[]⟩ : ByteArray)) := (blk_cell BK710.out 2).trans rfl
     have hfz10_0 := blk_frozen BK710.out 0
     have hfz10_1 := blk_frozen BK710.out 1
     have hfz10_2 := blk_frozen BK710.out 2
     go_wp2
     refine bodyPost_ret (results_ct rfl _ _ gb710 24 #[.int .i64 a0, .int .i64 (-9223372036854775808), .string (⟨#[]⟩ : ByteArray)] (0, 0) _ rfl (by (with_reducible repeat (first | refine blk_drewN ?_ _ | refine blk_drew ?_ | refine blk_alloc ?_ _)); refine blk_put (cs := #[.int .i64 a0, .int .i64 (-9223372036854775808), .string (⟨#[]⟩ : ByteArray)]) ?_ 2 _ rfl; (with_reducible repeat (first | refine blk_drewN ?_ _ | refine blk_drew ?_ | refine blk_alloc ?_ _)); refine blk_put (cs := #[.int .i64 a0, .int .i64 0, .string (⟨#[]⟩ : ByteArray)]) ?_ 1 _ rfl; (with_reducible repeat (first | refine blk_drewN ?_ _ | refine blk_drew ?_ | refine blk_alloc ?_ _)); refine blk_put (cs := #[.int .i64 0, .int .i64 0, .string (⟨#[]⟩ : ByteArray)]) ?_ 0 _ rfl; (with_reducible repeat (first | refine blk_drewN ?_ _ | refine blk_drew ?_ | refine blk_alloc ?_ _)); exact BK710.out) Try.underlying24 rfl (by kernel_rfl)) rfl ?_
     exact ⟨by first | rfl | (simp [errW_none, errW_some] <;> rfl) | (simp [*, errW_none, errW_some] <;> rfl), by repeat (first | (with_reducible first | exact HB.out | apply below_alloc | apply pw_below_drewN | apply below_drew1 | refine below_set ?_ GE710.out) | exact HB.out)⟩
    ·rw [if_neg c9] at H
     have c9b0 : (a0 == 4) = false := beq_eq_false_iff_ne.mpr c9
     have c9b1 : (a0 != 4) = true := bne_iff_ne.mpr c9
     simp only [Option.some.injEq, Prod.mk.injEq] at H
     obtain ⟨rfl, rfl, rfl, rfl⟩ := H
     have hcz11_0 : wc.cell? ⟨gb710, 0, none⟩ = some (.int .i64 0) := (blk_cell BK710.out 0).trans rfl
     have hcz11_1 : wc.cell? ⟨gb710, 1, none⟩ = some (.int .i64 0) := (blk_cell BK710.out 1).trans rfl
     have hcz11_2 : wc.cell? ⟨gb710, 2, none⟩ = some (.string (⟨#[]⟩ : ByteArray)) := (blk_cell BK710.out 2).trans rfl
     have hfz11_0 := blk_frozen BK710.out 0
     have hfz11_1 := blk_frozen BK710.out 1
     have hfz11_2 := blk_frozen BK710.out 2
     go_wp2
     refine bodyPost_ret (results_ct rfl _ _ gb710 24 #[.int .i64 0, .int .i64 0, .string (⟨#[]⟩ : ByteArray)] (0, 0) _ rfl (by (with_reducible repeat (first | refine blk_drewN ?_ _ | refine blk_drew ?_ | refine blk_alloc ?_ _)); refine blk_put (cs := #[.int .i64 0, .int .i64 0, .string (⟨#[]⟩ : ByteArray)]) ?_ 2 _ rfl; (with_reducible repeat (first | refine blk_drewN ?_ _ | refine blk_drew ?_ | refine blk_alloc ?_ _)); refine blk_put (cs := #[.int .i64 0, .int .i64 0, .string (⟨#[]⟩ : ByteArray)]) ?_ 1 _ rfl; (with_reducible repeat (first | refine blk_drewN ?_ _ | refine blk_drew ?_ | refine blk_alloc ?_ _)); refine blk_put (cs := #[.int .i64 0, .int .i64 0, .string (⟨#[]⟩ : ByteArray)]) ?_ 0 _ rfl; (with_reducible repeat (first | refine blk_drewN ?_ _ | refine blk_drew ?_ | refine blk_alloc ?_ _)); exact BK710.out) Try.underlying24 rfl (by kernel_rfl)) rfl ?_
     exact ⟨by first | rfl | (simp [errW_none, errW_some] <;> rfl) | (simp [*, errW_none, errW_some] <;> rfl), by repeat (first | (with_reducible first | exact HB.out | apply below_alloc | apply pw_below_drewN | apply below_drew1 | refine below_set ?_ GE710.out) | exact HB.out)⟩
end Go.Proofs.Ytpjcdacnhalclaa.Q
