/- A part of a proof: facts of functions that the law calls; conditions stand in each. -/
import Derived.Test.YtpjcdacnhalclaaM17x3
import Derived.Test.YtpjcdacnhalclaaM17x26
import Derived.Test.YtpjcdacnhalclaaM17x12
import Derived.Test.YtpjcdacnhalclaaM17x10
import Derived.Test.YtpjcdacnhalclaaM17x22
import Derived.Test.YtpjcdacnhalclaaM17x23
import Derived.Test.YtpjcdacnhalclaaM17x15
import Derived.Test.YtpjcdacnhalclaaM17x28
import Derived.Test.YtpjcdacnhalclaaM17x29
import Derived.Test.YtpjcdacnhalclaaM17x11
import Derived.Test.YtpjcdacnhalclaaM17x21
import Derived.Test.YtpjcdacnhalclaaM17x27
import Derived.Test.YtpjcdacnhalclaaM17x7
import Derived.Test.YtpjcdacnhalclaaM17x24
import Derived.Test.YtpjcdacnhalclaaM17x25
import Derived.Test.YtpjcdacnhalclaaM17x8
import Derived.Test.YtpjcdacnhalclaaM17x17
import Derived.Test.YtpjcdacnhalclaaRows
import Derived.Test.YtpjcdacnhalclaaM17x5
set_option linter.unusedVariables false
set_option linter.unusedSimpArgs false
namespace Go.Proofs.Ytpjcdacnhalclaa.Q
open Go.RowKit Go.Proofs.YtpjcdacnhalclaaW.PrintWords Go.Proofs.YtpjcdacnhalclaaW.PrintLast Go.Proofs.YtpjcdacnhalclaaW.PrintMore
attribute [local go_sem] max2_int min2_int max_two min_two max_three min_three max_four min_four
def gapP (l : List S65) : Nat → Bool
 | 0 => true
 | j + 1 => match l[j]? with
  | some y => gapOk y (l.drop (j + 1))
  | none => true
theorem gapP_at (l : List S65) (j : Nat) (h : j < l.length) : gapP l (j + 1) = gapOk l[j] (l.drop (j + 1)) := by
 show (match l[j]? with | some y => gapOk y (l.drop (j + 1)) | none => true) = _
 rw [List.getElem?_eq_getElem h]
theorem r3_Ordered.at_ (l : List S65) (hl : l.length < 4611686018427387904) : ∀ (m i : Nat), l.length - i = m → i ≤ l.length → Ev (fun k => r3_Ordered.l0 k l l l.length i) (gapP l i && ordI (l.drop i)) := by
 intro m
 induction m with
 | zero =>
  intro i hm hi
  have e : l.drop i = [] := List.drop_eq_nil_iff.2 (by omega)
  have g : gapP l i = true := by
   cases i with
   | zero => rfl
   | succ j =>
    rw [gapP_at l j (by omega), e]
    rfl
  rw [e, g]
  exact Ev.step (f := fun _ => some true) (fun k => by rw [r3_Ordered.l0, if_neg (by omega)]) (Ev.now _)
 | succ m ih =>
  intro i hm hi
  have hil : i < l.length := by omega
  have hw : wrap64 ((i : Int) + 1) = ((i + 1 : Nat) : Int) := wrap64_succ (by omega)
  have hp : wrap64 ((l.length : Int) - 1) = (l.length : Int) - 1 := by unfold wrap64; omega
  have ih' := ih (i + 1) (by omega) (by omega)
  have hg1 : gapP l (i + 1) = gapOk l[i] (l.drop (i + 1)) := gapP_at l i hil
  rw [hg1] at ih'
  have hgp : ∀ (x : S65) (hx : l[i] = x), (i = 0 ∧ gapP l i = true) ∨ ∃ (h0 : 0 < i) (h1 : i - 1 < l.length), gapP l i = decide (cmpV l[i - 1].f1 x.f0 < 0) := by
   intro x hx
   cases i with
   | zero => exact .inl ⟨rfl, rfl⟩
   | succ j =>
    refine .inr ⟨by omega, by omega, ?_⟩
    rw [gapP_at l j (by omega), List.drop_eq_getElem_cons hil, hx]
    rfl
  rw [List.drop_eq_getElem_cons hil]
  generalize hx : l[i] = x at ih'
  generalize hr : ordI (l.drop (i + 1)) = r at ih'
  have hgp := hgp x hx
  have ho : ordI (x :: l.drop (i + 1)) = (headOk x (l.drop (i + 1)) && (if x.f2 = true then true else gapOk x (l.drop (i + 1))) && r) := by rw [ordI, hr]
  rw [ho]
  have back : Ev (fun k => if (i : Int) > 0 then (if 0 ≤ (wrap64 ((i : Int) - 1)) then (if (wrap64 ((i : Int) - 1)) < (l.length : Int) then ((r1_Compare.f ((rd_T65 l (wrap64 ((i : Int) - 1))).f1.f0) ((rd_T65 l (wrap64 ((i : Int) - 1))).f1.f1) ((rd_T65 l (wrap64 ((i : Int) - 1))).f1.f2) x.f0.f0 x.f0.f1 x.f0.f2).bind fun t968 => (if t968 ≥ 0 then (some false) else (r3_Ordered.l0 k l l l.length (wrap64 ((i : Int) + 1))))) else (none)) else (none)) else (r3_Ordered.l0 k l l l.length (wrap64 ((i : Int) + 1)))) (gapP l i && (gapOk x (l.drop (i + 1)) && r)) := by
   rcases hgp with ⟨h0, hg⟩ | ⟨h0, h1, hg⟩
   ·rw [hg, Bool.true_and]
    refine Ev.congr (fun k => by rw [if_neg (by omega), hw]) ih'
   ·rw [hg]
    have hq : wrap64 ((i : Int) - 1) = ((i - 1 : Nat) : Int) := by unfold wrap64; omega
    refine Ev.congr (fun k => by rw [if_pos (by omega), hq, if_pos (by omega), if_pos (by omega), rd_T65_nat l (i - 1) h1, r1_Compare.some_ l[i - 1].f1 x.f0, Option.bind_some, hw]) ?_
    by_cases hc : cmpV l[i - 1].f1 x.f0 ≥ 0
    ·refine Ev.congr (fun k => if_pos hc) ?_
     rw [decide_eq_false (by omega)]
     exact Ev.now _
    ·refine Ev.congr (fun k => if_neg hc) ?_
     rw [decide_eq_true (by omega)]
     exact ih'
  refine Ev.step (fun k => by rw [r3_Ordered.l0, if_pos (by omega), if_pos (by omega), if_pos (by omega), rd_T65_nat l i hil, hx, hp, notz]) ?_
  refine Ev.bind (r1_Valid.ev _ _ _) ?_
  unfold headOk
  have f0 : ∀ q : Bool, (q && false) = false := fun q => Bool.and_false q
  by_cases hv : validV x.f0.f0 x.f0.f1 x.f0.f2 = true
  ·have hv' : validS x.f0 = true := hv
   simp only [hv, hv', if_true, Bool.true_and]
   by_cases h2 : x.f2 = true
   ·simp only [h2, if_true, Bool.and_true]
    have step : ∀ b : Bool, Ev (fun k => r3_Ordered.j1 k l i l l.length i b x.f0.f0 x.f0.f1 x.f0.f2 x.f1.f0 x.f1.f1 x.f1.f2 true) (!b && (gapP l i && (gapOk x (l.drop (i + 1)) && r))) := by
     intro b
     refine Ev.step (fun k => by rw [r3_Ordered.j1]) ?_
     cases b
     ·simp only [Bool.false_eq_true, if_false, Bool.not_false, Bool.true_and]
      exact back
     ·simp only [if_true, Bool.not_true, Bool.false_and]
      exact Ev.now _
    by_cases hn : i + 1 < l.length
    ·have e : (l.drop (i + 1)).isEmpty = false := by rw [List.drop_eq_getElem_cons hn]; rfl
     rw [e]
     refine Ev.congr (fun k => if_pos (by omega)) ?_
     have := step true
     simpa using this
    ·have e : l.drop (i + 1) = [] := List.drop_eq_nil_iff.2 (by omega)
     rw [e] at step ⊢
     refine Ev.congr (fun k => if_neg (by omega)) ?_
     generalize (x.f1.f0 == 0 && (x.f1.f1 == 0 && (x.f1.f2.toList == ([] : List UInt8)))) = z
     have := step (!z)
     have q : (!(!z) && (gapP l i && (gapOk x [] && r))) = (gapP l i && (([] : List S65).isEmpty && z && r)) := by
      show (!(!z) && (gapP l i && (true && r))) = (gapP l i && (true && z && r))
      cases gapP l i <;> cases z <;> cases r <;> rfl
     rw [q] at this
     exact this
   ·have h2 := Bool.eq_false_iff.2 h2
    simp only [h2, Bool.false_eq_true, if_false]
    refine Ev.bind (r1_Valid.ev _ _ _) ?_
    have step : ∀ b : Bool, Ev (fun k => r3_Ordered.j2 k l i l l.length i b x.f0.f0 x.f0.f1 x.f0.f2 x.f1.f0 x.f1.f1 x.f1.f2 false) (!b && (gapP l i && (gapOk x (l.drop (i + 1)) && r))) := by
     intro b
     refine Ev.step (fun k => by rw [r3_Ordered.j2]) ?_
     cases b
     ·simp only [Bool.false_eq_true, if_false, Bool.not_false, Bool.true_and]
      exact back
     ·simp only [if_true, Bool.not_true, Bool.false_and]
      exact Ev.now _
    by_cases hv1 : validV x.f1.f0 x.f1.f1 x.f1.f2 = true
    ·have hv1' : validS x.f1 = true := hv1
     simp only [hv1, hv1', if_true, Bool.true_and, r1_Compare.some_, Option.bind_some]
     have := step (decide (cmpV x.f0 x.f1 ≥ 0))
     rw [show decide (cmpV x.f0 x.f1 < 0) = !decide (cmpV x.f0 x.f1 ≥ 0) by rw [← decide_not]; congr 1; exact propext ⟨fun _ => by omega, fun _ => by omega⟩]
     refine cast (congrArg (Ev _) ?_) this
     generalize gapOk x (l.drop (i + 1)) = z
     cases gapP l i <;> cases decide (cmpV x.f0 x.f1 ≥ 0) <;> cases z <;> cases r <;> rfl
    ·have hv1' : validS x.f1 = false := Bool.eq_false_iff.2 hv1
     simp only [Bool.eq_false_iff.2 hv1, hv1', if_false, Bool.false_and, Bool.false_eq_true, Bool.and_false]
     have := step true
     simpa using this
  ·have hv' : validS x.f0 = false := Bool.eq_false_iff.2 hv
   simp only [Bool.eq_false_iff.2 hv, hv', Bool.false_and, Bool.false_eq_true, if_false, Bool.and_false]
   exact Ev.now _
theorem r3_Valid.ev (l : List S65) : Ev (fun k => r3_Valid.f k l) (okI l) := by
 unfold okI
 by_cases h : l.length ≤ 64
 ·rw [decide_eq_true h, Bool.true_and]
  have := r3_Ordered.at_ l (by omega) l.length 0 rfl (Nat.zero_le _)
  have e : (gapP l 0 && ordI (l.drop 0)) = ordI l := by rw [List.drop_zero]; exact Bool.true_and _
  rw [e] at this
  refine Ev.congr (f := fun k => (r3_Ordered.f k l).bind fun t => some t) (fun k => by unfold r3_Valid.f; rw [if_pos (by omega)]) ?_
  exact Ev.bind this (Ev.now _)
 ·rw [decide_eq_false h, Bool.false_and]
  exact Ev.congr (fun k => by unfold r3_Valid.f; rw [if_neg (by omega)]) (Ev.now _)
theorem r3_Do.ok (op : Int) {a b : List S65} (ha : okI a = true) (hb : okI b = true) : ∃ r, IsOp (opK op) a b r ∧ Ev (fun k => r3_Do.f k op a b) (if r.length > 64 then ([], 2) else (r, 0)) := by
 obtain ⟨la, ca⟩ := okI_can.1 ha
 obtain ⟨lb, cb⟩ := okI_can.1 hb
 obtain ⟨r, hr, _, e⟩ := r3_Combine.op op (a := a) (b := b) (by omega) (by omega) ca cb
 refine ⟨r, hr, ?_⟩
 unfold r3_Do.f
 refine Ev.bind (r3_Valid.ev a) ?_
 simp only [ha, if_true]
 refine Ev.bind (r3_Valid.ev b) ?_
 simp only [hb, Bool.not_true]
 refine Ev.step (fun k => by rw [r3_Do.j0]) ?_
 simp only [Bool.false_eq_true, if_false]
 refine Ev.bind e ?_
 unfold partsyncref03_limited.f
 by_cases hc : r.length > 64
 ·rw [if_pos hc]
  exact Ev.congr (fun k => by rw [if_pos (by omega)]; rfl) (Ev.now _)
 ·rw [if_neg hc]
  exact Ev.congr (fun k => by rw [if_neg (by omega)]; rfl) (Ev.now _)
theorem r3_Do.not (op : Int) {a b : List S65} (h : (okI a && okI b) = false) : Ev (fun k => r3_Do.f k op a b) ([], 30) := by
 unfold r3_Do.f
 refine Ev.bind (r3_Valid.ev a) ?_
 have bad : Ev (fun k => r3_Do.j0 k op a b true) ([], 30) := Ev.step (fun k => by rw [r3_Do.j0]) (Ev.congr (fun k => if_pos rfl) (Ev.now _))
 by_cases ha : okI a = true
 ·simp only [ha, if_true]
  refine Ev.bind (r3_Valid.ev b) ?_
  rw [ha, Bool.true_and] at h
  simp only [h, Bool.not_false]
  exact bad
 ·simp only [Bool.eq_false_iff.2 ha, if_false, Bool.false_eq_true]
  exact bad
theorem both_do (kp : Bool → Bool → Bool) (op : Int) (hk : opK op = kp) (a b : List S65) : ∃ t : List S65 × Int, t.1.length ≤ 64 ∧ Ev (fun k => i_combine.f k a b kp) t ∧ Ev (fun k => r3_Do.f k op a b) t := by
 by_cases h : (okI a && okI b) = true
 ·obtain ⟨ha, hb⟩ := Bool.and_eq_true_iff.1 h
  obtain ⟨r, hr, e⟩ := i_combine.ok kp ha hb
  obtain ⟨q, hq, f⟩ := r3_Do.ok op ha hb
  rw [hk] at hq
  obtain rfl := hr.same hq
  refine ⟨_, ?_, e, f⟩
  split
  ·simp
  ·show r.length ≤ 64
   omega
 ·have h := Bool.eq_false_iff.2 h
  exact ⟨_, by simp, i_combine.not kp h, r3_Do.not op h⟩
theorem opK_or : opK 1 = kOr := by unfold opK; rw [if_pos rfl]
theorem opK_and : opK 2 = kAnd := by unfold opK; rw [if_neg (by decide), if_pos rfl]
theorem opK_minus : opK 3 = kMinus := by unfold opK; rw [if_neg (by decide), if_neg (by decide)]
theorem both_Union (a b : List S65) : ∃ t : List S65 × Int, t.1.length ≤ 64 ∧ Ev (fun k => i_Union.f k a b) t ∧ Ev (fun k => r3_Union.f k a b) t := by
 obtain ⟨t, h, e, f⟩ := both_do kOr 1 opK_or a b
 refine ⟨t, h, ?_, ?_⟩
 ·unfold i_Union.f; exact Ev.bind e (Ev.now _)
 ·unfold r3_Union.f; exact Ev.bind f (Ev.now _)
theorem both_Intersect (a b : List S65) : ∃ t : List S65 × Int, t.1.length ≤ 64 ∧ Ev (fun k => i_Intersect.f k a b) t ∧ Ev (fun k => r3_Intersect.f k a b) t := by
 obtain ⟨t, h, e, f⟩ := both_do kAnd 2 opK_and a b
 refine ⟨t, h, ?_, ?_⟩
 ·unfold i_Intersect.f; exact Ev.bind e (Ev.now _)
 ·unfold r3_Intersect.f; exact Ev.bind f (Ev.now _)
theorem both_Minus (a b : List S65) : ∃ t : List S65 × Int, t.1.length ≤ 64 ∧ Ev (fun k => i_Minus.f k a b) t ∧ Ev (fun k => r3_Minus.f k a b) t := by
 obtain ⟨t, h, e, f⟩ := both_do kMinus 3 opK_minus a b
 refine ⟨t, h, ?_, ?_⟩
 ·unfold i_Minus.f; exact Ev.bind e (Ev.now _)
 ·unfold r3_Minus.f; exact Ev.bind f (Ev.now _)
theorem all_can : Can [⟨leastS, zS, true⟩] := .last _ least_valid
theorem all_ok : okI [⟨leastS, zS, true⟩] = true := okI_can.2 ⟨by simp, all_can⟩
theorem all_in {v : S24} (h : validS v = true) : inI [⟨leastS, zS, true⟩] v = true := by rw [inI_one, (oneI_iff _ _).2 ⟨least_le h, .inl rfl⟩]
theorem nil_ok : okI [] = true := okI_can.2 ⟨by simp, .nil⟩
theorem both_Complement (a : List S65) : ∃ t : List S65 × Int, t.1.length ≤ 64 ∧ Ev (fun k => i_Complement.f k a) t ∧ Ev (fun k => r3_Complement.f k a) t := by
 have w : ∃ t : List S65 × Int, t.1.length ≤ 64 ∧ Ev (fun k => i_combine.f k a [] kNot) t ∧ Ev (fun k => r3_Do.f k 3 [⟨leastS, zS, true⟩] a) t := by
  by_cases h : okI a = true
  ·obtain ⟨r, hr, e⟩ := i_combine.ok kNot h nil_ok
   obtain ⟨q, hq, f⟩ := r3_Do.ok 3 all_ok h
   rw [opK_minus] at hq
   obtain rfl : r = q := hr.can.unique hq.can fun v hv => by
    rw [hr.mem v hv, hq.mem v hv, all_in hv]
    simp only [kNot, kMinus, Bool.true_and]
   refine ⟨_, ?_, e, f⟩
   split
   ·simp
   ·show r.length ≤ 64
    omega
  ·have h := Bool.eq_false_iff.2 h
   exact ⟨_, by simp, i_combine.not kNot (by rw [h]; rfl), r3_Do.not 3 (by rw [h]; exact Bool.and_false _)⟩
 obtain ⟨t, h, e, f⟩ := w
 refine ⟨t, h, ?_, ?_⟩
 ·unfold i_Complement.f; exact Ev.bind e (Ev.now _)
 ·unfold r3_Complement.f
  have hall : r3_All.f = some [⟨leastS, zS, true⟩] := rfl
  simp only [hall, Option.bind_some]
  exact Ev.bind f (Ev.now _)
theorem both_Covers (a b : List S65) : ∃ t : Bool × Int, Ev (fun k => i_Covers.f k a b) t ∧ Ev (fun k => r3_Covers.f k a b) t := by
 by_cases ha : okI a = true
 ·by_cases hb : okI b = true
  ·obtain ⟨r, hr, e⟩ := i_Covers.ok ha hb
   obtain ⟨la, ca⟩ := okI_can.1 ha
   obtain ⟨lb, cb⟩ := okI_can.1 hb
   obtain ⟨q, hq, _, f⟩ := r3_Combine.op 3 (a := b) (b := a) (by omega) (by omega) cb ca
   rw [opK_minus] at hq
   obtain rfl : r = q := hr.can.unique hq.can fun v hv => by
    rw [hr.mem v hv, hq.mem v hv]
    simp only [kCov, kMinus]
   refine ⟨_, e, ?_⟩
   unfold r3_Covers.f
   refine Ev.bind (r3_Valid.ev a) ?_
   simp only [ha, if_true]
   refine Ev.bind (r3_Valid.ev b) ?_
   simp only [hb, if_true]
   exact Ev.bind f (Ev.now _)
  ·have hb := Bool.eq_false_iff.2 hb
   refine ⟨(false, 30), ?_, ?_⟩
   ·unfold i_Covers.f
    refine Ev.bind (i_Valid.ev a) ?_
    simp only [ha, if_true]
    refine Ev.bind (i_Valid.ev b) ?_
    simp only [hb, if_false, Bool.false_eq_true]
    exact Ev.now _
   ·unfold r3_Covers.f
    refine Ev.bind (r3_Valid.ev a) ?_
    simp only [ha, if_true]
    refine Ev.bind (r3_Valid.ev b) ?_
    simp only [hb, if_false, Bool.false_eq_true]
    exact Ev.now _
 ·have ha := Bool.eq_false_iff.2 ha
  refine ⟨(false, 30), ?_, ?_⟩
  ·unfold i_Covers.f
   refine Ev.bind (i_Valid.ev a) ?_
   simp only [ha, if_false, Bool.false_eq_true]
   exact Ev.now _
  ·unfold r3_Covers.f
   refine Ev.bind (r3_Valid.ev a) ?_
   simp only [ha, if_false, Bool.false_eq_true]
   exact Ev.now _
theorem spoilR_len (q : Int) (l : List S65) (i : Int) (v : S24) : (spoilR q l i v).length ≤ l.length + 1 := by
 unfold spoilR
 split <;> simp
theorem l3_spoilt.ok {L : List Int} {i : Int} (h : StOk L i) : ∃ c j, Ev (fun k => l3_spoilt.f k L i) (c, j) ∧ StOk L j ∧ c.length ≤ 64 := by
 unfold l3_spoilt.f
 obtain ⟨l, j1, e1, h1, d⟩ := cc_Interval.ok h
 have hl := lens d.few
 suffices hs : ∃ c j, Ev (fun k => if (l.length : Int) = 0 then ((cc_Any.f k L j1).bind fun bt935 => ((cc_Any.f k L bt935.2.2.2).bind fun bt939 => ((cc_Bool.f L bt939.2.2.2 2).bind fun bt943 => (some ((([(⟨(⟨bt935.1, bt935.2.1, bt935.2.2.1⟩ : S24), (⟨bt939.1, bt939.2.1, bt939.2.2.1⟩ : S24), bt943.1⟩ : S65)] : List (S65))), bt943.2))))) else ((cc_Int.f L j1 (l.length : Int)).bind fun bt948 => ((cc_Int.f L bt948.2 7).bind fun bt950 => (l3_spoilt.t k L l bt948.1 bt950.1 bt950.2)))) (c, j) ∧ StOk L j ∧ c.length ≤ 64 by
  obtain ⟨c, j, e, hj, hc⟩ := hs
  refine ⟨c, j, Ev.bind e1 ?_, hj, hc⟩
  refine Ev.congr (fun k => if_pos (by show 0 + l.length < 1954687338268; omega)) ?_
  exact e
 by_cases h0 : (l.length : Int) = 0
 ·obtain ⟨a, b, c, j2, e2, h2, -⟩ := cc_Any.ok h1
  obtain ⟨a', b', c', j3, e3, h3, -⟩ := cc_Any.ok h2
  obtain ⟨r, j4, e4, h4⟩ := cc_Bool.ok h3 2 (by omega) (by omega)
  refine ⟨[⟨⟨a, b, c⟩, ⟨a', b', c'⟩, r⟩], j4, Ev.congr (fun k => if_pos h0) (Ev.bind e2 (Ev.bind e3 ?_)), h4, by simp⟩
  simp only [e4, Option.bind_some]
  exact Ev.now _
 ·obtain ⟨n, j2, e2, h2, n0, -, n1⟩ := cc_Int.ok h1 l.length (by omega)
  obtain ⟨q, j3, e3, h3, -⟩ := cc_Int.ok h2 7 (by omega)
  have n1 := n1 (by omega)
  suffices hs : ∃ c j, Ev (fun k => l3_spoilt.t k L l n q j3) (c, j) ∧ StOk L j ∧ c.length ≤ 64 by
   obtain ⟨c, j, e, hj, hc⟩ := hs
   refine ⟨c, j, Ev.congr (fun k => if_neg h0) ?_, hj, hc⟩
   simp only [e2, e3, Option.bind_some]
   exact e
  unfold l3_spoilt.t
  by_cases hq : q = 0 ∨ q = 1
  ·obtain ⟨a, b, c, j4, e4, h4, -⟩ := cc_Any.ok h3
   refine ⟨spoilR q l n ⟨a, b, c⟩, j4, Ev.congr (fun k => by rw [if_pos n0, if_pos n1, if_pos hq]) (Ev.bind e4 (Ev.now _)), h4, ?_⟩
   have := spoilR_len q l n ⟨a, b, c⟩
   omega
  ·refine ⟨spoilR q l n z24, j3, Ev.congr (fun k => by rw [if_pos n0, if_pos n1, if_neg hq]) (Ev.now _), h3, ?_⟩
   have := spoilR_len q l n z24
   omega
theorem l3_IntervalCombines.l1_ev (ls : List (List S65)) (hl : ls.length < 4611686018427387904) (a : List S65) (n j : Int) : ∀ (m i : Nat), ls.length - i = m → i ≤ ls.length →
  Ev (fun k => l3_IntervalCombines.l0 k ls ls n (wrap64 (j + 1))) true → Ev (fun k => l3_IntervalCombines.l1 k ls a ls n j ls ls.length i) true := by
 intro m
 induction m with
 | zero =>
  intro i hm hi h
  exact Ev.step (fun k => by rw [l3_IntervalCombines.l1, if_neg (by omega)]) h
 | succ m ih =>
  intro i hm hi h
  have hil : i < ls.length := by omega
  have hw : wrap64 ((i : Int) + 1) = ((i + 1 : Nat) : Int) := wrap64_succ (by omega)
  refine Ev.step (fun k => by rw [l3_IntervalCombines.l1, if_pos (by omega), if_pos (by omega), if_pos (by omega), hw]) ?_
  generalize rd_L7 ls i = b
  obtain ⟨t1, l1, e1, f1⟩ := both_Union a b
  obtain ⟨t2, l2, e2, f2⟩ := both_Intersect a b
  obtain ⟨t3, l3, e3, f3⟩ := both_Minus a b
  obtain ⟨t4, e4, f4⟩ := both_Covers a b
  refine Ev.bind e1 (Ev.bind f1 (Ev.bind e2 (Ev.bind f2 (Ev.bind e3 (Ev.bind f3 (Ev.bind e4 (Ev.bind f4 ?_)))))))
  simp only [if_true, bne_self_eq_false, Bool.false_eq_true, if_false]
  refine Ev.bind (r3_Same.yes rfl (by omega)) ?_
  simp only [if_true]
  refine Ev.bind (r3_Same.yes rfl (by omega)) ?_
  simp only [if_true]
  refine Ev.bind (r3_Same.yes rfl (by omega)) ?_
  simp only [if_true]
  exact ih (i + 1) (by omega) (by omega) h
theorem l3_IntervalCombines.l0_ev (ls : List (List S65)) (hl : ls.length < 4611686018427387904) : ∀ (m i : Nat), ls.length - i = m → i ≤ ls.length → Ev (fun k => l3_IntervalCombines.l0 k ls ls ls.length i) true := by
 intro m
 induction m with
 | zero =>
  intro i hm hi
  refine Ev.step (fun k => by rw [l3_IntervalCombines.l0, if_neg (by omega)]) ?_
  exact Ev.bind l3_begun.ev (Ev.now _)
 | succ m ih =>
  intro i hm hi
  have hil : i < ls.length := by omega
  have hw : wrap64 ((i : Int) + 1) = ((i + 1 : Nat) : Int) := wrap64_succ (by omega)
  refine Ev.step (fun k => by rw [l3_IntervalCombines.l0, if_pos (by omega), if_pos (by omega), if_pos (by omega)]) ?_
  generalize rd_L7 ls i = a
  obtain ⟨t, l, e, f⟩ := both_Complement a
  refine Ev.bind e (Ev.bind f ?_)
  simp only [if_true]
  refine Ev.bind (r3_Same.yes rfl (by omega)) ?_
  refine Ev.step (fun k => by rw [l3_IntervalCombines.j1]) ?_
  simp only [Bool.not_true, Bool.false_eq_true, if_false]
  refine l3_IntervalCombines.l1_ev ls hl a _ _ ls.length 0 rfl (Nat.zero_le _) ?_
  rw [hw]
  exact ih (i + 1) (by omega) (by omega)
theorem l3_IntervalCombines.pure (l : List Int) (hl : ∀ x ∈ l, 0 ≤ x ∧ x ≤ 255) (lr : List S65) : ∃ k, l3_IntervalCombines.f k l lr = some true := by
 refine Ev.rounds (g := fun k => l3_IntervalCombines.f k l lr) ?_
 unfold l3_IntervalCombines.f
 obtain ⟨hn, hst⟩ := cs_New.ok hl 120 (by omega) (by omega)
 rw [hn]
 simp only [Option.bind_some]
 obtain ⟨a, j1, e1, hst1, -⟩ := cc_Interval.ok hst
 obtain ⟨b, j2, e2, hst2, -⟩ := cc_Interval.ok hst1
 obtain ⟨c, j3, e3, hst3, -⟩ := l3_spoilt.ok hst2
 refine Ev.bind e1 (Ev.bind e2 (Ev.bind e3 ?_))
 unfold l3_IntervalCombines.g
 exact l3_IntervalCombines.l0_ev _ (by simp) _ 0 rfl (Nat.zero_le _)
end Go.Proofs.Ytpjcdacnhalclaa.Q
namespace Go.Proofs.Ytpjcdacnhalclaa.intervalCombines
open Go.ChangeShapes Go.WideShapes Go.ChangeAt Go.RowKit Go.Joins
open Go.ChangeMaps (open_string shut_string)
open Go.Proofs.YtpjcdacnhalclaaW.PrintWords Go.Proofs.YtpjcdacnhalclaaW.PrintLast Go.Proofs.YtpjcdacnhalclaaW.PrintMore
set_option maxRecDepth 100000 in
theorem lifted (os : Os) (started : os.Started) (H : Type) (enc : TypeId × Value → H) :
  ReturnsInHanded {} Try.checked os 17 .any (Rows.intervalCombinesSpec.pre6 enc Try.prog Try.f17 Rows.intervalCombinesRow.domain false) (Rows.intervalCombinesSpec.post enc Try.prog Try.f17 false true false false) := by
 refine returnsInHanded_of_change_sized (C := Try.checked) Q.own started (by kernel_rfl) Try.func17
  (ChangeSpec.witness6 (enc := enc) (C := Try.checked) false ⟨#[], #[.slice none 0 0, .slice none 0 0], []⟩ 8 (by kernel_rfl) (by kernel_rfl) (by kernel_rfl) (by kernel_rfl)) ?_
 intro W base args ds gs before hval0 hW hcnd hsz0 _
 have hsz : (DataW.weightsEach Try.prog (Try.f17.params.toList ++ Rows.intervalCombinesSpec.plain.varTypes Try.prog) (ds ++ gs)).all (· ≤ reachBytes) = true := hsz0
 have hval : ∀ (j : Nat) t v, Try.f17.params[j]? = some t → args[j]? = some v → Value.okWide Try.prog W .any base t v := hval0
 have hW' := hW
 obtain ⟨p, q, hA0, hV, rfl, hfz, hnd⟩ := hW
 have hA : DataW.TrodAll enc Try.prog W 0 (fun _ => true) true Try.f17.params.toList args.toList ds p := hA0
 rw [Try.params17] at hA hval hsz
 obtain ⟨v0, vs0, d0, ds0, p0, q0, hargs, rfl, rfl, h0, r0⟩ := trodAll_cons hA
 obtain ⟨v1, vs1, d1, ds1, p1, q1, rfl, rfl, rfl, h1, r1⟩ := trodAll_cons r0
 obtain ⟨rfl, rfl, rfl⟩ := trodAll_nil r1
 obtain rfl : args = #[v0, v1] := by cases args; simp_all
 obtain ⟨rfl, rfl⟩ := trodVars_none hV
 have k0 := h0
 have lt0 : ∀ x ∈ p0, x.block < W.heap.size := by obtain ⟨m, hm⟩ := k0; exact DataW.trod_lt m _ _ _ hm
 obtain ⟨a0, len0, cap0, rfl⟩ := okWide_slice Try.underlying22 (hval 0 22 v0 rfl rfl)
 obtain ⟨z0, w0⟩ : ∃ zs, Q.IsRow .u8 W a0 len0 cap0 zs := by
  obtain ⟨fuel, hf⟩ := h0
  rcases open_ints Try.underlying22 Try.underlying5 (by kernel_rfl) hf with ⟨hcs, _⟩ | ⟨x, l, c, zs, hcs, _, hl, hm, hz, _, hcell, hwz⟩
  ·simp [Value.cells] at hcs
   obtain ⟨rfl, rfl, rfl⟩ := hcs
   exact ⟨[], .inl ⟨rfl, rfl, rfl, rfl⟩⟩
  ·simp [Value.cells] at hcs
   obtain ⟨rfl, rfl, rfl⟩ := hcs
   exact ⟨zs, .inr ⟨_, rfl, hl, hm, by simpa using hz, hcell, hwz⟩⟩
 obtain ⟨l0, rfl, hr0, hm0, hw0, hc0⟩ := ReadsInt.ofRowC w0
 have k1 := h1
 have lt1 : ∀ x ∈ p1, x.block < W.heap.size := by obtain ⟨m, hm⟩ := k1; exact DataW.trod_lt m _ _ _ hm
 obtain ⟨a1, len1, cap1, rfl⟩ := okWide_slice Try.underlying36 (hval 1 36 v1 rfl rfl)
 obtain ⟨fu1, hf1⟩ := h1
 obtain ⟨A1, c1, l1, e1, hc1, hr1⟩ := Q.open_ivals hf1
 simp [Value.cells] at e1
 obtain ⟨rfl, rfl, rfl⟩ := e1
 clear hA0 hval0 hsz0 hsz
 obtain ⟨k, hk⟩ := Q.l3_IntervalCombines.pure l0 (fun x hx => Q.wf_byte (hw0 x hx)) l1
 refine (Q.l3_IntervalCombines.calls k _ _ l0 _ _ l1 true W (Kd.C_of_reads (d := (0 : Int)) (h1 := fun _ => rfl) hr0) hc0 hr1 hc1 hk ⟨rfl⟩).mono fun e W' ⟨he, bel⟩ => ?_
 subst he
 exact ⟨_, rfl, _, _, _, [], _, [], hW', trodAll_mk1 (shut_bool Try.underlying4 _), (trodAll_cons_mk (Below.trod Q.laidOut (by kernel_rfl) (of_decide_eq_true (by kernel_rfl)) k0 bel lt0) (trodAll_cons_mk (Below.trod Q.laidOut (by kernel_rfl) (of_decide_eq_true (by kernel_rfl)) k1 bel lt1) trodAll_mk0)), rfl, bel.frame _, fun h => by cases h⟩
theorem over : Rows.intervalCombinesRow.holds Try.pinned (OpenSpec.ofChange Rows.intervalCombinesSpec) :=
 OpenClaim.holds_of_wide 17 Try.f17 rfl rfl rfl rfl rfl rfl rfl ⟨rfl, rfl, rfl, rfl, rfl⟩ rfl rfl rfl rfl rfl (by kernel_rfl) Try.func17 (by kernel_rfl)
  (of_decide_eq_true (by kernel_rfl)) (by unfold Func.isWrapper; first | (rw [if_pos (by decide +kernel)]; kernel_rfl) | (rw [if_neg (by decide +kernel)]; exact ⟨rfl, rfl⟩))
  (fun os started H enc _ => lifted os started H enc)
theorem proved : Rows.IntervalCombinesSaid := over
end Go.Proofs.Ytpjcdacnhalclaa.intervalCombines
namespace Go.Proofs.Ytpjcdacnhalclaa
theorem intervalCombines_holds : Rows.IntervalCombinesSaid := intervalCombines.proved
#print axioms intervalCombines_holds
end Go.Proofs.Ytpjcdacnhalclaa
