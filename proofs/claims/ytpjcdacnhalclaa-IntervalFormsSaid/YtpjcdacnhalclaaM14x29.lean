/- A part of a proof: facts of functions that the law calls; conditions stand in each. -/
import Derived.Test.YtpjcdacnhalclaaM14x3
import Derived.Test.YtpjcdacnhalclaaM14x5
import Derived.Deep.Slices
import Derived.Deep.Grids
import Derived.Test.YtpjcdacnhalclaaM14x27
import Derived.Test.YtpjcdacnhalclaaM14x21
import Derived.Test.YtpjcdacnhalclaaM14x15
import Derived.Test.YtpjcdacnhalclaaM14x12
import Derived.Test.YtpjcdacnhalclaaM14x10
import Derived.Test.YtpjcdacnhalclaaM14x22
import Derived.Test.YtpjcdacnhalclaaM14x25
import Derived.Test.YtpjcdacnhalclaaM14x11
import Derived.Test.YtpjcdacnhalclaaM14x26
import Derived.Test.YtpjcdacnhalclaaM14x7
import Derived.Test.YtpjcdacnhalclaaM14x23
import Derived.Test.YtpjcdacnhalclaaM14x24
import Derived.Test.YtpjcdacnhalclaaM14x8
import Derived.Test.YtpjcdacnhalclaaM14x17
import Derived.Test.YtpjcdacnhalclaaM14x28
import Derived.Test.YtpjcdacnhalclaaRows
set_option linter.unusedVariables false
set_option linter.unusedSimpArgs false
namespace Go.Proofs.Ytpjcdacnhalclaa.Q
open Go.RowKit Go.Proofs.YtpjcdacnhalclaaW.PrintWords Go.Proofs.YtpjcdacnhalclaaW.PrintLast Go.Proofs.YtpjcdacnhalclaaW.PrintMore
attribute [local go_sem] max2_int min2_int max_two min_two max_three min_three max_four min_four
section
open Go.Joins Go.ChangeShapes Go.WideShapes Go.Deep
variable {H : Type} {enc : TypeId × Value → H} {W : World} {base : Nat} {spare : Nat → Bool} {held : Bool}
theorem open_cells3 {P : Program} {t : TypeId} {f0 f1 f2 : Field} {fuel : Nat} {cs : List Value} {x : DataW H × List MemPlace} (hs : P.underlying t = some (.struct #[f0, f1, f2])) (hone : oneCellFields P #[f0, f1, f2] = true) (hC : P.cellsOf t = 3) (h : DataW.trod enc P W base spare held fuel t cs = some x) :
  ∃ v0 v1 v2 y0 y1 y2 n, cs = [v0, v1, v2] ∧ DataW.trod enc P W base spare held n f0.type [v0] = some y0 ∧ DataW.trod enc P W base spare held n f1.type [v1] = some y1 ∧ DataW.trod enc P W base spare held n f2.type [v2] = some y2 := by
 obtain ⟨y0, y1, y2, n, _, hl, h0, h1, h2⟩ := trod_struct3 hs h
 obtain ⟨o0, k0⟩ := hone_of hone 0 f0 rfl
 obtain ⟨o1, k1⟩ := hone_of hone 1 f1 rfl
 obtain ⟨o2, k2⟩ := hone_of hone 2 f2 rfl
 rw [hC] at hl
 match cs, hl with
 | [c0, c1, c2], _ => exact ⟨c0, c1, c2, y0, y1, y2, n, rfl, by simpa [o0, k0] using h0, by simpa [o1, k1] using h1, by simpa [o2, k2] using h2⟩
theorem open_value {fuel : Nat} {cs : List Value} {x : DataW H × List MemPlace} (h : DataW.trod enc Try.prog W base spare held fuel 24 cs = some x) : ∃ y : S24, cs = [.int .i64 y.f0, .int .i64 y.f1, .string y.f2] ∧ -9223372036854775808 ≤ y.f1 ∧ y.f1 ≤ 9223372036854775807 := by
 obtain ⟨v0, v1, v2, y0, y1, y2, n, rfl, h0, h1, h2⟩ := open_cells3 Try.underlying24 (by kernel_rfl) (by kernel_rfl) h
 obtain ⟨a, e0, _, _⟩ := DataW.trod_int Try.underlying3 h0
 obtain ⟨b, e1, _, w1⟩ := DataW.trod_int Try.underlying2 h1
 obtain ⟨c, e2, _, _⟩ := DataW.trod_string Try.underlying9 h2
 injection e0 with e0 _
 injection e1 with e1 _
 injection e2 with e2 _
 subst e0 e1 e2
 exact ⟨⟨a, b, c⟩, rfl, wf_int w1⟩
theorem cells24_ : Try.prog.cellsOf 24 = 3 := by kernel_rfl
end
end Go.Proofs.Ytpjcdacnhalclaa.Q
namespace Go.Proofs.Ytpjcdacnhalclaa.Q
open Go.RowKit Go.Proofs.YtpjcdacnhalclaaW.PrintWords Go.Proofs.YtpjcdacnhalclaaW.PrintLast Go.Proofs.YtpjcdacnhalclaaW.PrintMore
attribute [local go_sem] max2_int min2_int max_two min_two max_three min_three max_four min_four
section
open Go.Joins Go.ChangeShapes Go.WideShapes Go.Deep
variable {H : Type} {enc : TypeId × Value → H} {W : World} {base : Nat} {spare : Nat → Bool} {held : Bool}
theorem cells65_ : Try.prog.cellsOf 65 = 7 := by kernel_rfl
set_option maxRecDepth 100000 in
theorem open_ival {fuel : Nat} {cs : List Value} {x : DataW H × List MemPlace} (h : DataW.trod enc Try.prog W base spare held fuel 65 cs = some x) : ∃ y : S65, cs = [.int .i64 y.f0.f0, .int .i64 y.f0.f1, .string y.f0.f2, .int .i64 y.f1.f0, .int .i64 y.f1.f1, .string y.f1.f2, .bool y.f2] := by
 obtain ⟨y0, y1, y2, n, _, hl, h0, h1, h2⟩ := trod_struct3 Try.underlying65 h
 rw [cells65_] at hl
 match cs, hl with
 | [a, b, c, d, e, f, g], _ =>
  have h0 : DataW.trod enc Try.prog W base spare held n 24 ([a, b, c, d, e, f, g].take (Try.prog.cellsOf 24)) = some y0 := h0
  have h1 : DataW.trod enc Try.prog W base spare held n 24 ([d, e, f, g].take (Try.prog.cellsOf 24)) = some y1 := h1
  have h2 : DataW.trod enc Try.prog W base spare held n 4 ([g].take (Try.prog.cellsOf 4)) = some y2 := h2
  rw [cells24_] at h0 h1
  rw [show Try.prog.cellsOf 4 = 1 by kernel_rfl] at h2
  obtain ⟨u, e0, _⟩ := open_value (cs := [a, b, c]) h0
  obtain ⟨v, e1, _⟩ := open_value (cs := [d, e, f]) h1
  obtain ⟨q, e2, _⟩ := DataW.trod_bool (cs := [g]) Try.underlying4 h2
  simp only [List.cons.injEq, and_true] at e0 e1 e2
  obtain ⟨rfl, rfl, rfl⟩ := e0
  obtain ⟨rfl, rfl, rfl⟩ := e1
  subst e2
  exact ⟨⟨u, v, q⟩, rfl⟩
theorem open_ivals {fuel : Nat} {cs : List Value} {x : DataW H × List MemPlace} (h : DataW.trod enc Try.prog W base spare held fuel 36 cs = some x) : ∃ A c l, cs = [.slice A l.length c] ∧ l.length ≤ c ∧ Kd.C k65 W A l.length l := by
 rcases open_slice Try.underlying36 h with ⟨rfl, _⟩ | ⟨a, len, cap, m, n, D, Pl, rfl, _, hl, hm, hmm, hxd, hi⟩
 ·exact ⟨none, 0, [], rfl, Nat.le_refl _, Kd.C_nil _ _⟩
 ·have hlm : len ≤ m := by rw [hmm]; split <;> omega
  have hx : ∀ i : Nat, i < len → ∃ y : S65, W.cells? base (a.add (i * 7)) 7 = some [.int .i64 y.f0.f0, .int .i64 y.f0.f1, .string y.f0.f2, .int .i64 y.f1.f0, .int .i64 y.f1.f1, .string y.f1.f2, .bool y.f2] := by
   intro i hil
   obtain ⟨cs', hc, ht⟩ := hi i (by omega)
   rw [cells65_] at hc
   obtain ⟨y, rfl⟩ := open_ival ht
   exact ⟨y, hc⟩
  refine ⟨some a, cap, (List.finRange len).map (fun j => (hx j.1 j.2).choose), ?_, ?_, ?_⟩
  ·simp
  ·simpa using hl
  ·refine ⟨by simp, by have := hm; unfold maxLen at this; simp; omega, fun _ => ⟨a, rfl, fun j p hj => ?_⟩⟩
   obtain ⟨hj1, rfl⟩ := List.getElem?_eq_some_iff.1 hj
   have hjl : j < len := by simpa using hj1
   simp only [List.getElem_map, List.getElem_finRange]
   have hs := (hx j hjl).choose_spec
   obtain ⟨_, _, hat⟩ := World.cells?_some hs
   refine ⟨_, rfl, k65_mk _ _, fun i u hu => ?_⟩
   have hi3 : i < 7 := by have := (List.getElem?_eq_some_iff.1 hu).1; simpa using this
   have h1 := hat i hi3
   rw [hu] at h1
   rw [Go.Deep.add_add] at h1
   exact h1
end
end Go.Proofs.Ytpjcdacnhalclaa.Q
namespace Go.Proofs.Ytpjcdacnhalclaa.Q
open Go.RowKit Go.Proofs.YtpjcdacnhalclaaW.PrintWords Go.Proofs.YtpjcdacnhalclaaW.PrintLast Go.Proofs.YtpjcdacnhalclaaW.PrintMore
attribute [local go_sem] max2_int min2_int max_two min_two max_three min_three max_four min_four
def gapP (l : List S65) : Nat → Bool
 | 0 => true
 | j + 1 => match l[j]? with
  | some y => gapOk y (l.drop (j + 1))
  | none => true
theorem gapP_at (l : List S65) (j : Nat) (h : j < l.length) : gapP l (j + 1) = gapOk l[j] (l.drop (j + 1)) := by
 show (match l[j]? with | some y => gapOk y (l.drop (j + 1)) | none => true) = _
 rw [List.getElem?_eq_getElem h]
theorem r3_Ordered.at_ (l : List S65) (hl : l.length < 4611686018427387904) : ∀ (m i : Nat), l.length - i = m → i ≤ l.length → Ev (fun k => r3_Ordered.l0 k l l l.length i) (gapP l i && ordI (l.drop i)) := by
 intro m
 induction m with
 | zero =>
  intro i hm hi
  have e : l.drop i = [] := List.drop_eq_nil_iff.2 (by omega)
  have g : gapP l i = true := by
   cases i with
   | zero => rfl
   | succ j =>
    rw [gapP_at l j (by omega), e]
    rfl
  rw [e, g]
  exact Ev.step (f := fun _ => some true) (fun k => by rw [r3_Ordered.l0, if_neg (by omega)]) (Ev.now _)
 | succ m ih =>
  intro i hm hi
  have hil : i < l.length := by omega
  have hw : wrap64 ((i : Int) + 1) = ((i + 1 : Nat) : Int) := wrap64_succ (by omega)
  have hp : wrap64 ((l.length : Int) - 1) = (l.length : Int) - 1 := by unfold wrap64; omega
  have ih' := ih (i + 1) (by omega) (by omega)
  have hg1 : gapP l (i + 1) = gapOk l[i] (l.drop (i + 1)) := gapP_at l i hil
  rw [hg1] at ih'
  have hgp : ∀ (x : S65) (hx : l[i] = x), (i = 0 ∧ gapP l i = true) ∨ ∃ (h0 : 0 < i) (h1 : i - 1 < l.length), gapP l i = decide (cmpV l[i - 1].f1 x.f0 < 0) := by
   intro x hx
   cases i with
   | zero => exact .inl ⟨rfl, rfl⟩
   | succ j =>
    refine .inr ⟨by omega, by omega, ?_⟩
    rw [gapP_at l j (by omega), List.drop_eq_getElem_cons hil, hx]
    rfl
  rw [List.drop_eq_getElem_cons hil]
  generalize hx : l[i] = x at ih'
  generalize hr : ordI (l.drop (i + 1)) = r at ih'
  have hgp := hgp x hx
  have ho : ordI (x :: l.drop (i + 1)) = (headOk x (l.drop (i + 1)) && (if x.f2 = true then true else gapOk x (l.drop (i + 1))) && r) := by rw [ordI, hr]
  rw [ho]
  have back : Ev (fun k => if (i : Int) > 0 then (if 0 ≤ (wrap64 ((i : Int) - 1)) then (if (wrap64 ((i : Int) - 1)) < (l.length : Int) then ((r1_Compare.f ((rd_T65 l (wrap64 ((i : Int) - 1))).f1.f0) ((rd_T65 l (wrap64 ((i : Int) - 1))).f1.f1) ((rd_T65 l (wrap64 ((i : Int) - 1))).f1.f2) x.f0.f0 x.f0.f1 x.f0.f2).bind fun t968 => (if t968 ≥ 0 then (some false) else (r3_Ordered.l0 k l l l.length (wrap64 ((i : Int) + 1))))) else (none)) else (none)) else (r3_Ordered.l0 k l l l.length (wrap64 ((i : Int) + 1)))) (gapP l i && (gapOk x (l.drop (i + 1)) && r)) := by
   rcases hgp with ⟨h0, hg⟩ | ⟨h0, h1, hg⟩
   ·rw [hg, Bool.true_and]
    refine Ev.congr (fun k => by rw [if_neg (by omega), hw]) ih'
   ·rw [hg]
    have hq : wrap64 ((i : Int) - 1) = ((i - 1 : Nat) : Int) := by unfold wrap64; omega
    refine Ev.congr (fun k => by rw [if_pos (by omega), hq, if_pos (by omega), if_pos (by omega), rd_T65_nat l (i - 1) h1, r1_Compare.some_ l[i - 1].f1 x.f0, Option.bind_some, hw]) ?_
    by_cases hc : cmpV l[i - 1].f1 x.f0 ≥ 0
    ·refine Ev.congr (fun k => if_pos hc) ?_
     rw [decide_eq_false (by omega)]
     exact Ev.now _
    ·refine Ev.congr (fun k => if_neg hc) ?_
     rw [decide_eq_true (by omega)]
     exact ih'
  refine Ev.step (fun k => by rw [r3_Ordered.l0, if_pos (by omega), if_pos (by omega), if_pos (by omega), rd_T65_nat l i hil, hx, hp, notz]) ?_
  refine Ev.bind (r1_Valid.ev _ _ _) ?_
  unfold headOk
  have f0 : ∀ q : Bool, (q && false) = false := fun q => Bool.and_false q
  by_cases hv : validV x.f0.f0 x.f0.f1 x.f0.f2 = true
  ·have hv' : validS x.f0 = true := hv
   simp only [hv, hv', if_true, Bool.true_and]
   by_cases h2 : x.f2 = true
   ·simp only [h2, if_true, Bool.and_true]
    have step : ∀ b : Bool, Ev (fun k => r3_Ordered.j1 k l i l l.length i b x.f0.f0 x.f0.f1 x.f0.f2 x.f1.f0 x.f1.f1 x.f1.f2 true) (!b && (gapP l i && (gapOk x (l.drop (i + 1)) && r))) := by
     intro b
     refine Ev.step (fun k => by rw [r3_Ordered.j1]) ?_
     cases b
     ·simp only [Bool.false_eq_true, if_false, Bool.not_false, Bool.true_and]
      exact back
     ·simp only [if_true, Bool.not_true, Bool.false_and]
      exact Ev.now _
    by_cases hn : i + 1 < l.length
    ·have e : (l.drop (i + 1)).isEmpty = false := by rw [List.drop_eq_getElem_cons hn]; rfl
     rw [e]
     refine Ev.congr (fun k => if_pos (by omega)) ?_
     have := step true
     simpa using this
    ·have e : l.drop (i + 1) = [] := List.drop_eq_nil_iff.2 (by omega)
     rw [e] at step ⊢
     refine Ev.congr (fun k => if_neg (by omega)) ?_
     generalize (x.f1.f0 == 0 && (x.f1.f1 == 0 && (x.f1.f2.toList == ([] : List UInt8)))) = z
     have := step (!z)
     have q : (!(!z) && (gapP l i && (gapOk x [] && r))) = (gapP l i && (([] : List S65).isEmpty && z && r)) := by
      show (!(!z) && (gapP l i && (true && r))) = (gapP l i && (true && z && r))
      cases gapP l i <;> cases z <;> cases r <;> rfl
     rw [q] at this
     exact this
   ·have h2 := Bool.eq_false_iff.2 h2
    simp only [h2, Bool.false_eq_true, if_false]
    refine Ev.bind (r1_Valid.ev _ _ _) ?_
    have step : ∀ b : Bool, Ev (fun k => r3_Ordered.j2 k l i l l.length i b x.f0.f0 x.f0.f1 x.f0.f2 x.f1.f0 x.f1.f1 x.f1.f2 false) (!b && (gapP l i && (gapOk x (l.drop (i + 1)) && r))) := by
     intro b
     refine Ev.step (fun k => by rw [r3_Ordered.j2]) ?_
     cases b
     ·simp only [Bool.false_eq_true, if_false, Bool.not_false, Bool.true_and]
      exact back
     ·simp only [if_true, Bool.not_true, Bool.false_and]
      exact Ev.now _
    by_cases hv1 : validV x.f1.f0 x.f1.f1 x.f1.f2 = true
    ·have hv1' : validS x.f1 = true := hv1
     simp only [hv1, hv1', if_true, Bool.true_and, r1_Compare.some_, Option.bind_some]
     have := step (decide (cmpV x.f0 x.f1 ≥ 0))
     rw [show decide (cmpV x.f0 x.f1 < 0) = !decide (cmpV x.f0 x.f1 ≥ 0) by rw [← decide_not]; congr 1; exact propext ⟨fun _ => by omega, fun _ => by omega⟩]
     refine cast (congrArg (Ev _) ?_) this
     generalize gapOk x (l.drop (i + 1)) = z
     cases gapP l i <;> cases decide (cmpV x.f0 x.f1 ≥ 0) <;> cases z <;> cases r <;> rfl
    ·have hv1' : validS x.f1 = false := Bool.eq_false_iff.2 hv1
     simp only [Bool.eq_false_iff.2 hv1, hv1', if_false, Bool.false_and, Bool.false_eq_true, Bool.and_false]
     have := step true
     simpa using this
  ·have hv' : validS x.f0 = false := Bool.eq_false_iff.2 hv
   simp only [Bool.eq_false_iff.2 hv, hv', Bool.false_and, Bool.false_eq_true, if_false, Bool.and_false]
   exact Ev.now _
theorem r3_Valid.ev (l : List S65) : Ev (fun k => r3_Valid.f k l) (okI l) := by
 unfold okI
 by_cases h : l.length ≤ 64
 ·rw [decide_eq_true h, Bool.true_and]
  have := r3_Ordered.at_ l (by omega) l.length 0 rfl (Nat.zero_le _)
  have e : (gapP l 0 && ordI (l.drop 0)) = ordI l := by rw [List.drop_zero]; exact Bool.true_and _
  rw [e] at this
  refine Ev.congr (f := fun k => (r3_Ordered.f k l).bind fun t => some t) (fun k => by unfold r3_Valid.f; rw [if_pos (by omega)]) ?_
  exact Ev.bind this (Ev.now _)
 ·rw [decide_eq_false h, Bool.false_and]
  exact Ev.congr (fun k => by unfold r3_Valid.f; rw [if_neg (by omega)]) (Ev.now _)
theorem both_Least (a : List S65) : ∃ t : Int × Int × ByteArray × Bool, Ev (fun k => i_Least.f k a) t ∧ Ev (fun k => r3_Least.f k a) t := by
 unfold i_Least.f r3_Least.f
 by_cases h : (a.length : Int) = 0
 ·refine ⟨_, Ev.congr (fun k => if_pos h) (Ev.now _), Ev.congr (fun k => if_pos h) (Ev.now _)⟩
 ·by_cases ha : okI a = true
  ·refine ⟨((rd_T65 a 0).f0.f0, (rd_T65 a 0).f0.f1, (rd_T65 a 0).f0.f2, true), Ev.congr (fun k => if_neg h) ?_, Ev.congr (fun k => if_neg h) ?_⟩
   ·refine Ev.bind (i_Valid.ev a) ?_
    simp only [ha, if_true]
    exact Ev.congr (fun k => if_pos (by omega)) (Ev.now _)
   ·refine Ev.bind (r3_Valid.ev a) ?_
    simp only [ha, if_true]
    exact Ev.congr (fun k => if_pos (by omega)) (Ev.now _)
  ·have ha := Bool.eq_false_iff.2 ha
   refine ⟨(0, 0, ⟨#[]⟩, false), Ev.congr (fun k => if_neg h) ?_, Ev.congr (fun k => if_neg h) ?_⟩
   ·refine Ev.bind (i_Valid.ev a) ?_
    simp only [ha, if_false, Bool.false_eq_true]
    exact Ev.now _
   ·refine Ev.bind (r3_Valid.ev a) ?_
    simp only [ha, if_false, Bool.false_eq_true]
    exact Ev.now _
theorem r3_Has.ev (l : List S65) (hl : l.length < 4611686018427387904) (v : S24) : Ev (fun k => r3_Has.f k l v.f0 v.f1 v.f2) (validS v && (okI l && inI l v)) := by
 unfold r3_Has.f
 refine Ev.bind (r1_Valid.ev _ _ _) ?_
 by_cases hv : validV v.f0 v.f1 v.f2 = true
 ·have hv' : validS v = true := hv
  simp only [hv, hv', if_true, Bool.true_and]
  refine Ev.bind (r3_Valid.ev l) ?_
  by_cases ho : okI l = true
  ·simp only [ho, if_true, Bool.true_and]
   exact Ev.bind (r3_In.ev l hl v) (Ev.now _)
  ·have ho := Bool.eq_false_iff.2 ho
   simp only [ho, if_false, Bool.false_eq_true, Bool.false_and]
   exact Ev.now _
 ·have hv' : validS v = false := Bool.eq_false_iff.2 hv
  simp only [Bool.eq_false_iff.2 hv, hv', Bool.false_and, Bool.false_eq_true, if_false]
  exact Ev.now _
theorem spoilR_len (q : Int) (l : List S65) (i : Int) (v : S24) : (spoilR q l i v).length ≤ l.length + 1 := by
 unfold spoilR
 split <;> simp
theorem l3_spoilt.ok {L : List Int} {i : Int} (h : StOk L i) : ∃ c j, Ev (fun k => l3_spoilt.f k L i) (c, j) ∧ StOk L j ∧ c.length ≤ 64 := by
 unfold l3_spoilt.f
 obtain ⟨l, j1, e1, h1, d⟩ := cc_Interval.ok h
 have hl := lens d.few
 suffices hs : ∃ c j, Ev (fun k => if (l.length : Int) = 0 then ((cc_Any.f k L j1).bind fun bt935 => ((cc_Any.f k L bt935.2.2.2).bind fun bt939 => ((cc_Bool.f L bt939.2.2.2 2).bind fun bt943 => (some ((([(⟨(⟨bt935.1, bt935.2.1, bt935.2.2.1⟩ : S24), (⟨bt939.1, bt939.2.1, bt939.2.2.1⟩ : S24), bt943.1⟩ : S65)] : List (S65))), bt943.2))))) else ((cc_Int.f L j1 (l.length : Int)).bind fun bt948 => ((cc_Int.f L bt948.2 7).bind fun bt950 => (l3_spoilt.t k L l bt948.1 bt950.1 bt950.2)))) (c, j) ∧ StOk L j ∧ c.length ≤ 64 by
  obtain ⟨c, j, e, hj, hc⟩ := hs
  refine ⟨c, j, Ev.bind e1 ?_, hj, hc⟩
  refine Ev.congr (fun k => if_pos (by show 0 + l.length < 1954687338268; omega)) ?_
  exact e
 by_cases h0 : (l.length : Int) = 0
 ·obtain ⟨a, b, c, j2, e2, h2, -⟩ := cc_Any.ok h1
  obtain ⟨a', b', c', j3, e3, h3, -⟩ := cc_Any.ok h2
  obtain ⟨r, j4, e4, h4⟩ := cc_Bool.ok h3 2 (by omega) (by omega)
  refine ⟨[⟨⟨a, b, c⟩, ⟨a', b', c'⟩, r⟩], j4, Ev.congr (fun k => if_pos h0) (Ev.bind e2 (Ev.bind e3 ?_)), h4, by simp⟩
  simp only [e4, Option.bind_some]
  exact Ev.now _
 ·obtain ⟨n, j2, e2, h2, n0, -, n1⟩ := cc_Int.ok h1 l.length (by omega)
  obtain ⟨q, j3, e3, h3, -⟩ := cc_Int.ok h2 7 (by omega)
  have n1 := n1 (by omega)
  suffices hs : ∃ c j, Ev (fun k => l3_spoilt.t k L l n q j3) (c, j) ∧ StOk L j ∧ c.length ≤ 64 by
   obtain ⟨c, j, e, hj, hc⟩ := hs
   refine ⟨c, j, Ev.congr (fun k => if_neg h0) ?_, hj, hc⟩
   simp only [e2, e3, Option.bind_some]
   exact e
  unfold l3_spoilt.t
  by_cases hq : q = 0 ∨ q = 1
  ·obtain ⟨a, b, c, j4, e4, h4, -⟩ := cc_Any.ok h3
   refine ⟨spoilR q l n ⟨a, b, c⟩, j4, Ev.congr (fun k => by rw [if_pos n0, if_pos n1, if_pos hq]) (Ev.bind e4 (Ev.now _)), h4, ?_⟩
   have := spoilR_len q l n ⟨a, b, c⟩
   omega
  ·refine ⟨spoilR q l n z24, j3, Ev.congr (fun k => by rw [if_pos n0, if_pos n1, if_neg hq]) (Ev.now _), h3, ?_⟩
   have := spoilR_len q l n z24
   omega
theorem l3_IntervalForms.l1_ev (ls : List (List S65)) (n j : Int) (a : List S65) (ha : a.length < 4611686018427387904) (vs : List S24) (hv : vs.length < 4611686018427387904) (L : List Int) (p : Int) (x y : Int) (z : ByteArray) (p' : Int) : ∀ (m i : Nat), vs.length - i = m → i ≤ vs.length →
  Ev (fun k => l3_IntervalForms.l0 k ls n (wrap64 (j + 1)) L p x y z) (true, p') → Ev (fun k => l3_IntervalForms.l1 k a ls n j vs vs.length i L p x y z) (true, p') := by
 intro m
 induction m with
 | zero =>
  intro i hm hi h
  exact Ev.step (fun k => by rw [l3_IntervalForms.l1, if_neg (by omega)]) h
 | succ m ih =>
  intro i hm hi h
  have hil : i < vs.length := by omega
  have hw : wrap64 ((i : Int) + 1) = ((i + 1 : Nat) : Int) := wrap64_succ (by omega)
  refine Ev.step (fun k => by rw [l3_IntervalForms.l1, if_pos (by omega), if_pos (by omega), if_pos (by omega), hw]) ?_
  generalize rd_T24 vs i = v
  refine Ev.bind (i_Has.ev a ha v) (Ev.bind (r3_Has.ev a ha v) ?_)
  simp only [bne_self_eq_false, Bool.false_eq_true, if_false]
  exact ih (i + 1) (by omega) (by omega) h
theorem l3_IntervalForms.l0_ev (ls : List (List S65)) (hl : ls.length < 4611686018427387904) (ha : ∀ a ∈ ls, a.length < 4611686018427387904) (L : List Int) (x y : Int) (z : ByteArray) : ∀ (m i : Nat) (p : Int), ls.length - i = m → i ≤ ls.length → StOk L p →
  ∃ p', Ev (fun k => l3_IntervalForms.l0 k ls ls.length i L p x y z) (true, p') := by
 intro m
 induction m with
 | zero =>
  intro i p hm hi hp
  refine ⟨p, Ev.step (fun k => by rw [l3_IntervalForms.l0, if_neg (by omega)]) ?_⟩
  exact Ev.bind l3_begun.ev (Ev.now _)
 | succ m ih =>
  intro i p hm hi hp
  have hil : i < ls.length := by omega
  have hw : wrap64 ((i : Int) + 1) = ((i + 1 : Nat) : Int) := wrap64_succ (by omega)
  have hr : rd_L7 ls i = ls[i] := rd_L7_nat ls i hil
  have hla := ha _ (List.getElem_mem hil)
  rw [← hr] at hla
  obtain ⟨b0, b1, b2, j, e, hj, -⟩ := cc_Any.ok hp
  obtain ⟨p', h'⟩ := ih (i + 1) j (by omega) (by omega) hj
  refine ⟨p', Ev.step (fun k => by rw [l3_IntervalForms.l0, if_pos (by omega), if_pos (by omega), if_pos (by omega)]) ?_⟩
  generalize rd_L7 ls i = a at hla
  obtain ⟨t, e1, f1⟩ := both_Least a
  refine Ev.bind (i_Valid.ev a) (Ev.bind (r3_Valid.ev a) ?_)
  simp only [bne_self_eq_false, Bool.false_eq_true, if_false]
  refine Ev.bind e1 (Ev.bind f1 ?_)
  simp only [beq_self_eq_true, bne_self_eq_false, Bool.not_true, Bool.or_false, Bool.false_eq_true, if_false]
  refine Ev.bind e ?_
  simp only [Option.bind_some]
  refine l3_IntervalForms.l1_ev ls _ _ a hla _ (by simp) L j x y z p' 3 0 rfl (Nat.zero_le _) ?_
  rw [hw]
  exact h'
theorem l3_IntervalForms.pure (l : List Int) (hl : ∀ x ∈ l, 0 ≤ x ∧ x ≤ 255) (lr : List S65) (x y : Int) (z : ByteArray) : ∃ k, l3_IntervalForms.f k l lr x y z = some true := by
 refine Ev.rounds (g := fun k => l3_IntervalForms.f k l lr x y z) ?_
 unfold l3_IntervalForms.f
 obtain ⟨hn, hst⟩ := cs_New.ok hl 90 (by omega) (by omega)
 rw [hn]
 simp only [Option.bind_some]
 obtain ⟨a, j1, e1, hst1, da⟩ := cc_Interval.ok hst
 obtain ⟨c, j2, e2, hst2, hc⟩ := l3_spoilt.ok hst1
 refine Ev.bind e1 (Ev.bind e2 ?_)
 have hla := lens da.few
 obtain ⟨p', h⟩ := l3_IntervalForms.l0_ev [a, c, lr.take 80] (by simp) (fun q hq => by
  simp only [List.mem_cons, List.not_mem_nil, or_false] at hq
  rcases hq with rfl | rfl | rfl
  ·omega
  ·omega
  ·rw [List.length_take]; omega) _ x y z 3 0 _ rfl (Nat.zero_le _) hst2
 obtain ⟨K, hK⟩ := h
 exact ⟨K, fun k hk => by
  show Option.map Prod.fst (l3_IntervalForms.g k _ _ _ x y z) = some true
  unfold l3_IntervalForms.g
  rw [show l3_IntervalForms.l0 k [a, c, lr.take 80] (([a, c, lr.take 80] : List (List S65)).length : Int) 0 _ j2 x y z = some (true, p') from hK k hk]
  rfl⟩
end Go.Proofs.Ytpjcdacnhalclaa.Q
namespace Go.Proofs.Ytpjcdacnhalclaa.intervalForms
open Go.ChangeShapes Go.WideShapes Go.ChangeAt Go.RowKit Go.Joins
open Go.ChangeMaps (open_string shut_string)
open Go.Proofs.YtpjcdacnhalclaaW.PrintWords Go.Proofs.YtpjcdacnhalclaaW.PrintLast Go.Proofs.YtpjcdacnhalclaaW.PrintMore
set_option maxRecDepth 100000 in
theorem lifted (os : Os) (started : os.Started) (H : Type) (enc : TypeId × Value → H) :
  ReturnsInHanded {} Try.checked os 14 .any (Rows.intervalFormsSpec.pre6 enc Try.prog Try.f14 Rows.intervalFormsRow.domain false) (Rows.intervalFormsSpec.post enc Try.prog Try.f14 false true false false) := by
 refine returnsInHanded_of_change_sized (C := Try.checked) Q.own started (by kernel_rfl) Try.func14
  (ChangeSpec.witness6 (enc := enc) (C := Try.checked) false ⟨#[], #[.slice none 0 0, .slice none 0 0, .agg #[.int .i64 0, .int .i64 0, .string ⟨#[]⟩]], []⟩ 8 (by kernel_rfl) (by kernel_rfl) (by kernel_rfl) (by kernel_rfl)) ?_
 intro W base args ds gs before hval0 hW hcnd hsz0 _
 have hsz : (DataW.weightsEach Try.prog (Try.f14.params.toList ++ Rows.intervalFormsSpec.plain.varTypes Try.prog) (ds ++ gs)).all (· ≤ reachBytes) = true := hsz0
 have hval : ∀ (j : Nat) t v, Try.f14.params[j]? = some t → args[j]? = some v → Value.okWide Try.prog W .any base t v := hval0
 have hW' := hW
 obtain ⟨p, q, hA0, hV, rfl, hfz, hnd⟩ := hW
 have hA : DataW.TrodAll enc Try.prog W 0 (fun _ => true) true Try.f14.params.toList args.toList ds p := hA0
 rw [Try.params14] at hA hval hsz
 obtain ⟨v0, vs0, d0, ds0, p0, q0, hargs, rfl, rfl, h0, r0⟩ := trodAll_cons hA
 obtain ⟨v1, vs1, d1, ds1, p1, q1, rfl, rfl, rfl, h1, r1⟩ := trodAll_cons r0
 obtain ⟨v2, vs2, d2, ds2, p2, q2, rfl, rfl, rfl, h2, r2⟩ := trodAll_cons r1
 obtain ⟨rfl, rfl, rfl⟩ := trodAll_nil r2
 obtain rfl : args = #[v0, v1, v2] := by cases args; simp_all
 obtain ⟨rfl, rfl⟩ := trodVars_none hV
 have k0 := h0
 have lt0 : ∀ x ∈ p0, x.block < W.heap.size := by obtain ⟨m, hm⟩ := k0; exact DataW.trod_lt m _ _ _ hm
 obtain ⟨a0, len0, cap0, rfl⟩ := okWide_slice Try.underlying22 (hval 0 22 v0 rfl rfl)
 obtain ⟨z0, w0⟩ : ∃ zs, Q.IsRow .u8 W a0 len0 cap0 zs := by
  obtain ⟨fuel, hf⟩ := h0
  rcases open_ints Try.underlying22 Try.underlying5 (by kernel_rfl) hf with ⟨hcs, _⟩ | ⟨x, l, c, zs, hcs, _, hl, hm, hz, _, hcell, hwz⟩
  ·simp [Value.cells] at hcs
   obtain ⟨rfl, rfl, rfl⟩ := hcs
   exact ⟨[], .inl ⟨rfl, rfl, rfl, rfl⟩⟩
  ·simp [Value.cells] at hcs
   obtain ⟨rfl, rfl, rfl⟩ := hcs
   exact ⟨zs, .inr ⟨_, rfl, hl, hm, by simpa using hz, hcell, hwz⟩⟩
 obtain ⟨l0, rfl, hr0, hm0, hw0, hc0⟩ := ReadsInt.ofRowC w0
 have k1 := h1
 have lt1 : ∀ x ∈ p1, x.block < W.heap.size := by obtain ⟨m, hm⟩ := k1; exact DataW.trod_lt m _ _ _ hm
 obtain ⟨a1, len1, cap1, rfl⟩ := okWide_slice Try.underlying36 (hval 1 36 v1 rfl rfl)
 obtain ⟨fu1, hf1⟩ := h1
 obtain ⟨A1, c1, l1, e1, hc1, hr1⟩ := Q.open_ivals hf1
 simp [Value.cells] at e1
 obtain ⟨rfl, rfl, rfl⟩ := e1
 have k2 := h2
 have lt2 : ∀ x ∈ p2, x.block < W.heap.size := by obtain ⟨m, hm⟩ := k2; exact DataW.trod_lt m _ _ _ hm
 obtain ⟨u2_0, u2_1, u2_2, y2_0, y2_1, y2_2, n2, rfl, _, _, e2_0, e2_1, e2_2⟩ := open_agg3 Try.underlying24 (by kernel_rfl) (by kernel_rfl) (hval 2 24 v2 rfl rfl) h2
 obtain ⟨a2_0, g2_0, _, w2_0⟩ := DataW.trod_int Try.underlying3 e2_0
 obtain ⟨a2_1, g2_1, _, w2_1⟩ := DataW.trod_int Try.underlying2 e2_1
 obtain ⟨a2_2, g2_2, _, w2_2⟩ := DataW.trod_string Try.underlying9 e2_2
 obtain rfl := (List.cons.inj g2_0).1
 obtain rfl := (List.cons.inj g2_1).1
 obtain rfl := (List.cons.inj g2_2).1
 clear hA0 hval0 hsz0 hsz
 obtain ⟨k, hk⟩ := Q.l3_IntervalForms.pure l0 (fun x hx => Q.wf_byte (hw0 x hx)) l1 a2_0 a2_1 a2_2
 refine (Q.l3_IntervalForms.calls k _ _ l0 _ _ l1 a2_0 a2_1 a2_2 true W (Kd.C_of_reads (d := (0 : Int)) (h1 := fun _ => rfl) hr0) hc0 hr1 hc1 hk ⟨rfl⟩).mono fun e W' ⟨he, bel⟩ => ?_
 subst he
 exact ⟨_, rfl, _, _, _, [], _, [], hW', trodAll_mk1 (shut_bool Try.underlying4 _), (trodAll_cons_mk (Below.trod Q.laidOut (by kernel_rfl) (of_decide_eq_true (by kernel_rfl)) k0 bel lt0) (trodAll_cons_mk (Below.trod Q.laidOut (by kernel_rfl) (of_decide_eq_true (by kernel_rfl)) k1 bel lt1) (trodAll_cons_mk (Below.trod Q.laidOut (by kernel_rfl) (of_decide_eq_true (by kernel_rfl)) k2 bel lt2) trodAll_mk0))), rfl, bel.frame _, fun h => by cases h⟩
theorem over : Rows.intervalFormsRow.holds Try.pinned (OpenSpec.ofChange Rows.intervalFormsSpec) :=
 OpenClaim.holds_of_wide 14 Try.f14 rfl rfl rfl rfl rfl rfl rfl ⟨rfl, rfl, rfl, rfl, rfl⟩ rfl rfl rfl rfl rfl (by kernel_rfl) Try.func14 (by kernel_rfl)
  (of_decide_eq_true (by kernel_rfl)) (by unfold Func.isWrapper; first | (rw [if_pos (by decide +kernel)]; kernel_rfl) | (rw [if_neg (by decide +kernel)]; exact ⟨rfl, rfl⟩))
  (fun os started H enc _ => lifted os started H enc)
theorem proved : Rows.IntervalFormsSaid := over
end Go.Proofs.Ytpjcdacnhalclaa.intervalForms
namespace Go.Proofs.Ytpjcdacnhalclaa
theorem intervalForms_holds : Rows.IntervalFormsSaid := intervalForms.proved
#print axioms intervalForms_holds
end Go.Proofs.Ytpjcdacnhalclaa
