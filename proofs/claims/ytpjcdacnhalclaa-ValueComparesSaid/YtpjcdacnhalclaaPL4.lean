/- Function PL4 of the translation: what its call computes. -/
import Derived.Test.YtpjcdacnhalclaaK0
import Derived.Test.YtpjcdacnhalclaaBP
import Derived.Test.YtpjcdacnhalclaaF4
import Derived.Test.YtpjcdacnhalclaaHdr
import Derived.Test.YtpjcdacnhalclaaOrd
import Derived.Test.YtpjcdacnhalclaaPC
import Derived.Test.YtpjcdacnhalclaaPV
import Derived.Test.YtpjcdacnhalclaaBP
import Derived.Test.YtpjcdacnhalclaaOrd
namespace Go.Proofs.Ytpjcdacnhalclaa.Q
open Go.RowKit Go.Proofs.YtpjcdacnhalclaaW.PrintWords Go.Proofs.YtpjcdacnhalclaaW.PrintLast Go.Proofs.YtpjcdacnhalclaaW.PrintMore
attribute [local go_sem] max2_int min2_int max_two min_two max_three min_three max_four min_four
set_option linter.unusedVariables false
set_option linter.unusedSimpArgs false
/-! ### the laws of values: what they compute is true -/
theorem partsynclaw01_ValueCompares.l2_ev (O : List S24) (hO : O.length < 4611686018427387904) (p q : S24) (i j : Int) (r : Bool)
    (h : Ev (fun k => partsynclaw01_ValueCompares.l1 k O O O.length i O O.length (wrap64 (j + 1)) p.f0 p.f1 p.f2) r) : ∀ (m s : Nat), O.length - s = m → s ≤ O.length →
    Ev (fun k => partsynclaw01_ValueCompares.l2 k O (cmpV p q) O O.length i O O.length j O O.length s p.f0 p.f1 p.f2 q.f0 q.f1 q.f2) r := by
  intro m
  induction m with
  | zero =>
    intro s hs hs'
    exact Ev.step (fun k => by rw [partsynclaw01_ValueCompares.l2, if_neg (by omega)]) h
  | succ m ih =>
    intro s hs hs'
    have hw : wrap64 ((s : Int) + 1) = ((s + 1 : Nat) : Int) := wrap64_succ (by omega)
    refine Ev.step (f := fun k => partsynclaw01_ValueCompares.l2 k O (cmpV p q) O O.length i O O.length j O O.length ((s + 1 : Nat) : Int) p.f0 p.f1 p.f2 q.f0 q.f1 q.f2) (fun k => ?_) (ih (s + 1) (by omega) (by omega))
    rw [partsynclaw01_ValueCompares.l2, if_pos (by omega), if_pos (by omega), if_pos (by omega), hw]
    generalize rd_T24 O (s : Int) = z
    by_cases c1 : cmpV p q ≤ 0
    · rw [if_pos c1, value_Compare.some_ q z, Option.bind_some]
      by_cases c2 : cmpV q z ≤ 0
      · have c3 := cmpV_le_trans c1 c2
        rw [if_pos c2, value_Compare.some_ p z, Option.bind_some, if_neg (by omega)]
      · rw [if_neg c2]
    · rw [if_neg c1]
theorem partsynclaw01_ValueCompares.l1_ev (O : List S24) (hO : O.length < 4611686018427387904) (p : S24) (i : Int) (r : Bool)
    (h : Ev (fun k => partsynclaw01_ValueCompares.l0 k O O O.length (wrap64 (i + 1))) r) : ∀ (m s : Nat), O.length - s = m → s ≤ O.length →
    Ev (fun k => partsynclaw01_ValueCompares.l1 k O O O.length i O O.length s p.f0 p.f1 p.f2) r := by
  intro m
  induction m with
  | zero =>
    intro s hs hs'
    exact Ev.step (fun k => by rw [partsynclaw01_ValueCompares.l1, if_neg (by omega)]) h
  | succ m ih =>
    intro s hs hs'
    have hw : wrap64 ((s : Int) + 1) = ((s + 1 : Nat) : Int) := wrap64_succ (by omega)
    have h2 := partsynclaw01_ValueCompares.l2_ev O hO p (rd_T24 O (s : Int)) i s r (by rw [hw]; exact ih (s + 1) (by omega) (by omega)) O.length 0 rfl (by omega)
    refine Ev.step (f := fun k => partsynclaw01_ValueCompares.j2 k O (cmpV p (rd_T24 O (s : Int))) O O.length i O O.length s false p.f0 p.f1 p.f2 (rd_T24 O (s : Int)).f0 (rd_T24 O (s : Int)).f1 (rd_T24 O (s : Int)).f2) (fun k => ?_) ?_
    · have hr := cmpV_range (rd_T24 O (s : Int)) p
      have hn : cmpV p (rd_T24 O (s : Int)) = wrap64 (-(cmpV (rd_T24 O (s : Int)) p)) := by
        rw [cmpV_neg]; unfold wrap64; omega
      rw [partsynclaw01_ValueCompares.l1, if_pos (by omega), if_pos (by omega), if_pos (by omega), value_Compare.some_ p, Option.bind_some, partsyncref01_Compare.some_ p, Option.bind_some, if_pos rfl, value_Compare.some_ _ p, Option.bind_some, if_pos hn, eqV_iff]
      simp only [bne_self_eq_false]
    · exact Ev.step (fun k => by rw [partsynclaw01_ValueCompares.j2, if_neg (by decide)]; rfl) h2
theorem partsynclaw01_ValueCompares.l0_ev (O : List S24) (hO : O.length < 4611686018427387904) : ∀ (m s : Nat), O.length - s = m → s ≤ O.length →
    Ev (fun k => partsynclaw01_ValueCompares.l0 k O O O.length s) true := by
  intro m
  induction m with
  | zero =>
    intro s hs hs'
    exact Ev.step (fun k => by rw [partsynclaw01_ValueCompares.l0, if_neg (by omega)]) (Ev.bind partsynclaw01_begun.ev (Ev.now _))
  | succ m ih =>
    intro s hs hs'
    have hw : wrap64 ((s : Int) + 1) = ((s + 1 : Nat) : Int) := wrap64_succ (by omega)
    refine Ev.step (fun k => by rw [partsynclaw01_ValueCompares.l0, if_pos (by omega), if_pos (by omega), if_pos (by omega)]) ?_
    exact partsynclaw01_ValueCompares.l1_ev O hO (rd_T24 O (s : Int)) s true (by rw [hw]; exact ih (s + 1) (by omega) (by omega)) O.length 0 rfl (by omega)
theorem partsynclaw01_ValueCompares.pure (l : List Int) (hl : ∀ x ∈ l, 0 ≤ x ∧ x ≤ 255) (a1 b1 : Int) (c1 : ByteArray) (a2 b2 : Int) (c2 : ByteArray) (a3 b3 : Int) (c3 : ByteArray) : ∃ k, partsynclaw01_ValueCompares.f k l a1 b1 c1 a2 b2 c2 a3 b3 c3 = some true := by
  refine Ev.rounds (g := fun k => partsynclaw01_ValueCompares.f k l a1 b1 c1 a2 b2 c2 a3 b3 c3) ?_
  unfold partsynclaw01_ValueCompares.f
  obtain ⟨hn, hst⟩ := partsynccase_New.ok hl 90 (by omega) (by omega)
  rw [hn]
  simp only [Option.bind_some]
  obtain ⟨p, q, t, j, hev, hst2, hval, _, _⟩ := partsynccase_Case_Any.ok hst
  refine Ev.bind hev ?_
  obtain ⟨p', q', t', j', hev', hst2', hval', _, _⟩ := partsynccase_Case_Any.ok hst2
  refine Ev.bind hev' ?_
  exact partsynclaw01_ValueCompares.l0_ev _ (by simp) 5 0 rfl (by simp)
end Go.Proofs.Ytpjcdacnhalclaa.Q
