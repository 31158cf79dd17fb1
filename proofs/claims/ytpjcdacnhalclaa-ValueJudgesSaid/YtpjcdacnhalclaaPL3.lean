/- Function PL3 of the translation: what its call computes. -/
import Derived.Test.YtpjcdacnhalclaaK0
import Derived.Test.YtpjcdacnhalclaaBP
import Derived.Test.YtpjcdacnhalclaaF3
import Derived.Test.YtpjcdacnhalclaaPV
import Derived.Test.YtpjcdacnhalclaaBP
import Derived.Test.YtpjcdacnhalclaaOrd
namespace Go.Proofs.Ytpjcdacnhalclaa.Q
open Go.RowKit Go.Proofs.YtpjcdacnhalclaaW.PrintWords Go.Proofs.YtpjcdacnhalclaaW.PrintLast Go.Proofs.YtpjcdacnhalclaaW.PrintMore
attribute [local go_sem] max2_int min2_int max_two min_two max_three min_three max_four min_four
set_option linter.unusedVariables false
set_option linter.unusedSimpArgs false
/-! ### the laws of values: what they compute is true -/
theorem partsynclaw01_ValueJudges.pure (l : List Int) (hl : ∀ x ∈ l, 0 ≤ x ∧ x ≤ 255) (a b : Int) (c : ByteArray) : ∃ k, partsynclaw01_ValueJudges.f k l a b c = some true := by
  refine Ev.rounds (g := fun k => partsynclaw01_ValueJudges.f k l a b c) ?_
  unfold partsynclaw01_ValueJudges.f
  obtain ⟨hn, hst⟩ := partsynccase_New.ok hl 90 (by omega) (by omega)
  rw [hn]
  simp only [Option.bind_some]
  obtain ⟨p, q, t, j, hev, _, hval, _, _⟩ := partsynccase_Case_Any.ok hst
  refine Ev.bind hev ?_
  refine Ev.bind partsynclaw01_begun.ev ?_
  simp only [if_true]
  refine Ev.bind (value_Valid.ev p q t) ?_
  simp only [hval, if_true]
  refine Ev.bind (value_Real.ev p q t) ?_
  have hr : realV p q t = decide (p ≥ 3) := by unfold realV; rw [hval]; rfl
  simp only [hr, beq_self_eq_true, if_true]
  refine Ev.bind (value_Valid.ev a b c) ?_
  refine Ev.bind (partsyncref01_Valid.ev a b c) ?_
  simp only [beq_self_eq_true, if_true]
  refine Ev.bind (value_Real.ev a b c) ?_
  refine Ev.bind (partsyncref01_Real.ev a b c) ?_
  simp only [beq_self_eq_true]
  exact Ev.now _
end Go.Proofs.Ytpjcdacnhalclaa.Q
