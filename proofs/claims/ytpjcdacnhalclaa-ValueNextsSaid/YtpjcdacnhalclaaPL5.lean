/- Function PL5 of the translation: what its call computes. -/
import Derived.Test.YtpjcdacnhalclaaK0
import Derived.Test.YtpjcdacnhalclaaBP
import Derived.Test.YtpjcdacnhalclaaF5
import Derived.Test.YtpjcdacnhalclaaHdr
import Derived.Test.YtpjcdacnhalclaaOrd
import Derived.Test.YtpjcdacnhalclaaPN
import Derived.Test.YtpjcdacnhalclaaPV
import Derived.Test.YtpjcdacnhalclaaBP
import Derived.Test.YtpjcdacnhalclaaOrd
namespace Go.Proofs.Ytpjcdacnhalclaa.Q
open Go.RowKit Go.Proofs.YtpjcdacnhalclaaW.PrintWords Go.Proofs.YtpjcdacnhalclaaW.PrintLast Go.Proofs.YtpjcdacnhalclaaW.PrintMore
attribute [local go_sem] max2_int min2_int max_two min_two max_three min_three max_four min_four
set_option linter.unusedVariables false
set_option linter.unusedSimpArgs false
/-! ### the laws of values: what they compute is true -/
theorem partsynclaw01_ValueNexts.l0_ev (O : List S24) (hO : O.length < 4611686018427387904) (hr : ∀ x ∈ O, -9223372036854775808 ≤ x.f1 ∧ x.f1 ≤ 9223372036854775807) (l : List Int) : ∀ (m s : Nat) (i : Int), O.length - s = m → s ≤ O.length → StOk l i →
    Ev (fun k => partsynclaw01_ValueNexts.l0 k O O.length s l i) true := by
  intro m
  induction m with
  | zero =>
    intro s i hs hs' hst
    exact Ev.step (fun k => by rw [partsynclaw01_ValueNexts.l0, if_neg (by omega)]) (Ev.bind partsynclaw01_begun.ev (Ev.now _))
  | succ m ih =>
    intro s i hs hs' hst
    have hw : wrap64 ((s : Int) + 1) = ((s + 1 : Nat) : Int) := wrap64_succ (by omega)
    refine Ev.step (fun k => by rw [partsynclaw01_ValueNexts.l0, if_pos (by omega), if_pos (by omega), if_pos (by omega)]) ?_
    have hx : rd_T24 O (s : Int) = O[s]'(by omega) := rd_T24_nat O s (by omega)
    obtain ⟨lo, hi⟩ := hr _ (List.getElem_mem (l := O) (n := s) (by omega))
    rw [hx]
    generalize O[s]'(by omega) = x at lo hi
    by_cases hv : validV x.f0 x.f1 x.f2 = true
    · rcases value_Next.ok x hv lo hi with ⟨y, hy, h1, h2⟩ | ⟨_, h1, h2⟩
      · refine Ev.bind h1 (Ev.bind h2 ?_)
        simp only [beq_self_eq_true, Bool.not_true, Bool.or_self, Bool.false_eq_true, if_false, bne_self_eq_false]
        refine Ev.step (fun k => by rw [partsynclaw01_ValueNexts.j1, if_neg (by decide), if_pos rfl]) ?_
        obtain ⟨p, q, t, j, hev, hst2, hval, l1, l2⟩ := partsynccase_Case_Any.ok hst
        refine Ev.bind hev ?_
        refine Ev.bind (value_Valid.ev _ _ _) ?_
        simp only [hy.valid, if_true]
        have e1 : cmpV x y = -1 := value_Compare.lt_ hy.up
        have ih' := ih (s + 1) j (by omega) (by omega) hst2
        have i1 := value_Compare.some_ x ⟨p, q, t⟩
        have i2 := value_Compare.some_ ⟨p, q, t⟩ y
        dsimp only at i1 i2
        simp only [value_Compare.some_ x y, Option.bind_some, e1, if_true, hw, i1, i2]
        by_cases g1 : cmpV x ⟨p, q, t⟩ < 0
        · have g2 : ¬ cmpV ⟨p, q, t⟩ y < 0 := fun g2 => hy.none ⟨p, q, t⟩ hval l1 l2 (cmpV_lt.1 g1) (cmpV_lt.1 g2)
          simp only [g1, g2, if_true, if_false]
          exact ih'
        · simp only [g1, if_false]
          exact ih'
      · refine Ev.bind h1 (Ev.bind h2 ?_)
        simp only [beq_self_eq_true, Bool.not_true, Bool.or_self, Bool.false_eq_true, if_false, bne_self_eq_false]
        refine Ev.step (fun k => by rw [partsynclaw01_ValueNexts.j1, if_neg (by decide), if_neg (by decide), hw]) ?_
        exact ih (s + 1) i (by omega) (by omega) hst
    · have hv := Bool.eq_false_iff.2 hv
      refine Ev.bind (value_Next.not hv) (Ev.bind (partsyncref01_Next.not hv) ?_)
      simp only [beq_self_eq_true, Bool.not_true, Bool.or_self, Bool.false_eq_true, if_false, bne_self_eq_false]
      refine Ev.step (fun k => by rw [partsynclaw01_ValueNexts.j1, if_neg (by decide), if_neg (by decide), hw]) ?_
      exact ih (s + 1) i (by omega) (by omega) hst
theorem partsynclaw01_ValueNexts.pure (l : List Int) (hl : ∀ x ∈ l, 0 ≤ x ∧ x ≤ 255) (a b : Int) (c : ByteArray) (lo : -9223372036854775808 ≤ b) (hi : b ≤ 9223372036854775807) : ∃ k, partsynclaw01_ValueNexts.f k l a b c = some true := by
  refine Ev.rounds (g := fun k => partsynclaw01_ValueNexts.f k l a b c) ?_
  unfold partsynclaw01_ValueNexts.f
  obtain ⟨hn, hst⟩ := partsynccase_New.ok hl 90 (by omega) (by omega)
  rw [hn]
  simp only [Option.bind_some]
  obtain ⟨p, q, t, j, hev, hst2, hval, l1, h1⟩ := partsynccase_Case_Any.ok hst
  refine Ev.bind hev ?_
  obtain ⟨p', q', t', j', hev', hst2', hval', l2, h2⟩ := partsynccase_Case_Any.ok hst2
  refine Ev.bind hev' ?_
  refine partsynclaw01_ValueNexts.l0_ev _ (by simp) ?_ _ 3 0 j' rfl (by simp) hst2'
  intro x hx
  simp only [List.mem_cons, List.not_mem_nil, or_false] at hx
  rcases hx with rfl | rfl | rfl
  · exact ⟨lo, hi⟩
  · exact ⟨l1, h1⟩
  · exact ⟨l2, h2⟩
end Go.Proofs.Ytpjcdacnhalclaa.Q
