/- Function BP of the translation: what its call computes. -/
import Derived.Test.YtpjcdacnhalclaaK0
import Derived.Test.YtpjcdacnhalclaaF20
import Derived.Test.YtpjcdacnhalclaaF27
import Derived.Test.YtpjcdacnhalclaaF52
import Derived.Test.YtpjcdacnhalclaaF54
import Derived.Test.YtpjcdacnhalclaaHdr
import Derived.Test.YtpjcdacnhalclaaOrd
import Derived.Test.YtpjcdacnhalclaaPN
import Derived.Test.YtpjcdacnhalclaaPV
import Derived.Test.YtpjcdacnhalclaaPN
import Derived.Test.YtpjcdacnhalclaaF20
namespace Go.Proofs.Ytpjcdacnhalclaa.Q
open Go.RowKit Go.Proofs.YtpjcdacnhalclaaW.PrintWords Go.Proofs.YtpjcdacnhalclaaW.PrintLast Go.Proofs.YtpjcdacnhalclaaW.PrintMore
attribute [local go_sem] max2_int min2_int max_two min_two max_three min_three max_four min_four
set_option linter.unusedVariables false
set_option linter.unusedSimpArgs false
/-! ### the examples of the chapter hold -/
theorem ev_unique {α : Type} {g : Nat → Option α} {r q : α} (hm : ∀ k, LeO (g k) (g (k + 1))) (h : Ev g r) {k : Nat} (hk : g k = some q) : q = r := by
  obtain ⟨K, hK⟩ := h
  have h1 := at_rounds hm (Nat.le_max_left k K) hk
  rw [hK _ (Nat.le_max_right k K)] at h1
  exact (Option.some.inj h1).symm
def iN (n : Int) : List S24 := [⟨4, n, ⟨#[]⟩⟩]
theorem cmpL_iN {a b : Int} (h : a < b) : cmpL (iN a) (iN b) = -1 := by
  have : cmpV ⟨4, a, ⟨#[]⟩⟩ ⟨4, b, ⟨#[]⟩⟩ = -1 := value_Compare.lt_ (.inr ⟨rfl, .inl h⟩)
  unfold iN
  simp only [cmpL, this]
  decide
theorem setOf_iN : setOf [iN 2, iN 1, iN 2] = [iN 1, iN 2] := by
  have hs : [iN 1, iN 2, iN 2] = [iN 2, iN 1, iN 2].mergeSort leL := by
    refine sorted_is (List.Perm.swap _ _ _) ?_
    have h12 : leL (iN 1) (iN 2) = true := by unfold leL; rw [cmpL_iN (by omega)]; decide
    have h22 : leL (iN 2) (iN 2) = true := by unfold leL; rw [cmpL_self]; decide
    simp [h12, h22]
  unfold setOf
  rw [← hs]
  have c12 : cmpL (iN 1) (iN 2) = -1 := cmpL_iN (by omega)
  have c22 : cmpL (iN 2) (iN 2) = 0 := cmpL_self _
  simp [ded, c12, c22]
theorem partsynclaw01_begun.ev : Ev (fun k => partsynclaw01_begun.f k) true := by
  unfold partsynclaw01_begun.f
  have hN : Ev (fun k => value_Next.f k 5 0 ⟨#[97]⟩) (5, 0, (⟨#[97]⟩ : ByteArray) ++ ⟨#[0]⟩, true) := by
    refine Ev.bind (value_Valid.ev _ _ _) ?_
    have : validV 5 0 ⟨#[97]⟩ = true := validV_text (by decide)
    simp only [this]
    exact Ev.now _
  refine Ev.bind hN ?_
  have hS : Ev (fun k => value_Set.f k ([[(⟨4, 2, ⟨#[]⟩⟩ : S24)], [⟨4, 1, ⟨#[]⟩⟩], [⟨4, 2, ⟨#[]⟩⟩]])) [iN 1, iN 2] := by
    refine ⟨0, fun k _ => ?_⟩
    unfold value_Set.f
    rw [if_pos (by decide)]
    exact congrArg some setOf_iN
  refine Ev.bind hS ?_
  have e97 : ((⟨#[97]⟩ : ByteArray) ++ ⟨#[0]⟩).toList = [97, 0] := by rw [Go.Lib.toList_data]; rfl
  have hv : validV 5 0 ((⟨#[97]⟩ : ByteArray) ++ ⟨#[0]⟩) = true := validV_text (by decide)
  simp only [e97, if_true]
  refine Ev.bind (value_Valid.ev _ _ _) ?_
  simp only [hv, if_true]
  refine Ev.bind (value_Real.ev _ _ _) ?_
  have hr : realV 5 0 ((⟨#[97]⟩ : ByteArray) ++ ⟨#[0]⟩) = true := by unfold realV; rw [hv]; decide
  simp only [hr, if_true]
  have hc : Ev (fun k => value_CompareRows.f k (rd_L4 [iN 1, iN 2] 0) (rd_L4 [iN 1, iN 2] 1)) (-1) := ⟨4, fun k hk => by
    have := value_CompareRows.some_ (iN 1) (iN 2) (by decide) k (by simpa [iN] using hk)
    rw [cmpL_iN (by omega)] at this
    exact this⟩
  refine Ev.congr (f := fun k => (value_CompareRows.f k (rd_L4 [iN 1, iN 2] 0) (rd_L4 [iN 1, iN 2] 1)).bind fun t218 => some (t218 == (-1))) (fun k => by simp) ?_
  exact Ev.bind hc (Ev.now _)
theorem partsynclaw01_begun.calls (k : Nat) (r : Bool) (w : World) (h : partsynclaw01_begun.f k = some r) :
    Calls Try.prog 20 #[] w fun e w' => e = .returned (.bool r) ∧ Below w.heap.size w w' :=
  partsynclaw01_begun.callsT k r w h ⟨ev_unique partsynclaw01_begun.mono partsynclaw01_begun.ev h⟩
end Go.Proofs.Ytpjcdacnhalclaa.Q
