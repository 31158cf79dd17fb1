/- Function PC of the translation: what its call computes. -/
import Derived.Test.YtpjcdacnhalclaaK0
import Derived.Test.YtpjcdacnhalclaaF26
import Derived.Test.YtpjcdacnhalclaaF27
import Derived.Test.YtpjcdacnhalclaaF50
import Derived.Test.YtpjcdacnhalclaaHdr
import Derived.Test.YtpjcdacnhalclaaOrd
import Derived.Test.YtpjcdacnhalclaaPN
import Derived.Test.YtpjcdacnhalclaaPV
import Derived.Test.YtpjcdacnhalclaaBP
import Derived.Test.YtpjcdacnhalclaaOrd
namespace Go.Proofs.Ytpjcdacnhalclaa.Q
open Go.RowKit Go.Proofs.YtpjcdacnhalclaaW.PrintWords Go.Proofs.YtpjcdacnhalclaaW.PrintLast Go.Proofs.YtpjcdacnhalclaaW.PrintMore
attribute [local go_sem] max2_int min2_int max_two min_two max_three min_three max_four min_four
set_option linter.unusedVariables false
set_option linter.unusedSimpArgs false
/-! ### the laws of values: what they compute is true -/
theorem partsyncref01_First.some_ (k : Nat) (a : Int) : partsyncref01_First.f (k + 1) a = some (firstV a) := by
  unfold partsyncref01_First.f firstV
  by_cases h1 : a = 1
  · subst h1; simp [partsyncref01_First.j0]
  · by_cases h2 : a = 2
    · subst h2; simp [partsyncref01_First.j0]
    · by_cases h3 : a = 3
      · subst h3; simp [partsyncref01_First.j0]
      · by_cases h5 : a = 5
        · subst h5; simp [partsyncref01_First.j0]
        · have h5b : (a == 5) = false := beq_eq_false_iff_ne.2 h5
          by_cases h4 : a = 4
          · subst h4; simp [partsyncref01_First.j0]
          · simp [partsyncref01_First.j0, h1, h2, h3, h4, h5, h5b]
theorem partsyncref01_First.ev (a : Int) : Ev (fun k => partsyncref01_First.f k a) (firstV a) := ev_of_succ fun k => partsyncref01_First.some_ k a
theorem evIf {α : Type} {g : Nat → Option α} {f : Nat → Bool → Option α} {b c : Bool} {r : α} (e : b = c) (h : Ev (fun k => f k c) r) : Ev (fun k => f k b) r := by subst e; exact h
theorem value_Next.hidden : Ev (fun k => value_Next.f k 2 0 ⟨#[]⟩) (3, 0, ⟨#[]⟩, true) := by
  refine Ev.bind (value_Valid.ev _ _ _) ?_
  have : validV 2 0 ⟨#[]⟩ = true := validV_low (by omega)
  simp only [this]
  exact firstEv 3 rfl
theorem value_Next.true_ : Ev (fun k => value_Next.f k 3 1 ⟨#[]⟩) (4, -9223372036854775808, ⟨#[]⟩, true) := by
  refine Ev.bind (value_Valid.ev _ _ _) ?_
  have : validV 3 1 ⟨#[]⟩ = true := validV_low (by omega)
  simp only [this]
  exact firstEv 4 rfl
theorem value_Next.last : Ev (fun k => value_Next.f k 4 9223372036854775807 ⟨#[]⟩) (5, 0, ⟨#[]⟩, true) := by
  refine Ev.bind (value_Valid.ev _ _ _) ?_
  have : validV 4 9223372036854775807 ⟨#[]⟩ = true := validV_low (by omega)
  simp only [this]
  exact firstEv 5 rfl
theorem value_Next.end_ (t : ByteArray) (ht : t.toList = List.replicate 64 255) : Ev (fun k => value_Next.f k 5 0 t) (0, 0, ⟨#[]⟩, false) := by
  have hs : t.size = 64 := by rw [← toList_len, ht]; simp
  rcases value_Next.ok ⟨5, 0, t⟩ (validV_text (by show t.size ≤ 64; omega)) (by simp) (by simp) with ⟨y, hy, _, _⟩ | ⟨_, h, _⟩
  · exfalso
    have hv := validV_cases hy.valid
    have hk := validV_kind hy.valid
    rcases hy.up with h | ⟨e, h⟩
    · have : (5 : Int) < y.f0 := h
      omega
    · have e : (5 : Int) = y.f0 := e
      rcases hv with hc | hc | hc | hc
      · omega
      · omega
      · omega
      · rcases h with h | ⟨_, h⟩
        · have : (0 : Int) < y.f1 := h
          omega
        · have h : t.toList < y.f2.toList := h
          rw [ht] at h
          exact lt_rep 64 _ (by rw [toList_len]; exact hc.2.2) h
  · exact h
theorem partsyncref01_Compare.some_ (x y : S24) : partsyncref01_Compare.f x.f0 x.f1 x.f2 y.f0 y.f1 y.f2 = some (cmpV x y) := by
  unfold partsyncref01_Compare.f
  rcases cmpV_cases x y with ⟨h, e⟩ | ⟨h, e⟩ | ⟨h, e⟩
  · rw [e]
    rcases h with h | ⟨e1, h | ⟨e2, h⟩⟩
    · rw [if_pos h]
    · rw [if_neg (by omega), if_neg (by omega), if_pos h]
    · rw [if_neg (by omega), if_neg (by omega), if_neg (by omega), if_neg (by omega), if_pos (by rw [bytesLess_eq]; exact decide_eq_true h)]
  · subst h
    rw [e, if_neg (by omega), if_neg (by omega), if_neg (by omega), if_neg (by omega), if_neg (by rw [bytesLess_eq]; exact fun k => List.lt_irrefl _ (of_decide_eq_true k)), if_pos (by simp)]
  · rw [e]
    rcases h with h | ⟨e1, h | ⟨e2, h⟩⟩
    · rw [if_neg (by omega), if_pos h]
    · rw [if_neg (by omega), if_neg (by omega), if_neg (by omega), if_pos h]
    · rw [if_neg (by omega), if_neg (by omega), if_neg (by omega), if_neg (by omega), if_neg (by rw [bytesLess_eq]; exact fun k => List.lt_asymm h (of_decide_eq_true k)), if_neg (by
        intro k
        rw [beq_iff_eq] at k
        rw [k] at h
        exact List.lt_irrefl _ h)]
theorem cmpV_range (x y : S24) : -1 ≤ cmpV x y ∧ cmpV x y ≤ 1 := by
  rcases cmpV_cases x y with ⟨_, e⟩ | ⟨_, e⟩ | ⟨_, e⟩ <;> omega
theorem eqV_iff (x y : S24) : (x.f0 == y.f0 && (x.f1 == y.f1 && (x.f2.toList == y.f2.toList))) = (cmpV x y == 0) := by
  rw [Bool.eq_iff_iff]
  simp only [Bool.and_eq_true, beq_iff_eq, cmpV_zero]
  constructor
  · rintro ⟨h1, h2, h3⟩; exact S24.ext_ h1 h2 h3
  · rintro rfl; exact ⟨rfl, rfl, rfl⟩
end Go.Proofs.Ytpjcdacnhalclaa.Q
