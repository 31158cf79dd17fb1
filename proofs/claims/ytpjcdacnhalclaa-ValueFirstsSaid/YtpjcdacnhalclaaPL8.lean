/- Function PL8 of the translation: what its call computes. -/
import Derived.Test.YtpjcdacnhalclaaK0
import Derived.Test.YtpjcdacnhalclaaBP
import Derived.Test.YtpjcdacnhalclaaF25
import Derived.Test.YtpjcdacnhalclaaF8
import Derived.Test.YtpjcdacnhalclaaHdr
import Derived.Test.YtpjcdacnhalclaaOrd
import Derived.Test.YtpjcdacnhalclaaPC
import Derived.Test.YtpjcdacnhalclaaPN
import Derived.Test.YtpjcdacnhalclaaPV
import Derived.Test.YtpjcdacnhalclaaBP
import Derived.Test.YtpjcdacnhalclaaOrd
namespace Go.Proofs.Ytpjcdacnhalclaa.Q
open Go.RowKit Go.Proofs.YtpjcdacnhalclaaW.PrintWords Go.Proofs.YtpjcdacnhalclaaW.PrintLast Go.Proofs.YtpjcdacnhalclaaW.PrintMore
attribute [local go_sem] max2_int min2_int max_two min_two max_three min_three max_four min_four
set_option linter.unusedVariables false
set_option linter.unusedSimpArgs false
/-! ### the laws of values: what they compute is true -/
theorem partsynclaw01_ValueFirsts.l0_ev (n : Int) (lo : -9223372036854775808 ≤ n) (hi : n ≤ 9223372036854775807) (a b : Int) (c : ByteArray) (d : Bool) : ∀ (m i : Nat) (x : ByteArray), 64 - i = m → i ≤ 64 → x.toList = List.replicate i 255 →
    Ev (fun k => partsynclaw01_ValueFirsts.l0 k n d d x i a b c a b c) true := by
  intro m
  induction m with
  | zero =>
    intro i x hm hi64 hx
    have e : i = 64 := by omega
    subst e
    refine Ev.step (fun k => by rw [partsynclaw01_ValueFirsts.l0, if_neg (by omega)]) ?_
    refine Ev.bind value_Next.hidden ?_
    refine Ev.bind value_Next.true_ ?_
    refine Ev.bind value_Next.last ?_
    refine Ev.bind (value_Next.end_ x hx) ?_
    refine Ev.bind partsynclaw01_begun.ev ?_
    have c1 : value_Compare.f 4 (-9223372036854775808) ⟨#[]⟩ 4 n ⟨#[]⟩ = some (cmpV ⟨4, -9223372036854775808, ⟨#[]⟩⟩ ⟨4, n, ⟨#[]⟩⟩) := value_Compare.some_ ⟨4, -9223372036854775808, ⟨#[]⟩⟩ ⟨4, n, ⟨#[]⟩⟩
    have c2 : value_Compare.f 4 n ⟨#[]⟩ 5 0 ⟨#[]⟩ = some (cmpV ⟨4, n, ⟨#[]⟩⟩ ⟨5, 0, ⟨#[]⟩⟩) := value_Compare.some_ ⟨4, n, ⟨#[]⟩⟩ ⟨5, 0, ⟨#[]⟩⟩
    have e2 : cmpV ⟨4, n, ⟨#[]⟩⟩ ⟨5, 0, ⟨#[]⟩⟩ = -1 := value_Compare.lt_ (.inl (by simp))
    have e1 : cmpV ⟨4, -9223372036854775808, ⟨#[]⟩⟩ ⟨4, n, ⟨#[]⟩⟩ ≤ 0 := by
      by_cases hh : n = -9223372036854775808
      · subst hh
        rw [cmpV_zero.2 rfl]
        omega
      · rw [value_Compare.lt_ (x := ⟨4, -9223372036854775808, ⟨#[]⟩⟩) (y := ⟨4, n, ⟨#[]⟩⟩) (.inr ⟨rfl, .inl (by show (-9223372036854775808 : Int) < n; omega)⟩)]
        omega
    simp only [c1, c2, e2, Option.bind_some, e1, beq_self_eq_true, Bool.and_self, if_true, Bool.false_eq_true, if_false, toListE]
    exact Ev.now _
  | succ m ih =>
    intro i x hm hi64 hx
    have hs : x.size = i := by rw [← toList_len, hx]; simp
    have hw : wrap64 ((i : Int) + 1) = ((i + 1 : Nat) : Int) := wrap64_succ (by omega)
    refine Ev.step (fun k => by rw [partsynclaw01_ValueFirsts.l0, if_pos (by omega), if_pos (by omega), hw]) ?_
    refine ih (i + 1) _ (by omega) (by omega) ?_
    have : (x ++ (⟨#[255]⟩ : ByteArray)).toList = x.toList ++ [255] := by simp only [Go.Lib.toList_data, ByteArray.data_append, Array.toList_append]
    rw [this, hx, List.replicate_succ']
theorem partsynclaw01_ValueFirsts.pure (a0 n : Int) (lo : -9223372036854775808 ≤ n) (hi : n ≤ 9223372036854775807) : ∃ k, partsynclaw01_ValueFirsts.f k a0 n = some true := by
  refine Ev.rounds (g := fun k => partsynclaw01_ValueFirsts.f k a0 n) ?_
  unfold partsynclaw01_ValueFirsts.f
  refine Ev.bind (value_First.ev a0) ?_
  refine Ev.bind (partsyncref01_First.ev a0) ?_
  exact partsynclaw01_ValueFirsts.l0_ev n lo hi _ _ _ _ 64 0 ⟨#[]⟩ rfl (by omega) toListE
end Go.Proofs.Ytpjcdacnhalclaa.Q
