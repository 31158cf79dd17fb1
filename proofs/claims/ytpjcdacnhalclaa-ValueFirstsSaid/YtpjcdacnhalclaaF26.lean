/- Function F26 of the translation: what its call computes. -/
import Derived.Test.YtpjcdacnhalclaaK0
import Derived.Test.YtpjcdacnhalclaaF25
import Derived.WalkLawsBesides
namespace Go.Proofs.Ytpjcdacnhalclaa.Q
open Go.RowKit Go.Proofs.YtpjcdacnhalclaaW.PrintWords Go.Proofs.YtpjcdacnhalclaaW.PrintLast Go.Proofs.YtpjcdacnhalclaaW.PrintMore
attribute [local go_sem] max2_int min2_int max_two min_two max_three min_three max_four min_four
set_option linter.unusedVariables false
set_option linter.unusedSimpArgs false
/-! ### partsyncref01_Compare: function 26 -/
theorem below2 (w : World) (o p : Obj) : Below w.heap.size w ((w.alloc o).alloc p) := (bg2 w o p).toBelow
def partsyncref01_Compare.f (a0_0 : Int) (a0_1 : Int) (a0_2 : ByteArray) (a1_0 : Int) (a1_1 : Int) (a1_2 : ByteArray) : Option (Int) := if a0_0 < a1_0 then (some (-1)) else (if a0_0 > a1_0 then (some 1) else (if a0_1 < a1_1 then (some (-1)) else (if a0_1 > a1_1 then (some 1) else (if (Op.bytesLess a0_2.toList a1_2.toList) = true then (some (-1)) else (if (a0_2.toList == a1_2.toList) = true then (some 0) else (some 1))))))
set_option maxHeartbeats 400000 in
theorem partsyncref01_Compare.calls (a0_0 : Int) (a0_1 : Int) (a0_2 : ByteArray) (a1_0 : Int) (a1_1 : Int) (a1_2 : ByteArray) (r : Int) (w : World) (h : partsyncref01_Compare.f a0_0 a0_1 a0_2 a1_0 a1_1 a1_2 = some r) :
    Calls Try.prog 26 #[.agg #[.int .i64 a0_0, .int .i64 a0_1, .string a0_2], .agg #[.int .i64 a1_0, .int .i64 a1_1, .string a1_2]] w fun e w' => e = .returned (.int .i64 r) ∧ Below w.heap.size w w' := by
  have hu24 := Try.underlying24
  unfold partsyncref01_Compare.f at h
  by_cases c3 : a0_0 < a1_0
  · rw [if_pos c3] at h; cases h
    go_enter Try.func26, Try.ntmps26
    go_wp2
    go_ret
    exact ⟨rfl, below2 _ _ _⟩
  · rw [if_neg c3] at h
    by_cases c4 : a0_0 > a1_0
    · rw [if_pos c4] at h; cases h
      go_enter Try.func26, Try.ntmps26
      go_wp2
      go_ret
      exact ⟨rfl, below2 _ _ _⟩
    · rw [if_neg c4] at h
      by_cases c5 : a0_1 < a1_1
      · rw [if_pos c5] at h; cases h
        go_enter Try.func26, Try.ntmps26
        go_wp2
        go_ret
        exact ⟨rfl, below2 _ _ _⟩
      · rw [if_neg c5] at h
        by_cases c6 : a0_1 > a1_1
        · rw [if_pos c6] at h; cases h
          go_enter Try.func26, Try.ntmps26
          go_wp2
          go_ret
          exact ⟨rfl, below2 _ _ _⟩
        · rw [if_neg c6] at h
          cases hb : Op.bytesLess a0_2.toList a1_2.toList
          · rw [hb, if_neg (by decide)] at h
            cases hb2 : a0_2.toList == a1_2.toList
            all_goals
              rw [hb2] at h; cases h
              go_enter Try.func26, Try.ntmps26
              go_wp2
              go_ret
              exact ⟨rfl, below2 _ _ _⟩
          · rw [hb] at h; cases h
            go_enter Try.func26, Try.ntmps26
            go_wp2
            go_ret
            exact ⟨rfl, below2 _ _ _⟩
end Go.Proofs.Ytpjcdacnhalclaa.Q
