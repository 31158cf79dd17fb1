/- Function F25 of the translation: what its call computes. -/
import Derived.Test.YtpjcdacnhalclaaK0
import Derived.Test.YtpjcdacnhalclaaE24
namespace Go.Proofs.Ytpjcdacnhalclaa.Q
open Go.RowKit Go.Proofs.YtpjcdacnhalclaaW.PrintWords Go.Proofs.YtpjcdacnhalclaaW.PrintLast Go.Proofs.YtpjcdacnhalclaaW.PrintMore
attribute [local go_sem] max2_int min2_int max_two min_two max_three min_three max_four min_four
set_option linter.unusedVariables false
set_option linter.unusedSimpArgs false
/-! ### value_Compare: function 25 -/
attribute [local go_sem high] eqA24
/-- Below, and no fewer orders drawn. -/
structure BG (B : Nat) (w w' : World) : Prop extends Below B w w' where
  drawn : w.drawn ≤ w'.drawn
theorem BG.refl (B : Nat) (w : World) : BG B w w := ⟨Below.refl B w, Nat.le_refl _⟩
theorem BG.trans {B : Nat} {a b c : World} (h : BG B a b) (k : BG B b c) : BG B a c := ⟨h.toBelow.trans k.toBelow, Nat.le_trans h.drawn k.drawn⟩

theorem bg_alloc {a w : World} (h : BG a.heap.size a w) (o : Obj) : BG a.heap.size a (w.alloc o) := ⟨below_alloc h.toBelow o, h.drawn⟩
theorem bg_step {w W w2 : World} (h : BG w.heap.size w W) (k : BG W.heap.size W w2) : BG w.heap.size w w2 := ⟨below_step h.toBelow k.toBelow, Nat.le_trans h.drawn k.drawn⟩
theorem bg_size {w W : World} (h : BG w.heap.size w W) : w.heap.size ≤ W.heap.size := h.size
theorem bg_drewN {B : Nat} {a w : World} (h : BG B a w) (m : Nat) : BG B a (w.drewN m) := ⟨pw_below_drewN h.toBelow m, Nat.le_trans h.drawn (Nat.le_add_right _ _)⟩
theorem bg_drew1 {B : Nat} {a w : World} (h : BG B a w) : BG B a w.drew := ⟨below_drew1 h.toBelow, Nat.le_trans h.drawn (Nat.le_add_right _ _)⟩
theorem bg2 (w : World) (o p : Obj) : BG w.heap.size w ((w.alloc o).alloc p) := ⟨((Below.refl _ _).alloc (Nat.le_refl _) _).alloc (by simp) _, Nat.le_refl _⟩

def value_Compare.f (a0_0 : Int) (a0_1 : Int) (a0_2 : ByteArray) (a1_0 : Int) (a1_1 : Int) (a1_2 : ByteArray) : Option (Int) := if (a0_0 == a1_0 && (a0_1 == a1_1 && (a0_2.toList == a1_2.toList))) = true then (some 0) else (if a0_0 = a1_0 then (if a0_1 = a1_1 then (if (Op.bytesLess a0_2.toList a1_2.toList) = true then (some (-1)) else (some 1)) else (if a0_1 < a1_1 then (some (-1)) else (some 1))) else (if a0_0 < a1_0 then (some (-1)) else (some 1)))

set_option maxHeartbeats 400000 in
theorem value_Compare.callsG (a0_0 : Int) (a0_1 : Int) (a0_2 : ByteArray) (a1_0 : Int) (a1_1 : Int) (a1_2 : ByteArray) (r : Int) (w : World) (h : value_Compare.f a0_0 a0_1 a0_2 a1_0 a1_1 a1_2 = some r) :
    Calls Try.prog 25 #[.agg #[.int .i64 a0_0, .int .i64 a0_1, .string a0_2], .agg #[.int .i64 a1_0, .int .i64 a1_1, .string a1_2]] w fun e w' => e = .returned (.int .i64 r) ∧ BG w.heap.size w w' := by
  have hu24 := Try.underlying24
  unfold value_Compare.f at h
  by_cases c3 : (a0_0 == a1_0 && (a0_1 == a1_1 && (a0_2.toList == a1_2.toList))) = true
  · rw [if_pos c3] at h
    cases h
    go_enter Try.func25, Try.ntmps25
    go_wp2
    go_ret
    exact ⟨rfl, bg2 _ _ _⟩
  · rw [if_neg c3] at h
    have c3b : (a0_0 == a1_0 && (a0_1 == a1_1 && (a0_2.toList == a1_2.toList))) = false := by simpa using c3
    by_cases c9 : a0_0 = a1_0
    · rw [if_pos c9] at h
      have k1 : (a0_0 != a1_0) = false := bne_eq_false_iff_eq.mpr c9
      by_cases c10 : a0_1 = a1_1
      · rw [if_pos c10] at h
        have k2 : (a0_1 != a1_1) = false := bne_eq_false_iff_eq.mpr c10
        have k3 : (a0_2.toList == a1_2.toList) = false := by subst c9 c10; simpa using c3b
        clear c3 c9 c10
        cases hb : Op.bytesLess a0_2.toList a1_2.toList
        all_goals
          rw [hb] at h; cases h
          go_enter Try.func25, Try.ntmps25
          go_wp2
          go_ret
          exact ⟨rfl, bg2 _ _ _⟩
      · rw [if_neg c10] at h
        have k2 : (a0_1 != a1_1) = true := bne_iff_ne.mpr c10
        clear c3 c9
        by_cases c11 : a0_1 < a1_1
        · rw [if_pos c11] at h; cases h
          go_enter Try.func25, Try.ntmps25
          go_wp2
          go_ret
          exact ⟨rfl, bg2 _ _ _⟩
        · rw [if_neg c11] at h; cases h
          go_enter Try.func25, Try.ntmps25
          go_wp2
          go_ret
          exact ⟨rfl, bg2 _ _ _⟩
    · rw [if_neg c9] at h
      have k1 : (a0_0 != a1_0) = true := bne_iff_ne.mpr c9
      clear c3
      by_cases c11 : a0_0 < a1_0
      · rw [if_pos c11] at h; cases h
        go_enter Try.func25, Try.ntmps25
        go_wp2
        go_ret
        exact ⟨rfl, bg2 _ _ _⟩
      · rw [if_neg c11] at h; cases h
        go_enter Try.func25, Try.ntmps25
        go_wp2
        go_ret
        exact ⟨rfl, bg2 _ _ _⟩
theorem value_Compare.calls (a0_0 : Int) (a0_1 : Int) (a0_2 : ByteArray) (a1_0 : Int) (a1_1 : Int) (a1_2 : ByteArray) (r : Int) (w : World) (h : value_Compare.f a0_0 a0_1 a0_2 a1_0 a1_1 a1_2 = some r) :
    Calls Try.prog 25 #[.agg #[.int .i64 a0_0, .int .i64 a0_1, .string a0_2], .agg #[.int .i64 a1_0, .int .i64 a1_1, .string a1_2]] w fun e w' => e = .returned (.int .i64 r) ∧ Below w.heap.size w w' :=
  (value_Compare.callsG _ _ _ _ _ _ _ w h).mono fun _ _ ⟨he, hb⟩ => ⟨he, hb.toBelow⟩

end Go.Proofs.Ytpjcdacnhalclaa.Q
