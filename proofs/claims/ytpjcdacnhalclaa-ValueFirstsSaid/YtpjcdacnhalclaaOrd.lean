/- Function Ord of the translation: what its call computes. -/
import Derived.Test.YtpjcdacnhalclaaK0
import Derived.Test.YtpjcdacnhalclaaF25
import Derived.Test.YtpjcdacnhalclaaHdr
import Derived.Sort.Walk0
import Derived.Lib.Bytes
namespace Go.Proofs.Ytpjcdacnhalclaa.Q
open Go.RowKit Go.Proofs.YtpjcdacnhalclaaW.PrintWords Go.Proofs.YtpjcdacnhalclaaW.PrintLast Go.Proofs.YtpjcdacnhalclaaW.PrintMore
attribute [local go_sem] max2_int min2_int max_two min_two max_three min_three max_four min_four
set_option linter.unusedVariables false
set_option linter.unusedSimpArgs false
/-! ### the order of values and rows -/
/-- x is less than y. -/
def ltV (x y : S24) : Prop := x.f0 < y.f0 ∨ (x.f0 = y.f0 ∧ (x.f1 < y.f1 ∨ (x.f1 = y.f1 ∧ x.f2.toList < y.f2.toList)))
theorem S24.ext_ {x y : S24} (h0 : x.f0 = y.f0) (h1 : x.f1 = y.f1) (h2 : x.f2.toList = y.f2.toList) : x = y := by
  obtain ⟨a, b, c⟩ := x
  obtain ⟨a', b', c'⟩ := y
  simp only at h0 h1 h2
  subst h0 h1
  have : c = c' := by
    rw [Go.Lib.toList_data, Go.Lib.toList_data] at h2
    cases c
    cases c'
    congr 1
    exact Array.toList_inj.1 h2
  rw [this]
theorem ltV_irrefl (x : S24) : ¬ ltV x x := by
  rintro (h | ⟨_, h | ⟨_, h⟩⟩)
  · omega
  · omega
  · exact List.lt_irrefl _ h
theorem ltV_trans {x y z : S24} (h : ltV x y) (k : ltV y z) : ltV x z := by
  rcases h with h | ⟨e, h | ⟨e', h⟩⟩
  · rcases k with k | ⟨f, _⟩
    · exact .inl (by omega)
    · exact .inl (by omega)
  · rcases k with k | ⟨f, k | ⟨f', k⟩⟩
    · exact .inl (by omega)
    · exact .inr ⟨by omega, .inl (by omega)⟩
    · exact .inr ⟨by omega, .inl (by omega)⟩
  · rcases k with k | ⟨f, k | ⟨f', k⟩⟩
    · exact .inl (by omega)
    · exact .inr ⟨by omega, .inl (by omega)⟩
    · exact .inr ⟨by omega, .inr ⟨by omega, List.lt_trans h k⟩⟩
theorem ltV_asymm {x y : S24} (h : ltV x y) (k : ltV y x) : False := ltV_irrefl _ (ltV_trans h k)
theorem ltV_tri (x y : S24) : ltV x y ∨ x = y ∨ ltV y x := by
  by_cases a : x.f0 < y.f0
  · exact .inl (.inl a)
  by_cases b : y.f0 < x.f0
  · exact .inr (.inr (.inl b))
  have e : x.f0 = y.f0 := by omega
  by_cases c : x.f1 < y.f1
  · exact .inl (.inr ⟨e, .inl c⟩)
  by_cases d : y.f1 < x.f1
  · exact .inr (.inr (.inr ⟨e.symm, .inl d⟩))
  have f : x.f1 = y.f1 := by omega
  by_cases g : x.f2.toList < y.f2.toList
  · exact .inl (.inr ⟨e, .inr ⟨f, g⟩⟩)
  by_cases i : y.f2.toList < x.f2.toList
  · exact .inr (.inr (.inr ⟨e.symm, .inr ⟨f.symm, i⟩⟩))
  · exact .inr (.inl (S24.ext_ e f (List.le_antisymm (List.not_lt.1 i) (List.not_lt.1 g))))
theorem value_Compare.lt_ {x y : S24} (h : ltV x y) : cmpV x y = -1 := by
  have hne : (x.f0 == y.f0 && (x.f1 == y.f1 && (x.f2.toList == y.f2.toList))) = false := by
    rw [Bool.eq_false_iff]
    intro hh
    simp only [Bool.and_eq_true, beq_iff_eq] at hh
    exact ltV_irrefl x (by have := S24.ext_ hh.1 hh.2.1 hh.2.2; rwa [← this] at h)
  unfold cmpV value_Compare.f
  rw [if_neg (by rw [hne]; decide)]
  rcases h with h | ⟨e, h | ⟨e', h⟩⟩
  · rw [if_neg (by omega), if_pos h]; rfl
  · rw [if_pos e, if_neg (by omega), if_pos h]; rfl
  · rw [if_pos e, if_pos e', if_pos (by rw [bytesLess_eq]; exact decide_eq_true h)]; rfl
theorem value_Compare.gt_ {x y : S24} (h : ltV y x) : cmpV x y = 1 := by
  have hne : (x.f0 == y.f0 && (x.f1 == y.f1 && (x.f2.toList == y.f2.toList))) = false := by
    rw [Bool.eq_false_iff]
    intro hh
    simp only [Bool.and_eq_true, beq_iff_eq] at hh
    exact ltV_irrefl x (by have := S24.ext_ hh.1 hh.2.1 hh.2.2; rwa [← this] at h)
  unfold cmpV value_Compare.f
  rw [if_neg (by rw [hne]; decide)]
  rcases h with h | ⟨e, h | ⟨e', h⟩⟩
  · rw [if_neg (by omega), if_neg (by omega)]; rfl
  · rw [if_pos e.symm, if_neg (by omega), if_neg (by omega)]; rfl
  · rw [if_pos e.symm, if_pos e'.symm, if_neg (by rw [bytesLess_eq]; exact fun k => List.lt_asymm h (of_decide_eq_true k))]; rfl
theorem value_Compare.eq_ (x : S24) : cmpV x x = 0 := by
  unfold cmpV value_Compare.f
  rw [if_pos (by simp)]; rfl
theorem cmpV_cases (x y : S24) : (ltV x y ∧ cmpV x y = -1) ∨ (x = y ∧ cmpV x y = 0) ∨ (ltV y x ∧ cmpV x y = 1) := by
  rcases ltV_tri x y with h | rfl | h
  · exact .inl ⟨h, value_Compare.lt_ h⟩
  · exact .inr (.inl ⟨rfl, value_Compare.eq_ x⟩)
  · exact .inr (.inr ⟨h, value_Compare.gt_ h⟩)
theorem cmpV_zero {x y : S24} : cmpV x y = 0 ↔ x = y := by
  constructor
  · intro h
    rcases cmpV_cases x y with ⟨_, k⟩ | ⟨k, _⟩ | ⟨_, k⟩
    · omega
    · exact k
    · omega
  · rintro rfl; exact value_Compare.eq_ x
theorem cmpV_lt {x y : S24} : cmpV x y < 0 ↔ ltV x y := by
  constructor
  · intro h
    rcases cmpV_cases x y with ⟨k, _⟩ | ⟨_, k⟩ | ⟨_, k⟩
    · exact k
    · omega
    · omega
  · intro h; rw [value_Compare.lt_ h]; decide
theorem cmpV_neg (x y : S24) : cmpV x y = - cmpV y x := by
  rcases cmpV_cases x y with ⟨h, k⟩ | ⟨rfl, k⟩ | ⟨h, k⟩
  · rw [k, value_Compare.gt_ h]
  · rw [k]; rfl
  · rw [k, value_Compare.lt_ h]; rfl
theorem cmpV_le_trans {x y z : S24} (h : cmpV x y ≤ 0) (k : cmpV y z ≤ 0) : cmpV x z ≤ 0 := by
  rcases cmpV_cases x y with ⟨a, _⟩ | ⟨rfl, _⟩ | ⟨_, a⟩
  · rcases cmpV_cases y z with ⟨b, _⟩ | ⟨rfl, _⟩ | ⟨_, b⟩
    · rw [value_Compare.lt_ (ltV_trans a b)]; decide
    · exact h
    · omega
  · exact k
  · omega
theorem cmpL_cases : ∀ x y : List S24, cmpL x y = -1 ∨ (cmpL x y = 0 ∧ x = y) ∨ cmpL x y = 1
  | [], [] => .inr (.inl ⟨rfl, rfl⟩)
  | [], _ :: _ => .inl rfl
  | _ :: _, [] => .inr (.inr rfl)
  | x :: xs, y :: ys => by
    simp only [cmpL]
    rcases cmpV_cases x y with ⟨_, k⟩ | ⟨rfl, k⟩ | ⟨_, k⟩
    · rw [if_neg (by omega)]; exact .inl k
    · rw [if_pos k]
      rcases cmpL_cases xs ys with h | ⟨h, rfl⟩ | h
      · exact .inl h
      · exact .inr (.inl ⟨h, rfl⟩)
      · exact .inr (.inr h)
    · rw [if_neg (by omega)]; exact .inr (.inr k)
theorem cmpL_self : ∀ x : List S24, cmpL x x = 0
  | [] => rfl
  | x :: xs => by simp only [cmpL]; rw [if_pos (value_Compare.eq_ x), cmpL_self xs]
theorem cmpL_zero {x y : List S24} : cmpL x y = 0 ↔ x = y := by
  constructor
  · intro h
    rcases cmpL_cases x y with k | ⟨_, k⟩ | k
    · omega
    · exact k
    · omega
  · rintro rfl; exact cmpL_self x
theorem cmpL_neg : ∀ x y : List S24, cmpL x y = - cmpL y x
  | [], [] => rfl
  | [], _ :: _ => rfl
  | _ :: _, [] => rfl
  | x :: xs, y :: ys => by
    simp only [cmpL]
    have h := cmpV_neg x y
    by_cases k : cmpV x y = 0
    · rw [if_pos k, if_pos (by omega), cmpL_neg xs ys]
    · rw [if_neg k, if_neg (by omega), h]
theorem cmpL_le_trans : ∀ {x y z : List S24}, cmpL x y ≤ 0 → cmpL y z ≤ 0 → cmpL x z ≤ 0
  | [], _, [], _, _ => by decide
  | [], _, _ :: _, _, _ => by show (-1 : Int) ≤ 0; decide
  | _ :: _, [], _, h, _ => by exact absurd h (by show ¬ (1 : Int) ≤ 0; decide)
  | _ :: _, _ :: _, [], _, k => by exact absurd k (by show ¬ (1 : Int) ≤ 0; decide)
  | x :: xs, y :: ys, z :: zs, h, k => by
    simp only [cmpL] at h k ⊢
    rcases cmpV_cases x y with ⟨a, ka⟩ | ⟨rfl, ka⟩ | ⟨_, ka⟩
    · rcases cmpV_cases y z with ⟨b, kb⟩ | ⟨rfl, kb⟩ | ⟨_, kb⟩
      · rw [if_neg (by rw [value_Compare.lt_ (ltV_trans a b)]; decide), value_Compare.lt_ (ltV_trans a b)]; decide
      · rw [if_neg (by omega)]; omega
      · rw [if_neg (by omega)] at k; omega
    · rw [if_pos ka] at h
      by_cases c : cmpV x z = 0
      · rw [if_pos c] at k ⊢
        exact cmpL_le_trans h k
      · rw [if_neg c] at k ⊢
        exact k
    · rw [if_neg (by omega)] at h; omega
/-! ### the relation of rows -/
def leL (x y : List S24) : Bool := decide (cmpL x y ≤ 0)
theorem leL_trans (x y z : List S24) (h : leL x y = true) (k : leL y z = true) : leL x z = true := decide_eq_true (cmpL_le_trans (of_decide_eq_true h) (of_decide_eq_true k))
theorem leL_total (x y : List S24) : (leL x y || leL y x) = true := by
  unfold leL
  have := cmpL_neg x y
  rw [Bool.or_eq_true, decide_eq_true_iff, decide_eq_true_iff]
  omega
theorem leL_antisymm {x y : List S24} (h : leL x y = true) (k : leL y x = true) : x = y := by
  unfold leL at h k
  have := cmpL_neg x y
  have h := of_decide_eq_true h
  have k := of_decide_eq_true k
  exact cmpL_zero.1 (by omega)
/-- Each row once, of a list in which equal rows stand side by side. -/
def ded : Option (List S24) → List (List S24) → List (List S24)
  | _, [] => []
  | none, x :: xs => x :: ded (some x) xs
  | some p, x :: xs => if cmpL p x = 0 then ded (some x) xs else x :: ded (some x) xs
def setOf (l : List (List S24)) : List (List S24) := ded none (l.mergeSort leL)
def lastOf : Option (List S24) → List (List S24) → Option (List S24)
  | o, [] => o
  | _, x :: xs => lastOf (some x) xs
theorem ded_snoc (x : List S24) : ∀ (l : List (List S24)) (o : Option (List S24)), ded o (l ++ [x]) = ded o l ++ (match lastOf o l with | none => [x] | some p => if cmpL p x = 0 then [] else [x])
  | [], none => rfl
  | [], some p => by simp only [List.nil_append, ded, lastOf]
  | y :: ys, none => by simp only [List.cons_append, ded, lastOf, ded_snoc x ys]
  | y :: ys, some p => by
    simp only [List.cons_append, ded, lastOf, ded_snoc x ys]
    split
    · rfl
    · rfl
theorem lastOf_snoc (x : List S24) : ∀ (l : List (List S24)) (o : Option (List S24)), lastOf o (l ++ [x]) = some x
  | [], _ => rfl
  | _ :: ys, _ => lastOf_snoc x ys _
/-- A sorted rearrangement is THE sorted one. -/
theorem sorted_is {l l' : List (List S24)} (hp : l'.Perm l) (hs : l'.Pairwise (fun a b => leL a b = true)) : l' = l.mergeSort leL :=
  (hp.trans (List.mergeSort_perm l leL).symm).eq_of_pairwise (fun _ _ _ _ h k => leL_antisymm h k) hs (List.pairwise_mergeSort leL_trans leL_total l)
end Go.Proofs.Ytpjcdacnhalclaa.Q
