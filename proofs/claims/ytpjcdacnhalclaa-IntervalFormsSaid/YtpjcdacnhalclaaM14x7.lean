/- A part of a proof: facts of functions that the law calls; conditions stand in each. -/
import Derived.Test.YtpjcdacnhalclaaM14x3
import Derived.Test.YtpjcdacnhalclaaM14x5
import Derived.Shelf.SlSortCmp.Whole1
import Derived.Sort.Walk0
import Derived.Lib.Bytes
import Derived.Shelf.SlSortCmp.WholeK
import Derived.Test.YtpjcdacnhalclaaM14x6
import Derived.Lib.SlicesCompact
import Derived.Lib.SliceRun
import Derived.Deep.LoopGhost
import Derived.Deep.Draws
import Derived.Shelf.RegionOpenPlain
set_option linter.unusedVariables false
set_option linter.unusedSimpArgs false
namespace Go.Proofs.Ytpjcdacnhalclaa.Q
open Go.RowKit Go.Proofs.YtpjcdacnhalclaaW.PrintWords Go.Proofs.YtpjcdacnhalclaaW.PrintLast Go.Proofs.YtpjcdacnhalclaaW.PrintMore
attribute [local go_sem] max2_int min2_int max_two min_two max_three min_three max_four min_four
mutual
def v_CompareRows.l0 : Nat → List (S24) → List (S24) → Int → Option (Int)
 | 0, _, _, _ => none
 | k + 1, x0, x1, x5 => if x5 < (x0.length : Int) then (v_CompareRows.j1 k x0 x1 x5 (decide (x5 < (x1.length : Int)))) else (v_CompareRows.j1 k x0 x1 x5 false)
def v_CompareRows.j1 : Nat → List (S24) → List (S24) → Int → Bool → Option (Int)
 | 0, _, _, _, _ => none
 | k + 1, x0, x1, x5, x16 => if x16 = true then (if 0 ≤ x5 then (if x5 < (x0.length : Int) then (if x5 < (x1.length : Int) then ((v_Compare.f ((rd_T24 x0 x5).f0) ((rd_T24 x0 x5).f1) ((rd_T24 x0 x5).f2) ((rd_T24 x1 x5).f0) ((rd_T24 x1 x5).f1) ((rd_T24 x1 x5).f2)).bind fun t155 => (if t155 = 0 then (v_CompareRows.l0 k x0 x1 (wrap64 (x5 + 1))) else (some t155))) else (none)) else (none)) else (none)) else (if (x0.length : Int) < (x1.length : Int) then (some (-1)) else (if (x0.length : Int) > (x1.length : Int) then (some 1) else (some 0)))
end
def v_CompareRows.f (k : Nat) (l0 : List (S24)) (l1 : List (S24)) : Option (Int) := v_CompareRows.l0 k l0 l1 0
structure Hdr (w : World) where
 A : Option Addr
 c : Nat
 xs : List S24
 rd : Kd.C k24 w A xs.length xs
 le : xs.length ≤ c
def Hdr.enc {w : World} (h : Hdr w) : Value := .slice h.A h.xs.length h.c
instance (w : World) : Inhabited (Hdr w) := ⟨⟨none, 0, [], Kd.C_nil _ _, Nat.le_refl _⟩⟩
def kH (w : World) : Kd (Hdr w) := Kd.scalar Hdr.enc (fun _ => rfl)
theorem getElem?_one {α : Type} (v : α) (i : Nat) (u : α) (h : [v][i]? = some u) : i = 0 ∧ u = v := by
 cases i with
 | zero => simp at h; exact ⟨rfl, h.symm⟩
 | succ i => simp at h
theorem hdrs_of_C {w : World} {A : Option Addr} {n : Nat} {l : List (List S24)} (h : Kd.C (Kd.slice 24 k24) w A n l) : ∃ d : List (Hdr w), d.map Hdr.xs = l ∧ d.length = l.length ∧ Kd.C (kH w) w A n d := by
 obtain ⟨hl, hm, hr⟩ := h
 by_cases h0 : 0 < n
 ·obtain ⟨ad, rfl, hc⟩ := hr h0
  have hx : ∀ j : Nat, ∀ hj : j < l.length, ∃ x : Hdr w, x.xs = l[j] ∧ w.cell? (ad.add j) = some x.enc := by
   intro j hj
   obtain ⟨c, hcl, ⟨A1, c1, rfl, hle, hrd⟩, hcell⟩ := hc j l[j] (List.getElem?_eq_getElem hj)
   have := hcell 0 _ rfl
   have e : j * (Kd.slice 24 k24).sz + 0 = j := by show j * 1 + 0 = j; omega
   rw [e] at this
   exact ⟨⟨A1, c1, l[j], hrd, hle⟩, rfl, this⟩
  refine ⟨(List.finRange l.length).map (fun j => (hx j.1 j.2).choose), ?_, by simp, ?_, hm, fun _ => ⟨ad, rfl, ?_⟩⟩
  ·apply List.ext_getElem
   ·simp
   ·intro i h1 h2
    simp only [List.getElem_map, List.getElem_finRange]
    exact (hx i (by simpa using h2)).choose_spec.1
  ·simp [hl]
  ·intro j p hj
   obtain ⟨hj1, rfl⟩ := List.getElem?_eq_some_iff.1 hj
   refine ⟨[_], rfl, rfl, fun i u hu => ?_⟩
   obtain ⟨rfl, rfl⟩ := getElem?_one _ _ _ hu
   simp only [List.getElem_map, List.getElem_finRange]
   have := (hx j (by simpa using hj1)).choose_spec.2
   have e : j * (kH w).sz + 0 = j := by show j * 1 + 0 = j; omega
   rw [e]
   exact this
 ·have : l = [] := List.eq_nil_of_length_eq_zero (by omega)
  subst this
  exact ⟨[], rfl, rfl, by simpa using hl, hm, fun h => absurd h h0⟩
theorem hdr_cell {w W : World} {ad : Addr} {n : Nat} {d : List (Hdr w)} (h : Kd.C (kH w) W (some ad) n d) (j : Nat) (hj : j < d.length) : W.cell? (ad.add j) = some (d[j]).enc := by
 obtain ⟨hl, hm, hr⟩ := h
 obtain ⟨ad', he, hc⟩ := hr (by omega)
 injection he with he
 subst he
 obtain ⟨c, hcl, hk, hcell⟩ := hc j _ (List.getElem?_eq_getElem hj)
 cases hk
 have := hcell 0 _ rfl
 have e : j * (kH w).sz + 0 = j := by show j * 1 + 0 = j; omega
 rwa [e] at this
theorem BG.grow {w W : World} (h : BG w.heap.size w W) : ∃ q os, W = Go.Sort.grow (w.drewN q) os := by
 refine ⟨W.drawn - w.drawn, W.heap.extract w.heap.size W.heap.size, ?_⟩
 have hd := h.drawn
 have hh : W.heap = w.heap ++ W.heap.extract w.heap.size W.heap.size := by
  apply Array.ext_getElem?
  intro k
  rcases Nat.lt_or_ge k w.heap.size with hk | hk
  ·rw [Array.getElem?_append_left hk, h.block k hk]
  ·rw [Array.getElem?_append_right hk]
   rcases Nat.lt_or_ge k W.heap.size with hk2 | hk2
   ·rw [Array.getElem?_eq_getElem hk2, Array.getElem?_eq_getElem (by simp; omega)]
    simp only [Array.getElem_extract]
    congr 2
    omega
   ·rw [Array.getElem?_eq_none hk2, Array.getElem?_eq_none (by simp; omega)]
 have ho := h.os
 have ht := h.tape
 have hp := h.output
 obtain ⟨heap, tape, drawn, os, output⟩ := W
 obtain ⟨heap', tape', drawn', os', output'⟩ := w
 simp only at hd hh ho ht hp
 subst ho ht hp
 show _ = (⟨heap' ++ _, _, drawn' + _, _, _⟩ : World)
 congr 1
 show drawn = drawn' + (drawn - drawn')
 omega
def cmpV (x y : S24) : Int := (v_Compare.f x.f0 x.f1 x.f2 y.f0 y.f1 y.f2).getD 0
def cmpL : List S24 → List S24 → Int
 | [], [] => 0
 | [], _ :: _ => -1
 | _ :: _, [] => 1
 | x :: xs, y :: ys => if cmpV x y = 0 then cmpL xs ys else cmpV x y
theorem v_Compare.some_ (x y : S24) : v_Compare.f x.f0 x.f1 x.f2 y.f0 y.f1 y.f2 = some (cmpV x y) := by
 unfold cmpV
 unfold v_Compare.f
 repeat' split
 all_goals rfl
theorem wrap64_succ {i : Nat} (h : i < 9223372036854775807) : wrap64 ((i : Int) + 1) = ((i + 1 : Nat) : Int) := by unfold wrap64; omega
theorem rd_T24_nat (x : List S24) (i : Nat) (h : i < x.length) : rd_T24 x (i : Int) = x[i] := by
 unfold rd_T24
 rw [Int.toNat_natCast, List.getD_eq_getElem?_getD, List.getElem?_eq_getElem h]
 rfl
theorem v_CompareRows.at_ (x y : List S24) (hx : x.length ≤ 9223372036854775807) : ∀ (m i k : Nat), x.length - i = m → i ≤ x.length → i ≤ y.length → 2 * m + 2 ≤ k → v_CompareRows.l0 k x y i = some (cmpL (x.drop i) (y.drop i)) := by
 intro m
 induction m with
 | zero =>
  intro i k hm hi hj hk
  obtain ⟨k, rfl⟩ : ∃ j, k = j + 2 := ⟨k - 2, by omega⟩
  have hd : x.drop i = [] := List.drop_eq_nil_of_le (by omega)
  simp only [v_CompareRows.l0]
  rw [if_neg (by omega)]
  simp only [v_CompareRows.j1]
  rw [if_neg (by decide), hd]
  by_cases h1 : (x.length : Int) < y.length
  ·rw [if_pos h1, List.drop_eq_getElem_cons (by omega)]
   rfl
  ·rw [if_neg h1, if_neg (by omega), List.drop_eq_nil_of_le (by omega)]
   rfl
 | succ m ih =>
  intro i k hm hi hj hk
  obtain ⟨k, rfl⟩ : ∃ j, k = j + 2 := ⟨k - 2, by omega⟩
  have hlt : i < x.length := by omega
  simp only [v_CompareRows.l0]
  rw [if_pos (by omega)]
  simp only [v_CompareRows.j1]
  by_cases h1 : i < y.length
  ·rw [if_pos (by simpa using h1), if_pos (by omega), if_pos (by omega), if_pos (by omega), rd_T24_nat x i hlt, rd_T24_nat y i h1, v_Compare.some_, Option.bind_some, wrap64_succ (by omega), List.drop_eq_getElem_cons hlt, List.drop_eq_getElem_cons h1]
   by_cases hc : cmpV x[i] y[i] = 0
   ·rw [if_pos hc, ih (i + 1) k (by omega) (by omega) (by omega) (by omega)]
    show _ = some (if _ then _ else _)
    rw [if_pos hc]
   ·rw [if_neg hc]
    show _ = some (if _ then _ else _)
    rw [if_neg hc]
  ·rw [if_neg (by simpa using h1), if_neg (by omega), if_pos (by omega), List.drop_eq_getElem_cons hlt, show y.drop i = [] from List.drop_eq_nil_of_le (by omega)]
   rfl
theorem v_CompareRows.some_ (x y : List S24) (hx : x.length ≤ 9223372036854775807) (k : Nat) (hk : 2 * x.length + 2 ≤ k) : v_CompareRows.f k x y = some (cmpL x y) := by
 have := v_CompareRows.at_ x y hx x.length 0 k rfl (Nat.zero_le _) (Nat.zero_le _) hk
 exact this
def ltV (x y : S24) : Prop := x.f0 < y.f0 ∨ (x.f0 = y.f0 ∧ (x.f1 < y.f1 ∨ (x.f1 = y.f1 ∧ x.f2.toList < y.f2.toList)))
theorem S24.ext_ {x y : S24} (h0 : x.f0 = y.f0) (h1 : x.f1 = y.f1) (h2 : x.f2.toList = y.f2.toList) : x = y := by
 obtain ⟨a, b, c⟩ := x
 obtain ⟨a', b', c'⟩ := y
 simp only at h0 h1 h2
 subst h0 h1
 have : c = c' := by
  rw [Go.Lib.toList_data, Go.Lib.toList_data] at h2
  cases c
  cases c'
  congr 1
  exact Array.toList_inj.1 h2
 rw [this]
theorem ltV_irrefl (x : S24) : ¬ ltV x x := by
 rintro (h | ⟨_, h | ⟨_, h⟩⟩)
 ·omega
 ·omega
 ·exact List.lt_irrefl _ h
theorem ltV_trans {x y z : S24} (h : ltV x y) (k : ltV y z) : ltV x z := by
 rcases h with h | ⟨e, h | ⟨e', h⟩⟩
 ·rcases k with k | ⟨f, _⟩
  ·exact .inl (by omega)
  ·exact .inl (by omega)
 ·rcases k with k | ⟨f, k | ⟨f', k⟩⟩
  ·exact .inl (by omega)
  ·exact .inr ⟨by omega, .inl (by omega)⟩
  ·exact .inr ⟨by omega, .inl (by omega)⟩
 ·rcases k with k | ⟨f, k | ⟨f', k⟩⟩
  ·exact .inl (by omega)
  ·exact .inr ⟨by omega, .inl (by omega)⟩
  ·exact .inr ⟨by omega, .inr ⟨by omega, List.lt_trans h k⟩⟩
theorem ltV_asymm {x y : S24} (h : ltV x y) (k : ltV y x) : False := ltV_irrefl _ (ltV_trans h k)
theorem ltV_tri (x y : S24) : ltV x y ∨ x = y ∨ ltV y x := by
 by_cases a : x.f0 < y.f0
 ·exact .inl (.inl a)
 by_cases b : y.f0 < x.f0
 ·exact .inr (.inr (.inl b))
 have e : x.f0 = y.f0 := by omega
 by_cases c : x.f1 < y.f1
 ·exact .inl (.inr ⟨e, .inl c⟩)
 by_cases d : y.f1 < x.f1
 ·exact .inr (.inr (.inr ⟨e.symm, .inl d⟩))
 have f : x.f1 = y.f1 := by omega
 by_cases g : x.f2.toList < y.f2.toList
 ·exact .inl (.inr ⟨e, .inr ⟨f, g⟩⟩)
 by_cases i : y.f2.toList < x.f2.toList
 ·exact .inr (.inr (.inr ⟨e.symm, .inr ⟨f.symm, i⟩⟩))
 ·exact .inr (.inl (S24.ext_ e f (List.le_antisymm (List.not_lt.1 i) (List.not_lt.1 g))))
theorem v_Compare.lt_ {x y : S24} (h : ltV x y) : cmpV x y = -1 := by
 have hne : (x.f0 == y.f0 && (x.f1 == y.f1 && (x.f2.toList == y.f2.toList))) = false := by
  rw [Bool.eq_false_iff]
  intro hh
  simp only [Bool.and_eq_true, beq_iff_eq] at hh
  exact ltV_irrefl x (by have := S24.ext_ hh.1 hh.2.1 hh.2.2; rwa [← this] at h)
 unfold cmpV v_Compare.f
 rw [if_neg (by rw [hne]; decide)]
 rcases h with h | ⟨e, h | ⟨e', h⟩⟩
 ·rw [if_neg (by omega), if_pos h]; rfl
 ·rw [if_pos e, if_neg (by omega), if_pos h]; rfl
 ·rw [if_pos e, if_pos e', if_pos (by rw [bytesLess_eq]; exact decide_eq_true h)]; rfl
theorem v_Compare.gt_ {x y : S24} (h : ltV y x) : cmpV x y = 1 := by
 have hne : (x.f0 == y.f0 && (x.f1 == y.f1 && (x.f2.toList == y.f2.toList))) = false := by
  rw [Bool.eq_false_iff]
  intro hh
  simp only [Bool.and_eq_true, beq_iff_eq] at hh
  exact ltV_irrefl x (by have := S24.ext_ hh.1 hh.2.1 hh.2.2; rwa [← this] at h)
 unfold cmpV v_Compare.f
 rw [if_neg (by rw [hne]; decide)]
 rcases h with h | ⟨e, h | ⟨e', h⟩⟩
 ·rw [if_neg (by omega), if_neg (by omega)]; rfl
 ·rw [if_pos e.symm, if_neg (by omega), if_neg (by omega)]; rfl
 ·rw [if_pos e.symm, if_pos e'.symm, if_neg (by rw [bytesLess_eq]; exact fun k => List.lt_asymm h (of_decide_eq_true k))]; rfl
theorem v_Compare.eq_ (x : S24) : cmpV x x = 0 := by
 unfold cmpV v_Compare.f
 rw [if_pos (by simp)]; rfl
theorem cmpV_cases (x y : S24) : (ltV x y ∧ cmpV x y = -1) ∨ (x = y ∧ cmpV x y = 0) ∨ (ltV y x ∧ cmpV x y = 1) := by
 rcases ltV_tri x y with h | rfl | h
 ·exact .inl ⟨h, v_Compare.lt_ h⟩
 ·exact .inr (.inl ⟨rfl, v_Compare.eq_ x⟩)
 ·exact .inr (.inr ⟨h, v_Compare.gt_ h⟩)
theorem cmpV_zero {x y : S24} : cmpV x y = 0 ↔ x = y := by
 constructor
 ·intro h
  rcases cmpV_cases x y with ⟨_, k⟩ | ⟨k, _⟩ | ⟨_, k⟩
  ·omega
  ·exact k
  ·omega
 ·rintro rfl; exact v_Compare.eq_ x
theorem cmpV_lt {x y : S24} : cmpV x y < 0 ↔ ltV x y := by
 constructor
 ·intro h
  rcases cmpV_cases x y with ⟨k, _⟩ | ⟨_, k⟩ | ⟨_, k⟩
  ·exact k
  ·omega
  ·omega
 ·intro h; rw [v_Compare.lt_ h]; decide
theorem cmpV_neg (x y : S24) : cmpV x y = - cmpV y x := by
 rcases cmpV_cases x y with ⟨h, k⟩ | ⟨rfl, k⟩ | ⟨h, k⟩
 ·rw [k, v_Compare.gt_ h]
 ·rw [k]; rfl
 ·rw [k, v_Compare.lt_ h]; rfl
theorem cmpV_le_trans {x y z : S24} (h : cmpV x y ≤ 0) (k : cmpV y z ≤ 0) : cmpV x z ≤ 0 := by
 rcases cmpV_cases x y with ⟨a, _⟩ | ⟨rfl, _⟩ | ⟨_, a⟩
 ·rcases cmpV_cases y z with ⟨b, _⟩ | ⟨rfl, _⟩ | ⟨_, b⟩
  ·rw [v_Compare.lt_ (ltV_trans a b)]; decide
  ·exact h
  ·omega
 ·exact k
 ·omega
theorem cmpL_cases : ∀ x y : List S24, cmpL x y = -1 ∨ (cmpL x y = 0 ∧ x = y) ∨ cmpL x y = 1
 | [], [] => .inr (.inl ⟨rfl, rfl⟩)
 | [], _ :: _ => .inl rfl
 | _ :: _, [] => .inr (.inr rfl)
 | x :: xs, y :: ys => by
  simp only [cmpL]
  rcases cmpV_cases x y with ⟨_, k⟩ | ⟨rfl, k⟩ | ⟨_, k⟩
  ·rw [if_neg (by omega)]; exact .inl k
  ·rw [if_pos k]
   rcases cmpL_cases xs ys with h | ⟨h, rfl⟩ | h
   ·exact .inl h
   ·exact .inr (.inl ⟨h, rfl⟩)
   ·exact .inr (.inr h)
  ·rw [if_neg (by omega)]; exact .inr (.inr k)
theorem cmpL_self : ∀ x : List S24, cmpL x x = 0
 | [] => rfl
 | x :: xs => by simp only [cmpL]; rw [if_pos (v_Compare.eq_ x), cmpL_self xs]
theorem cmpL_zero {x y : List S24} : cmpL x y = 0 ↔ x = y := by
 constructor
 ·intro h
  rcases cmpL_cases x y with k | ⟨_, k⟩ | k
  ·omega
  ·exact k
  ·omega
 ·rintro rfl; exact cmpL_self x
theorem cmpL_neg : ∀ x y : List S24, cmpL x y = - cmpL y x
 | [], [] => rfl
 | [], _ :: _ => rfl
 | _ :: _, [] => rfl
 | x :: xs, y :: ys => by
  simp only [cmpL]
  have h := cmpV_neg x y
  by_cases k : cmpV x y = 0
  ·rw [if_pos k, if_pos (by omega), cmpL_neg xs ys]
  ·rw [if_neg k, if_neg (by omega), h]
theorem cmpL_le_trans : ∀ {x y z : List S24}, cmpL x y ≤ 0 → cmpL y z ≤ 0 → cmpL x z ≤ 0
 | [], _, [], _, _ => by decide
 | [], _, _ :: _, _, _ => by show (-1 : Int) ≤ 0; decide
 | _ :: _, [], _, h, _ => by exact absurd h (by show ¬ (1 : Int) ≤ 0; decide)
 | _ :: _, _ :: _, [], _, k => by exact absurd k (by show ¬ (1 : Int) ≤ 0; decide)
 | x :: xs, y :: ys, z :: zs, h, k => by
  simp only [cmpL] at h k ⊢
  rcases cmpV_cases x y with ⟨a, ka⟩ | ⟨rfl, ka⟩ | ⟨_, ka⟩
  ·rcases cmpV_cases y z with ⟨b, kb⟩ | ⟨rfl, kb⟩ | ⟨_, kb⟩
   ·rw [if_neg (by rw [v_Compare.lt_ (ltV_trans a b)]; decide), v_Compare.lt_ (ltV_trans a b)]; decide
   ·rw [if_neg (by omega)]; omega
   ·rw [if_neg (by omega)] at k; omega
  ·rw [if_pos ka] at h
   by_cases c : cmpV x z = 0
   ·rw [if_pos c] at k ⊢
    exact cmpL_le_trans h k
   ·rw [if_neg c] at k ⊢
    exact k
  ·rw [if_neg (by omega)] at h; omega
def leL (x y : List S24) : Bool := decide (cmpL x y ≤ 0)
theorem leL_trans (x y z : List S24) (h : leL x y = true) (k : leL y z = true) : leL x z = true := decide_eq_true (cmpL_le_trans (of_decide_eq_true h) (of_decide_eq_true k))
theorem leL_total (x y : List S24) : (leL x y || leL y x) = true := by
 unfold leL
 have := cmpL_neg x y
 rw [Bool.or_eq_true, decide_eq_true_iff, decide_eq_true_iff]
 omega
theorem leL_antisymm {x y : List S24} (h : leL x y = true) (k : leL y x = true) : x = y := by
 unfold leL at h k
 have := cmpL_neg x y
 have h := of_decide_eq_true h
 have k := of_decide_eq_true k
 exact cmpL_zero.1 (by omega)
def ded : Option (List S24) → List (List S24) → List (List S24)
 | _, [] => []
 | none, x :: xs => x :: ded (some x) xs
 | some p, x :: xs => if cmpL p x = 0 then ded (some x) xs else x :: ded (some x) xs
def setOf (l : List (List S24)) : List (List S24) := ded none (l.mergeSort leL)
def lastOf : Option (List S24) → List (List S24) → Option (List S24)
 | o, [] => o
 | _, x :: xs => lastOf (some x) xs
theorem ded_snoc (x : List S24) : ∀ (l : List (List S24)) (o : Option (List S24)), ded o (l ++ [x]) = ded o l ++ (match lastOf o l with | none => [x] | some p => if cmpL p x = 0 then [] else [x])
 | [], none => rfl
 | [], some p => by simp only [List.nil_append, ded, lastOf]
 | y :: ys, none => by simp only [List.cons_append, ded, lastOf, ded_snoc x ys]
 | y :: ys, some p => by
  simp only [List.cons_append, ded, lastOf, ded_snoc x ys]
  split
  ·rfl
  ·rfl
theorem lastOf_snoc (x : List S24) : ∀ (l : List (List S24)) (o : Option (List S24)), lastOf o (l ++ [x]) = some x
 | [], _ => rfl
 | _ :: ys, _ => lastOf_snoc x ys _
theorem sorted_is {l l' : List (List S24)} (hp : l'.Perm l) (hs : l'.Pairwise (fun a b => leL a b = true)) : l' = l.mergeSort leL :=
 (hp.trans (List.mergeSort_perm l leL).symm).eq_of_pairwise (fun _ _ _ _ h k => leL_antisymm h k) hs (List.pairwise_mergeSort leL_trans leL_total l)
def sortVals_ren : Go.Shelf.Ren := ⟨fun | 6 => 99 | 15 => 102 | 14 => 104 | 28 => 113 | 29 => 114 | 20 => 115 | 21 => 116 | 22 => 117 | 23 => 118 | 24 => 119 | 25 => 120 | 26 => 121 | 27 => 122 | 46 => 128 | 47 => 124 | 48 => 125 | 49 => 129 | 50 => 130 | 57 => 132 | n => n, fun | 22 => 31 | 24 => 24 | 25 => 32 | 3 => 3 | 39 => 97 | 0 => 0 | 53 => 108 | 55 => 110 | 4 => 4 | 46 => 101 | 45 => 100 | 50 => 105 | 5 => 5 | 9 => 9 | 66 => 116 | 70 => 120 | 76 => 124 | 77 => 125 | n => n, fun | n => n⟩
theorem sortVals : Go.Proofs.SlLaysF0.n6 Try.prog sortVals_ren := {
 mixed := by kernel_rfl
 f6 := ⟨Try.f99.name, by decide, Try.func99.trans (congrArg some (by kernel_rfl))⟩
 f14 := ⟨Try.f104.name, by decide, Try.func104.trans (congrArg some (by kernel_rfl))⟩
 f15 := Try.func102.trans (congrArg some (by kernel_rfl))
 f20 := ⟨Try.f115.name, by decide, Try.func115.trans (congrArg some (by kernel_rfl))⟩
 f21 := ⟨Try.f116.name, by decide, Try.func116.trans (congrArg some (by kernel_rfl))⟩
 f22 := ⟨Try.f117.name, by decide, Try.func117.trans (congrArg some (by kernel_rfl))⟩
 f23 := ⟨Try.f118.name, by decide, Try.func118.trans (congrArg some (by kernel_rfl))⟩
 f24 := ⟨Try.f119.name, by decide, Try.func119.trans (congrArg some (by kernel_rfl))⟩
 f25 := ⟨Try.f120.name, by decide, Try.func120.trans (congrArg some (by kernel_rfl))⟩
 f26 := ⟨Try.f121.name, by decide, Try.func121.trans (congrArg some (by kernel_rfl))⟩
 f27 := ⟨Try.f122.name, by decide, Try.func122.trans (congrArg some (by kernel_rfl))⟩
 f28 := Try.func113.trans (congrArg some (by kernel_rfl))
 f29 := Try.func114.trans (congrArg some (by kernel_rfl))
 f46 := ⟨Try.f128.name, by decide, Try.func128.trans (congrArg some (by kernel_rfl))⟩
 f47 := Try.func124.trans (congrArg some (by kernel_rfl))
 f48 := Try.func125.trans (congrArg some (by kernel_rfl))
 f49 := ⟨Try.f129.name, by decide, Try.func129.trans (congrArg some (by kernel_rfl))⟩
 f50 := ⟨Try.f130.name, by decide, Try.func130.trans (congrArg some (by kernel_rfl))⟩
 f57 := ⟨Try.f132.name, by decide, Try.func132.trans (congrArg some (by kernel_rfl))⟩
 t0 := Try.underlying0
 a0 := Try.isAgg0
 z0 := Try.sizeOf0
 v0 := Try.zeroValue0
 t3 := Try.underlying3
 a3 := Try.isAgg3
 z3 := Try.sizeOf3
 v3 := Try.zeroValue3
 t4 := Try.underlying4
 a4 := Try.isAgg4
 z4 := Try.sizeOf4
 v4 := Try.zeroValue4
 t5 := Try.underlying5
 a5 := Try.isAgg5
 z5 := Try.sizeOf5
 v5 := Try.zeroValue5
 t9 := Try.underlying9
 a9 := Try.isAgg9
 z9 := Try.sizeOf9
 v9 := Try.zeroValue9
 t22 := Try.underlying31
 a22 := Try.isAgg31
 z22 := Try.sizeOf31
 v22 := Try.zeroValue31
 t25 := Try.underlying32
 a25 := Try.isAgg32
 z25 := Try.sizeOf32
 v25 := Try.zeroValue32
 t39 := Try.underlying97
 a39 := Try.isAgg97
 z39 := Try.sizeOf97
 v39 := Try.zeroValue97
 t45 := Try.underlying100
 a45 := Try.isAgg100
 z45 := Try.sizeOf100
 v45 := Try.zeroValue100
 t46 := Try.underlying101
 a46 := Try.isAgg101
 z46 := Try.sizeOf101
 v46 := Try.zeroValue101
 t50 := Try.underlying105
 a50 := Try.isAgg105
 z50 := Try.sizeOf105
 v50 := Try.zeroValue105
 t53 := Try.underlying108
 a53 := Try.isAgg108
 z53 := Try.sizeOf108
 v53 := Try.zeroValue108
 t55 := Try.underlying110
 a55 := Try.isAgg110
 z55 := Try.sizeOf110
 v55 := Try.zeroValue110
 t66 := Try.underlying116
 a66 := Try.isAgg116
 z66 := Try.sizeOf116
 v66 := Try.zeroValue116
 t70 := Try.underlying120
 a70 := Try.isAgg120
 z70 := Try.sizeOf120
 v70 := Try.zeroValue120
 t76 := Try.underlying124
 a76 := Try.isAgg124
 z76 := Try.sizeOf124
 v76 := Try.zeroValue124
 t77 := Try.underlying125
 a77 := Try.isAgg125
 z77 := Try.sizeOf125
 v77 := Try.zeroValue125 }
end Go.Proofs.Ytpjcdacnhalclaa.Q
namespace Go.Proofs.Ytpjcdacnhalclaa.Q
open Go.RowKit Go.Proofs.YtpjcdacnhalclaaW.PrintWords Go.Proofs.YtpjcdacnhalclaaW.PrintLast Go.Proofs.YtpjcdacnhalclaaW.PrintMore
attribute [local go_sem] max2_int min2_int max_two min_two max_three min_three max_four min_four
open Go.Sort
def leV (x y : S24) : Bool := decide (cmpV x y ≤ 0)
theorem leV_trans (x y z : S24) (h : leV x y = true) (k : leV y z = true) : leV x z = true := decide_eq_true (cmpV_le_trans (of_decide_eq_true h) (of_decide_eq_true k))
theorem leV_total (x y : S24) : (leV x y || leV y x) = true := by
 have := cmpV_neg x y
 unfold leV
 by_cases h : cmpV x y ≤ 0
 rotate_left
 ·have : cmpV y x ≤ 0 := by omega
  simp [this]
 simp [h]
theorem leV_antisymm {x y : S24} (h : leV x y = true) (k : leV y x = true) : x = y := by
 have h := of_decide_eq_true h
 have k := of_decide_eq_true k
 have := cmpV_neg x y
 exact cmpV_zero.1 (by omega)
theorem sortedV_is {l l' : List S24} (hp : l'.Perm l) (hs : l'.Pairwise (fun a b => leV a b = true)) : l' = l.mergeSort leV :=
 List.Perm.eq_of_pairwise (le := fun a b => leV a b = true) (fun _ _ _ _ h k => leV_antisymm h k) hs (List.pairwise_mergeSort leV_trans leV_total l) (hp.trans (List.mergeSort_perm l leV).symm)
instance : Inhabited S24 := ⟨z24⟩
def enc24 (x : S24) : List Value := [.int .i64 x.f0, .int .i64 x.f1, .string x.f2]
theorem ltOf_cmpV (x y : S24) : ltOf cmpV x y = decide (cmpV x y < 0) := rfl
theorem swo_cmpV : Go.Sort.SWO (ltOf cmpV) where
 irrefl x := by rw [ltOf_cmpV, cmpV_zero.2 rfl]; rfl
 trans x y z h k := by
  rw [ltOf_cmpV] at *
  exact decide_eq_true (cmpV_lt.2 (ltV_trans (cmpV_lt.1 (of_decide_eq_true h)) (cmpV_lt.1 (of_decide_eq_true k))))
 ntrans x y z h k := by
  rw [ltOf_cmpV] at *
  have h := of_decide_eq_false h
  have k := of_decide_eq_false k
  have n1 := cmpV_neg x y
  have n2 := cmpV_neg y z
  have n3 := cmpV_neg x z
  have t := cmpV_le_trans (x := z) (y := y) (z := x) (by omega) (by omega)
  exact decide_eq_false (by omega)
theorem flat24 (l : List S24) : flatK enc24 3 l.toArray = (cells24 l).toArray := by
 refine ext_get! (by rw [size_flatK]; simp [cells24_length]) fun t ht => ?_
 have ht' : t < l.length * 3 := by rw [size_flatK] at ht; simpa using ht
 rw [get_flatK _ _ _ t (by simpa using ht')]
 have hq : t / 3 < l.length := by omega
 have h := cells24_at l (t / 3) hq
 have hl := cells24_length l
 rw [getElem!_pos l.toArray (t / 3) (by simpa using hq), List.getElem_toArray]
 rw [getElem!_pos (cells24 l).toArray t (by simp [hl]; omega), List.getElem_toArray]
 have h1 : (cells24 l)[t]? = (enc24 l[t / 3])[t % 3]? := by
  have := congrArg (fun z : List Value => z[t % 3]?) h
  simp only [List.getElem?_take, List.getElem?_drop] at this
  rw [if_pos (by omega), show t / 3 * 3 + t % 3 = t by omega] at this
  exact this
 have h3 : t % 3 < (enc24 l[t / 3]).length := by show t % 3 < 3; omega
 rw [getElem!_pos (enc24 l[t / 3]) (t % 3) h3]
 rw [List.getElem?_eq_getElem (by rw [hl]; omega), List.getElem?_eq_getElem h3] at h1
 exact (Option.some.inj h1).symm
theorem putCells_own (n : Nat) (cs : List Value) (cur : Array Value) (hn : cs.length ≤ cur.size) :
  (Go.Sort.putCells id 0 cs.toArray cur).size = cur.size ∧ (Go.Sort.putCells id 0 cs.toArray cur).toList.take cs.length = cs := by
 refine ⟨by simp [Go.Sort.putCells], ?_⟩
 apply List.ext_getElem?
 intro t
 rw [List.getElem?_take]
 by_cases ht : t < cs.length
 rotate_left
 ·rw [if_neg ht, List.getElem?_eq_none (by omega)]
 rw [if_pos ht]
 simp only [Go.Sort.putCells, Array.getElem?_toList, Array.getElem?_mapIdx]
 rw [Array.getElem?_eq_getElem (by omega)]
 simp [ht]
theorem own24 {W : World} {base g cap : Nat} {cur : Array Value} {l : List S24} {P : Nat → Prop} (hg : base ≤ g) (hW : W.heap[g]? = some (.cells cur 24 (0, 0))) (hl : l.length ≤ cap) (hm : cap ≤ maxLen) (hs : cur.size = cap * 3) (hc : cur.toList.take (l.length * 3) = cells24 l) (hP : P g) :
  Kd.R k24 24 W base P (.slice (some ⟨g, 0, none⟩) l.length cap) l := by
 have hfl := cells24_length l
 refine ⟨fun k hk => by simp only [Value.ownBlock, Option.some.injEq] at hk; subst hk; exact hP, cells24 l, ⟨hfl, .inr ⟨_, _, _, rfl, hg, hW, hl, hm, hs, hc⟩⟩, hfl, ?_⟩
 intro j p hj
 obtain ⟨hj', rfl⟩ := List.getElem?_eq_some_iff.1 hj
 show k24.M _ _ _ _ ((List.drop (j * 3) (cells24 l)).take 3)
 rw [cells24_at l j hj']
 exact k24_mkM _ _ _ _
theorem own24_open {W : World} {base : Nat} {P : Nat → Prop} {u : Value} {l : List S24} (h : Kd.R k24 24 W base P u l) (hne : l ≠ []) :
  ∃ g cap cur, u = .slice (some ⟨g, 0, none⟩) l.length cap ∧ base ≤ g ∧ W.heap[g]? = some (.cells cur 24 (0, 0)) ∧ l.length ≤ cap ∧ cap ≤ maxLen ∧ cur.size = cap * 3 ∧ cur.toList.take (l.length * 3) = cells24 l ∧ P g := by
 obtain ⟨h0, inner, ⟨hil, ho⟩, hr1, hr2⟩ := h
 rcases ho with ⟨_, hn⟩ | ⟨g, cap, cur, rfl, hg, hW, hlc, hm, hs, hc⟩
 ·exact absurd (List.eq_nil_of_length_eq_zero hn) hne
 ·refine ⟨g, cap, cur, rfl, hg, hW, hlc, hm, hs, ?_, h0 g rfl⟩
  have hc' : cur.toList.take (l.length * 3) = inner := hc
  rw [hc']
  have hil' : inner.length = l.length * 3 := hr1
  refine List.ext_getElem? fun t => ?_
  by_cases ht : t < l.length * 3
  rotate_left
  ·rw [List.getElem?_eq_none (by omega), List.getElem?_eq_none (by rw [cells24_length]; omega)]
  have hq : t / 3 < l.length := by omega
  have e1 := k24_openM (hr2 (t / 3) _ (List.getElem?_eq_getElem hq))
  have e2 := cells24_at l (t / 3) hq
  have e3 : (inner.drop (t / 3 * 3)).take 3 = ((cells24 l).drop (t / 3 * 3)).take 3 := by rw [e2]; exact e1
  have := congrArg (fun z : List Value => z[t % 3]?) e3
  simp only [List.getElem?_take, List.getElem?_drop] at this
  rwa [if_pos (by omega), if_pos (by omega), show t / 3 * 3 + t % 3 = t by omega] at this
theorem heap_sortK {α : Type} [Inhabited α] (enc : α → List Value) (k : Nat) (W : World) (g m : Nat) (d : Array α) (os : Array Obj) (hg : g < W.heap.size) :
  W.heap.size ≤ (sortWorldK enc k W g 0 m d os).heap.size ∧ (∀ i, i < W.heap.size → i ≠ g → (sortWorldK enc k W g 0 m d os).heap[i]? = W.heap[i]?) ∧
   ∀ cur, W.heap[g]? = some (.cells cur 24 (0, 0)) → (sortWorldK enc k W g 0 m d os).heap[g]? = some (.cells (Go.Sort.putCells id 0 (flatK enc k d) cur) 24 (0, 0)) := by
 refine ⟨?_, fun i hi hne => ?_, fun cur hc => ?_⟩
 ·show W.heap.size ≤ ((Go.Sort.putRow id (Go.Sort.ahead W m) g 0 (flatK enc k d)).heap ++ os).size
  simp only [Go.Sort.putRow, Go.Sort.mapBlock, Go.Sort.ahead, Array.size_append, Array.size_modify]
  omega
 ·show ((Go.Sort.putRow id (Go.Sort.ahead W m) g 0 (flatK enc k d)).heap ++ os)[i]? = _
  rw [Array.getElem?_append_left (by simp only [Go.Sort.putRow, Go.Sort.mapBlock, Go.Sort.ahead, Array.size_modify]; omega)]
  simp only [Go.Sort.putRow, Go.Sort.mapBlock, Go.Sort.ahead, Array.getElem?_modify]
  rw [if_neg (by omega)]
 ·show ((Go.Sort.putRow id (Go.Sort.ahead W m) g 0 (flatK enc k d)).heap ++ os)[g]? = _
  rw [Array.getElem?_append_left (by simp only [Go.Sort.putRow, Go.Sort.mapBlock, Go.Sort.ahead, Array.size_modify]; omega)]
  simp only [Go.Sort.putRow, Go.Sort.mapBlock, Go.Sort.ahead, Array.getElem?_modify]
  rw [if_pos trivial, hc]
  rfl
theorem perm_of_permIn' {α : Type} [Inhabited α] {d d' : Array α} (h : Go.Sort.PermIn 0 d.size d d') : d'.toList.Perm d.toList := by
 obtain ⟨hs, _, hp⟩ := h
 have e1 : d.extract 0 d.size = d := by simp
 have e2 : d'.extract 0 d.size = d' := by rw [← hs]; simp
 rw [e1, e2] at hp
 exact hp
theorem below_but {w0 w w' : World} (hB : Below w0.heap.size w0 w) {g : Nat} (hg : w0.heap.size ≤ g) (hs : w.heap.size ≤ w'.heap.size) (hk : ∀ i, i < w.heap.size → i ≠ g → w'.heap[i]? = w.heap[i]?) (h1 : w'.os = w.os) (h2 : w'.tape = w.tape) (h3 : w'.output = w.output) : Below w0.heap.size w0 w' := by
 have h0 := hB.size
 exact ⟨h1.trans hB.os, h2.trans hB.tape, h3.trans hB.output, by omega, fun k hk' => (hk k (by omega) (by omega)).trans (hB.block k hk')⟩
def a_99.f (l0 : List S24) : Option (List S24) := if l0 = [] then none else if l0.length < 4611686018427387904 then some (l0.mergeSort leV) else none
theorem a_99.calls (P0_ : Nat → Prop) (u9000_ : Value) (l0 : List (S24)) (r : List (S24)) (w0 w : World) (hB : Below w0.heap.size w0 w) (ho0 : Kd.R k24 24 w w0.heap.size P0_ u9000_ l0) (h : a_99.f l0 = some r) :
  Calls Try.prog 99 #[u9000_, .func (.func 25) #[] #[]] w fun e w' => e = .returned (.tuple #[]) ∧ Kd.R k24 24 w' w0.heap.size (fun k_ => (P0_ k_ ∨ w.heap.size ≤ k_)) u9000_ r ∧ Below w0.heap.size w0 w' ∧ Kept w w' (fun k_ => P0_ k_) := by
 unfold a_99.f at h
 by_cases hne : l0 = []
 ·rw [if_pos hne] at h; exact absurd h (by simp)
 rw [if_neg hne] at h
 by_cases hsz : l0.length < 4611686018427387904
 rotate_left
 ·rw [if_neg hsz] at h; exact absurd h (by simp)
 rw [if_pos hsz] at h
 obtain rfl := Option.some.inj h
 obtain ⟨g, cap, cur, rfl, hg, hW, hlc, hm, hs, hc, hP⟩ := own24_open ho0 hne
 have hlt := blk_lt hW
 have hcl : (cells24 l0).length = l0.length * 3 := cells24_length l0
 have eg : ∀ args w, (callFunc 25 args).run Try.prog w = .ok (.enter 25 args) w := enters_of Try.func25 (by kernel_rfl) rfl
 have hH : HoldsK enc24 3 w g 0 l0.toArray := by
  intro j hj
  rw [flat24] at hj ⊢
  have hj' : j < l0.length * 3 := by rw [← hcl]; simpa using hj
  refine ⟨?_, blk_frozen hW _⟩
  rw [blk_cell hW, Nat.zero_add]
  have h1 : cur.toList[j]? = (cells24 l0)[j]? := by rw [← hc, List.getElem?_take, if_pos hj']
  rw [← Array.getElem?_toList, h1, List.getElem?_eq_getElem (by omega)]
  simp [hj', hcl]
 have hcmp : CmpLays Try.prog 25 #[] enc24 3 cmpV g 0 l0.toArray.size w := by
  intro m os dk _ x y
  exact (v_Compare.callsG x.f0 x.f1 x.f2 y.f0 y.f1 y.f2 _ _ (v_Compare.some_ x y)).mono fun e w' ⟨he, hG⟩ => ⟨he, hG.grow⟩
 have hcon := AnyQ.slices_SortFunc sortVals 3 Try.isAgg24 Try.sizeOf24 enc24 (fun _ => rfl) (fun x v hv => by simp [enc24] at hv; rcases hv with rfl | rfl | rfl <;> rfl) cmpV swo_cmpV 25 #[] g 0 cap l0.toArray w eg hcmp hH hlt (by simpa using hsz)
 change Calls Try.prog 99 _ _ _ at hcon
 rw [show l0.toArray.size = l0.length by simp] at hcon
 refine hcon.mono ?_
 rintro e w' ⟨he, d', m, os, hp, hsd, rfl⟩
 have hpp := perm_of_permIn' (d := l0.toArray) (by simpa using hp)
 have hsz' : d'.size = l0.length := by have := hpp.length_eq; simpa using this
 have hsort : d'.toList = l0.mergeSort leV := by
  refine sortedV_is (by simpa using hpp) ?_
  rw [List.pairwise_iff_getElem]
  intro i j hi hj hij
  have h := hsd i j (Nat.zero_le _) hij (by simp at hj; omega)
  have hi' : i < d'.size := by simpa using hi
  have hj' : j < d'.size := by simpa using hj
  rw [ltOf_cmpV] at h
  have h := of_decide_eq_false h
  rw [getElem!_pos d' i hi', getElem!_pos d' j hj'] at h
  have n := cmpV_neg (d'[i]) (d'[j])
  simp only [Array.getElem_toList]
  exact decide_eq_true (by omega)
 obtain ⟨k1, k2, k3⟩ := heap_sortK enc24 3 w g m d' os hlt
 have k3 := k3 cur hW
 have hfd : flatK enc24 3 d' = (cells24 (l0.mergeSort leV)).toArray := by rw [← hsort, ← flat24]
 rw [hfd] at k3
 have hlen : (l0.mergeSort leV).length = l0.length := List.length_mergeSort l0
 have hcl2 : (cells24 (l0.mergeSort leV)).length = l0.length * 3 := by rw [cells24_length, hlen]
 obtain ⟨q1, q2⟩ := putCells_own l0.length (cells24 (l0.mergeSort leV)) cur (by rw [hcl2, hs]; exact Nat.mul_le_mul_right _ hlc)
 refine ⟨he, ?_, below_but hB hg k1 k2 rfl rfl rfl, k1, fun i hi hn => k2 i hi (fun e => hn (e ▸ hP))⟩
 have := own24 (l := l0.mergeSort leV) (P := fun k_ => P0_ k_ ∨ w.heap.size ≤ k_) (cap := cap) hg k3 (by rw [hlen]; exact hlc) hm (by rw [q1]; exact hs) (by rw [hlen, ← hcl2]; exact q2) (.inl hP)
 rwa [hlen] at this
end Go.Proofs.Ytpjcdacnhalclaa.Q
namespace Go.Proofs.Ytpjcdacnhalclaa.Q
open Go.RowKit Go.Proofs.YtpjcdacnhalclaaW.PrintWords Go.Proofs.YtpjcdacnhalclaaW.PrintLast Go.Proofs.YtpjcdacnhalclaaW.PrintMore
attribute [local go_sem] max2_int min2_int max_two min_two max_three min_three max_four min_four
open Go.Sort Go.Lib Go.Shelf
attribute [local go_sem high] eqA24
instance : DecidableEq S24 := fun x y => decidable_of_iff (cmpV x y = 0) cmpV_zero
theorem eqV3 {x y : S24} (h : x ≠ y) : (x.f0 == y.f0 && (x.f1 == y.f1 && (x.f2.toList == y.f2.toList))) = false := by
 rw [Bool.eq_false_iff]
 intro hh
 simp only [Bool.and_eq_true, beq_iff_eq] at hh
 exact h (S24.ext_ hh.1 hh.2.1 hh.2.2)
theorem setMany_set (d : Array S24) (i : Nat) (x : S24) (hi : i < d.size) : setMany (flatK enc24 3 d) (i * 3) (enc24 x) = flatK enc24 3 (d.setIfInBounds i x) := by
 refine ext_get! (by simp) fun t ht => ?_
 have ht' : t < d.size * 3 := by simpa using ht
 rw [get_setMany _ _ _ t (by simpa using ht'), get_flatK _ _ _ t ht', get_flatK _ _ _ t (by simpa using ht')]
 have hl : (enc24 x).length = 3 := rfl
 rw [hl]
 by_cases a : t / 3 = i
 rotate_left
 ·rw [if_neg (fun h => a ((blk_iff 3 i t (by omega)).1 h)), getElem!_set_other d i (t / 3) x a]
 rw [if_pos ((blk_iff 3 i t (by omega)).2 a), a, getElem!_set_same d i x hi]
 rw [show t - i * 3 = t % 3 by omega]
theorem store24 {w wr : World} {q g : Nat} {dk : Array S24} (i : Nat) (x : S24) (hi : i < dk.size) (hwr : wr = putRowK enc24 3 (Sort.ahead w q) g 0 dk) :
  ((wr.setCell ⟨g, i * 3, none⟩ (.int .i64 x.f0)).setCell ⟨g, i * 3 + 1, none⟩ (.int .i64 x.f1)).setCell ⟨g, i * 3 + 2, none⟩ (.string x.f2) = putRowK enc24 3 (Sort.ahead w q) g 0 (dk.setIfInBounds i x) := by
 subst hwr
 have h := setCells_putRow (Sort.ahead w q) g 0 (enc24 x) (i * 3) (flatK enc24 3 dk) (by rw [size_flatK]; show i * 3 + 3 ≤ _; omega)
 rw [setMany_set dk i x hi, Nat.zero_add] at h
 exact h
theorem cells_at {W : World} {g : Nat} {d : Array S24} (h : HoldsK enc24 3 W g 0 d) (i : Nat) (hi : i < d.size) :
  W.cell? ⟨g, i * 3, none⟩ = some (.int .i64 d[i]!.f0) ∧ W.cell? ⟨g, i * 3 + 1, none⟩ = some (.int .i64 d[i]!.f1) ∧ W.cell? ⟨g, i * 3 + 2, none⟩ = some (.string d[i]!.f2) ∧
   W.frozen? ⟨g, i * 3, none⟩ = false ∧ W.frozen? ⟨g, i * 3 + 1, none⟩ = false ∧ W.frozen? ⟨g, i * 3 + 2, none⟩ = false := by
 have h0 := h.cell (i := i) (c := 0) hi (by omega)
 have h1 := h.cell (i := i) (c := 1) hi (by omega)
 have h2 := h.cell (i := i) (c := 2) hi (by omega)
 rw [Nat.zero_add] at h0 h1 h2
 exact ⟨h0.1, h1.1, h2.1, h0.2, h1.2, h2.2⟩
theorem run_clear24 (w : World) (ty : TypeId) (b o n c : Nat) (hn : 0 < n) (hc : ∀ j, j < n * 3 → (w.cell? ⟨b, o + j, none⟩).isSome = true) (hf : ∀ j, j < n * 3 → w.frozen? ⟨b, o + j, none⟩ = false) :
  ∃ cs : List Value, cs.length = n * 3 ∧ (Builtin.clear_ #[31] ty #[.slice (some ⟨b, o, none⟩) n c]).run Try.prog w = .ok (.tuple #[]) (w.setCells b o cs) := by
 have hv : ∀ w, (zeroValue 24).run Try.prog w = .ok (.agg #[.int .i64 0, .int .i64 0, .string ⟨#[]⟩]) w := Try.zeroValue24
 obtain ⟨cs, hcs⟩ : ∃ cs, cs = (Builtin.zeroCells (Value.agg #[.int .i64 0, .int .i64 0, .string ⟨#[]⟩]).cells n).toList := ⟨_, rfl⟩
 have hl : cs.length = n * 3 := by rw [hcs]; simp [Builtin.zeroCells, Value.cells]
 have h1 : ∀ v ∈ cs, v.oneCell' = true := by
  intro v hv'
  rw [hcs] at hv'
  simp only [Builtin.zeroCells, Value.cells] at hv'
  simp at hv'
  obtain ⟨i, hi, rfl⟩ := hv'
  have h3 : i % 3 = 0 ∨ i % 3 = 1 ∨ i % 3 = 2 := by omega
  rcases h3 with h3 | h3 | h3 <;> simp [h3, Value.oneCell']
 have hst := run_storeCells_cells (P := Try.prog) b o cs 0 w (by rw [hl]; simpa using hc) (by rw [hl]; simpa using hf) h1
 simp only [Nat.add_zero] at hst
 obtain ⟨m, rfl⟩ : ∃ m, n = m + 1 := ⟨n - 1, by omega⟩
 refine ⟨cs, hl, ?_⟩
 simp [Builtin.clear_, run_underlying Try.underlying31, hv, ← hcs, hst]
theorem heap_putRow (W : World) (g : Nat) (F : Array Value) :
  (putRow id W g 0 F).heap.size = W.heap.size ∧ (∀ i, i ≠ g → (putRow id W g 0 F).heap[i]? = W.heap[i]?) ∧
   ∀ cur, W.heap[g]? = some (.cells cur 24 (0, 0)) → (putRow id W g 0 F).heap[g]? = some (.cells (putCells id 0 F cur) 24 (0, 0)) := by
 refine ⟨by simp [putRow, mapBlock], fun i hne => ?_, fun cur hc => ?_⟩
 ·simp only [putRow, mapBlock, Array.getElem?_modify]
  rw [if_neg (by omega)]
 ·simp only [putRow, mapBlock, Array.getElem?_modify]
  rw [if_pos trivial, hc]
  rfl
def dedV (l : List S24) : List S24 := compactUpTo l.toArray l.length
def a_100.f (l0 : List S24) : Option (List S24) := if l0.length < 4611686018427387904 then some (dedV l0) else none
set_option maxHeartbeats 8000000 in
set_option maxRecDepth 100000 in
theorem a_100.calls (P0_ : Nat → Prop) (u9000_ : Value) (l0 : List (S24)) (r : List (S24)) (w0 w : World) (hB : Below w0.heap.size w0 w) (ho0 : Kd.R k24 24 w w0.heap.size P0_ u9000_ l0) (h : a_100.f l0 = some r) :
  Calls Try.prog 100 #[u9000_] w fun e w' => ∃ v0_ : Value, e = .returned (v0_) ∧ Kd.R k24 24 w' w0.heap.size (fun k_ => (P0_ k_ ∨ w.heap.size ≤ k_)) v0_ r ∧ Below w0.heap.size w0 w' ∧ Kept w w' (fun k_ => P0_ k_) := by
 unfold a_100.f at h
 by_cases hsz : l0.length < 4611686018427387904
 rotate_left
 ·rw [if_neg hsz] at h; exact absurd h (by simp)
 rw [if_pos hsz] at h
 obtain rfl := Option.some.inj h
 have same : ∀ (W : World), W.heap = w.heap → W.os = w.os → W.tape = w.tape → W.output = w.output → dedV l0 = l0 → Kd.R k24 24 W w0.heap.size (fun k_ => (P0_ k_ ∨ w.heap.size ≤ k_)) u9000_ (dedV l0) ∧ Below w0.heap.size w0 W ∧ Kept w W (fun k_ => P0_ k_) := by
  intro W e1 e2 e3 e4 e5
  rw [e5]
  refine ⟨Kd.R_move (Kd.R_mono ho0 (fun _ hk => .inl hk)) (fun k _ => by rw [e1]), below_but hB (g := w0.heap.size) (Nat.le_refl _) (by rw [e1]; exact Nat.le_refl _) (fun i _ _ => by rw [e1]) e2 e3 e4, by rw [e1]; exact Nat.le_refl _, fun i _ _ => by rw [e1]⟩
 have HS := Aside0.mk same
 by_cases h2 : l0.length < 2
 rotate_left
 ·have hne : l0 ≠ [] := by rintro rfl; simp at h2
  obtain ⟨g, cap, cur, rfl, hg, hW, hlc, hm, hs, hc, hP⟩ := own24_open ho0 hne
  obtain ⟨d, hd⟩ : ∃ d, d = l0.toArray := ⟨_, rfl⟩
  have hds : d.size = l0.length := by rw [hd]; simp
  have hH : HoldsK enc24 3 w g 0 d := by
   intro j hj
   rw [hd, flat24] at hj ⊢
   have hcl : (cells24 l0).length = l0.length * 3 := cells24_length l0
   have hj' : j < l0.length * 3 := by rw [← hcl]; simpa using hj
   refine ⟨?_, blk_frozen hW _⟩
   rw [blk_cell hW, Nat.zero_add]
   have h1 : cur.toList[j]? = (cells24 l0)[j]? := by rw [← hc, List.getElem?_take, if_pos hj']
   rw [← Array.getElem?_toList, h1, List.getElem?_eq_getElem (by omega)]
   simp [hj', hcl]
  have hfin : ∀ (q kk : Nat) (dk : Array S24) (F : Array Value), CompInv d d.size kk dk → F.size = d.size * 3 → (∀ t, t < kk * 3 → F[t]! = (flatK enc24 3 dk)[t]!) →
    Kd.R k24 24 (putRow id (Sort.ahead w q) g 0 F) w0.heap.size (fun k_ => (P0_ k_ ∨ w.heap.size ≤ k_)) (.slice (some ⟨g, 0, none⟩) kk cap) (dedV l0) ∧ Below w0.heap.size w0 (putRow id (Sort.ahead w q) g 0 F) ∧ Kept w (putRow id (Sort.ahead w q) g 0 F) (fun k_ => P0_ k_) := by
   intro q kk dk F hI hF hFk
   obtain ⟨k1, k2, k3⟩ := heap_putRow (Sort.ahead w q) g F
   have k3 := k3 cur hW
   have hlen : (dedV l0).length = kk := by unfold dedV; rw [← hd, ← hds]; exact hI.len
   have hlt := hI.lt
   obtain ⟨q1, q2⟩ := putCells_own l0.length F.toList cur (by simp only [Array.length_toList]; rw [hF, hds, hs]; exact Nat.mul_le_mul_right _ hlc)
   rw [Array.toArray_toList] at q1 q2
   refine ⟨?_, below_but hB hg (Nat.le_of_eq k1.symm) (fun i _ hne => k2 i hne) rfl rfl rfl, Nat.le_of_eq k1.symm, fun i _ hn => k2 i (fun e => hn (e ▸ hP))⟩
   have hfl : F.toList.take (kk * 3) = cells24 (dedV l0) := by
    refine List.ext_getElem? fun t => ?_
    rw [List.getElem?_take]
    by_cases ht : t < kk * 3
    rotate_left
    ·rw [if_neg ht, List.getElem?_eq_none (by rw [cells24_length, hlen]; omega)]
    have hds' := hI.size
    rw [if_pos ht, Array.getElem?_toList, Array.getElem?_eq_getElem (by rw [hF]; omega)]
    have e1 := hFk t ht
    rw [getElem!_pos F t (by rw [hF]; omega), get_flatK _ _ _ t (by omega)] at e1
    have e2 := hI.low (t / 3) (by omega)
    have e3 : (dedV l0)[t / 3]? = some dk[t / 3]! := by unfold dedV; rw [← hd, ← hds]; exact e2
    obtain ⟨hq, e4⟩ := List.getElem?_eq_some_iff.1 e3
    have e5 := cells24_at (dedV l0) (t / 3) hq
    rw [e4] at e5
    have := congrArg (fun z : List Value => z[t % 3]?) e5
    simp only [List.getElem?_take, List.getElem?_drop] at this
    rw [if_pos (by omega), show t / 3 * 3 + t % 3 = t by omega] at this
    rw [this, e1]
    have h3 : t % 3 < (enc24 dk[t / 3]!).length := by show t % 3 < 3; omega
    rw [getElem!_pos (enc24 dk[t / 3]!) (t % 3) h3]
    exact (List.getElem?_eq_getElem h3).symm
   have := own24 (l := dedV l0) (P := fun k_ => P0_ k_ ∨ w.heap.size ≤ k_) (cap := cap) hg k3 (by rw [hlen]; omega) hm (by rw [q1]; exact hs) (by
    rw [hlen]
    have e := congrArg (List.take (kk * 3)) q2
    rw [List.take_take, Nat.min_eq_left (by simp only [Array.length_toList]; rw [hF]; omega)] at e
    rw [e, hfl]) (.inl hP)
   rwa [hlen] at this
  have HFIN := Aside0.mk hfin
  have HH := Aside0.mk hH
  have HDS := Aside0.mk hds
  have HD : Aside0 ((∀ j, j < d.size → keeps d j = true) → dedV l0 = l0) := aK (by
   intro hall
   unfold dedV
   rw [← hd, ← hds, compactUpTo_all d _ hall, range_map_get, hd])
  obtain ⟨n, hn⟩ : ∃ n, n = l0.length := ⟨_, rfl⟩
  have HN : Aside0 (d.size = n) := aK (by rw [hn]; exact hds)
  have hcapn : n ≤ cap := by rw [hn]; exact hlc
  have hcm := hm
  clear hfin hH hds hd hc hs hW ho0 hB same hg hP hm hlc hne
  rw [← hn] at hsz h2 ⊢ HS
  clear hn
  have mixed := sortVals.mixed
  go_enter Try.func100, Try.ntmps100
  go_wp2
  go_loopg [3] n (fun gk s3 wr => ∃ k q : Nat, 1 ≤ k ∧ k ≤ n ∧ n - k ≤ gk ∧ s3 = .int .i64 k ∧ wr = w.drewN q ∧ Aside0 (∀ j, j < k → keeps d j = true))
  case atStart => exact ⟨1, 0, Nat.le_refl _, by omega, by omega, rfl, rfl, ⟨keeps_lt_one d⟩⟩
  case round =>
   obtain ⟨k, q, hk1, hk, hgk, rfl, rfl, A⟩ := hrel
   by_cases hlt : k < n
   rotate_left
   ·have hkn : k = n := by omega
    have HDE := aK (HD.out (fun j hj => A.out j (by have := HN.out; omega)))
    subst hkn
    clear hlt
    go_wp2
    go_ret
    exact ⟨_, rfl, HS.out _ rfl rfl rfl rfl HDE.out⟩
   obtain ⟨c10, c11, c12, f10, f11, f12⟩ := cells_at HH.out k (by have := HN.out; omega)
   obtain ⟨c00, c01, c02, f00, f01, f02⟩ := cells_at HH.out (k - 1) (by have := HN.out; omega)
   generalize hx : d[k]! = x at c10 c11 c12
   generalize hy : d[k - 1]! = y at c00 c01 c02
   have B : Aside0 (d[k]! = x ∧ d[k - 1]! = y) := ⟨⟨hx, hy⟩⟩
   clear hx hy
   by_cases hdup : x = y
   rotate_left
   ·have hne3 := eqV3 hdup
    have HUV := Aside0.mk hdup
    clear hdup
    go_wp2_with fail
    go_region_o
    go_wp2
    go_roundg (n - (k + 1))
    case measure => omega
    case rel =>
     refine ⟨k + 1, q + 1, by omega, by omega, Nat.le_refl _, by go_num, rfl, ⟨fun j hj => ?_⟩⟩
     by_cases e : j = k
     rotate_left
     ·exact A.out j (by omega)
     subst e
     exact keeps_pos (by rw [B.out.1, B.out.2]; exact HUV.out)
   subst hdup
   go_wp2_with fail
   go_region_o
   go_wp2
   clear c00 c01 c02 c10 c11 c12 f00 f01 f02 f10 f11 f12
   have hst0 : CompInv d (k + 1) k d := CompInv.start A.out (keeps_neg (by omega) (by rw [B.out.1, B.out.2]))
   have HST := Aside0.mk hst0
   clear hst0
   go_loopg [3, 5] n (fun gk s3 s5 wr => ∃ (kk k2 q2 : Nat) (dk : Array S24), s3 = .int .i64 kk ∧ s5 = .int .i64 k2 ∧ 1 ≤ k2 ∧ k + k2 ≤ n ∧ n - (k + k2) ≤ gk ∧ wr = putRowK enc24 3 (Sort.ahead w q2) g 0 dk ∧ Aside0 (CompInv d (k + k2) kk dk) ∧ kk < k + k2)
   case atStart => exact ⟨k, 1, q + 1, d, rfl, rfl, Nat.le_refl _, by omega, by omega, (putRowK_self enc24 3 (Sort.ahead w (q + 1)) g 0 d (holdsK_ahead enc24 3 w (q + 1) g 0 d HH.out)).symm, HST, by omega⟩
   case round =>
    obtain ⟨kk, k2, q2, dk, rfl, rfl, h1, hle, hg2, hwr, I2, hkk⟩ := hrel
    have hHk : HoldsK enc24 3 wr g 0 dk := by rw [hwr]; exact holdsK_putRowK enc24 3 _ g 0 d dk (holdsK_ahead enc24 3 w q2 g 0 d HH.out) I2.out.size
    have W2 := Aside0.mk hwr
    have hdk : dk.size = n := I2.out.size.trans HN.out
    have HDK := Aside0.mk hdk
    clear hwr
    by_cases hlt2 : k + k2 < n
    rotate_left
    ·have hend : k + k2 = n := by omega
     obtain ⟨cs, hcl, hclr⟩ := run_clear24 wr 0 g (kk * 3) (n - kk) (cap - kk) (by omega) (fun j hj => by
       have h := cells_at hHk (kk + j / 3) (by omega)
       have h3 : j % 3 = 0 ∨ j % 3 = 1 ∨ j % 3 = 2 := by omega
       rcases h3 with h3 | h3 | h3
       ·rw [show kk * 3 + j = (kk + j / 3) * 3 by omega, h.1]; rfl
       ·rw [show kk * 3 + j = (kk + j / 3) * 3 + 1 by omega, h.2.1]; rfl
       ·rw [show kk * 3 + j = (kk + j / 3) * 3 + 2 by omega, h.2.2.1]; rfl) (fun j hj => by
       have h := cells_at hHk (kk + j / 3) (by omega)
       have h3 : j % 3 = 0 ∨ j % 3 = 1 ∨ j % 3 = 2 := by omega
       rcases h3 with h3 | h3 | h3
       ·rw [show kk * 3 + j = (kk + j / 3) * 3 by omega]; exact h.2.2.2.1
       ·rw [show kk * 3 + j = (kk + j / 3) * 3 + 1 by omega]; exact h.2.2.2.2.1
       ·rw [show kk * 3 + j = (kk + j / 3) * 3 + 2 by omega]; exact h.2.2.2.2.2)
     have HCS := Aside0.mk hcl
     clear hHk hcl hdk hlt2
     go_wp2
     go_ret
     refine ⟨_, rfl, ?_⟩
     have hsc := setCells_putRow (Sort.ahead w q2) g 0 cs (kk * 3) (flatK enc24 3 dk) (by have h1_ := HCS.out; have h2_ := HDK.out; rw [size_flatK]; omega)
     rw [Nat.zero_add] at hsc
     have hw : wr = putRow id (Sort.ahead w q2) g 0 (flatK enc24 3 dk) := W2.out
     rw [← hw] at hsc
     rw [hsc]
     have hI := I2.out
     rw [show k + k2 = d.size by have := HN.out; omega] at hI
     refine HFIN.out q2 kk dk _ hI (by rw [size_setMany, size_flatK, hI.size]) (fun t ht => ?_)
     have hI1 := HDK.out
     have hI2 := HCS.out
     rw [get_setMany _ _ _ t (by rw [size_flatK]; omega), if_neg (by omega)]
    obtain ⟨m0, m1, m2, _, _, _⟩ := cells_at hHk (k + k2) (by omega)
    obtain ⟨p0, p1, p2, _, _, _⟩ := cells_at hHk (k + k2 - 1) (by omega)
    obtain ⟨o0, o1, o2, of0, of1, of2⟩ := cells_at hHk kk (by omega)
    rw [I2.out.high (k + k2) (by omega), show (k + k2) * 3 = k * 3 + k2 * 3 by omega] at m0 m1 m2
    rw [I2.out.high (k + k2 - 1) (by omega), show (k + k2 - 1) * 3 = k * 3 + (k2 - 1) * 3 by omega] at p0 p1 p2
    clear hHk hdk
    generalize hu : d[k + k2]! = u at m0 m1 m2
    generalize hv : d[k + k2 - 1]! = v at p0 p1 p2
    generalize dk[kk]! = old at o0 o1 o2
    have C : Aside0 (d[k + k2]! = u ∧ d[k + k2 - 1]! = v) := ⟨⟨hu, hv⟩⟩
    clear hu hv
    by_cases huv : u = v
    rotate_left
    ·have hne3 := eqV3 huv
     have HUV := Aside0.mk huv
     clear huv
     go_wp2_with fail
     go_region_o
     go_wp2
     go_roundg (n - (k + (k2 + 1)))
     case measure => omega
     case rel =>
      refine ⟨kk + 1, k2 + 1, q2 + 1, dk.setIfInBounds kk u, by go_num, by go_num, by omega, by omega, Nat.le_refl _, ?_, ⟨?_⟩, by omega⟩
      ·have e := congrArg World.drew (store24 kk u (by have := HDK.out; omega) W2.out)
       exact e
      ·have e := I2.out.keep (by have := HN.out; omega) (keeps_pos (by rw [C.out.1, C.out.2]; exact HUV.out))
       rwa [C.out.1] at e
    subst huv
    go_wp2_with fail
    go_region_o
    go_wp2
    go_roundg (n - (k + (k2 + 1)))
    case measure => omega
    case rel => exact ⟨kk, k2 + 1, q2 + 1, dk, rfl, by go_num, by omega, by omega, Nat.le_refl _, by rw [W2.out]; rfl, ⟨I2.out.skip (keeps_neg (by omega) (by rw [C.out.1, C.out.2]))⟩, by omega⟩
 have hd : dedV l0 = l0 := by
  unfold dedV
  rw [compactUpTo_all _ _ (fun j hj => keeps_lt_one _ j (by omega))]
  have := range_map_get l0.toArray
  simpa using this
 obtain ⟨A, c, rfl⟩ := Kd.R_slice ho0
 have HD := Aside0.mk hd
 clear ho0 hB same hd
 go_enter Try.func100, Try.ntmps100
 go_wp2
 go_ret
 exact ⟨_, rfl, HS.out _ rfl rfl rfl rfl HD.out⟩
end Go.Proofs.Ytpjcdacnhalclaa.Q
