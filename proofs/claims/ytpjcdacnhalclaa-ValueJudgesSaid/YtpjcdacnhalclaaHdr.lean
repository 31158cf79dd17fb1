/- Function Hdr of the translation: what its call computes. -/
import Derived.Test.YtpjcdacnhalclaaK0
import Derived.Test.YtpjcdacnhalclaaF25
import Derived.Test.YtpjcdacnhalclaaF52
import Derived.Shelf.SlSortCmp.Whole1
namespace Go.Proofs.Ytpjcdacnhalclaa.Q
open Go.RowKit Go.Proofs.YtpjcdacnhalclaaW.PrintWords Go.Proofs.YtpjcdacnhalclaaW.PrintLast Go.Proofs.YtpjcdacnhalclaaW.PrintMore
attribute [local go_sem] max2_int min2_int max_two min_two max_three min_three max_four min_four
set_option linter.unusedVariables false
set_option linter.unusedSimpArgs false
/-! ### rows' headers: a row that came in, by its address -/
/-- A header of a row of values that reads in the world w. -/
structure Hdr (w : World) where
  A : Option Addr
  c : Nat
  xs : List S24
  rd : Kd.C k24 w A xs.length xs
  le : xs.length ≤ c
def Hdr.enc {w : World} (h : Hdr w) : Value := .slice h.A h.xs.length h.c
instance (w : World) : Inhabited (Hdr w) := ⟨⟨none, 0, [], Kd.C_nil _ _, Nat.le_refl _⟩⟩
def kH (w : World) : Kd (Hdr w) := Kd.scalar Hdr.enc (fun _ => rfl)
theorem getElem?_one {α : Type} (v : α) (i : Nat) (u : α) (h : [v][i]? = some u) : i = 0 ∧ u = v := by
  cases i with
  | zero => simp at h; exact ⟨rfl, h.symm⟩
  | succ i => simp at h
/-- A row of rows that is read, as a row of headers. -/
theorem hdrs_of_C {w : World} {A : Option Addr} {n : Nat} {l : List (List S24)} (h : Kd.C (Kd.slice 24 k24) w A n l) : ∃ d : List (Hdr w), d.map Hdr.xs = l ∧ d.length = l.length ∧ Kd.C (kH w) w A n d := by
  obtain ⟨hl, hm, hr⟩ := h
  by_cases h0 : 0 < n
  · obtain ⟨ad, rfl, hc⟩ := hr h0
    have hx : ∀ j : Nat, ∀ hj : j < l.length, ∃ x : Hdr w, x.xs = l[j] ∧ w.cell? (ad.add j) = some x.enc := by
      intro j hj
      obtain ⟨c, hcl, ⟨A1, c1, rfl, hle, hrd⟩, hcell⟩ := hc j l[j] (List.getElem?_eq_getElem hj)
      have := hcell 0 _ rfl
      have e : j * (Kd.slice 24 k24).sz + 0 = j := by show j * 1 + 0 = j; omega
      rw [e] at this
      exact ⟨⟨A1, c1, l[j], hrd, hle⟩, rfl, this⟩
    refine ⟨(List.finRange l.length).map (fun j => (hx j.1 j.2).choose), ?_, by simp, ?_, hm, fun _ => ⟨ad, rfl, ?_⟩⟩
    · apply List.ext_getElem
      · simp
      · intro i h1 h2
        simp only [List.getElem_map, List.getElem_finRange]
        exact (hx i (by simpa using h2)).choose_spec.1
    · simp [hl]
    · intro j p hj
      obtain ⟨hj1, rfl⟩ := List.getElem?_eq_some_iff.1 hj
      refine ⟨[_], rfl, rfl, fun i u hu => ?_⟩
      obtain ⟨rfl, rfl⟩ := getElem?_one _ _ _ hu
      simp only [List.getElem_map, List.getElem_finRange]
      have := (hx j (by simpa using hj1)).choose_spec.2
      have e : j * (kH w).sz + 0 = j := by show j * 1 + 0 = j; omega
      rw [e]
      exact this
  · have : l = [] := List.eq_nil_of_length_eq_zero (by omega)
    subst this
    exact ⟨[], rfl, rfl, by simpa using hl, hm, fun h => absurd h h0⟩
/-- And back, in a later world. -/
theorem C_of_hdrs {w W : World} {A : Option Addr} {n : Nat} {d : List (Hdr w)} (hb : Below w.heap.size w W) (h : Kd.C (kH w) W A n d) : Kd.C (Kd.slice 24 k24) W A n (d.map Hdr.xs) := by
  obtain ⟨hl, hm, hr⟩ := h
  refine ⟨by simpa using hl, hm, fun h0 => ?_⟩
  obtain ⟨ad, rfl, hc⟩ := hr h0
  refine ⟨ad, rfl, fun j p hj => ?_⟩
  rw [List.getElem?_map] at hj
  obtain ⟨x, hx, rfl⟩ := Option.map_eq_some_iff.1 hj
  obtain ⟨c, hcl, hk, hcell⟩ := hc j x hx
  cases hk
  exact ⟨[x.enc], rfl, ⟨x.A, x.c, rfl, x.le, Kd.C_below x.rd hb⟩, hcell⟩
/-- A header's cell, of a row of headers that is read. -/
theorem hdr_cell {w W : World} {ad : Addr} {n : Nat} {d : List (Hdr w)} (h : Kd.C (kH w) W (some ad) n d) (j : Nat) (hj : j < d.length) : W.cell? (ad.add j) = some (d[j]).enc := by
  obtain ⟨hl, hm, hr⟩ := h
  obtain ⟨ad', he, hc⟩ := hr (by omega)
  injection he with he
  subst he
  obtain ⟨c, hcl, hk, hcell⟩ := hc j _ (List.getElem?_eq_getElem hj)
  cases hk
  have := hcell 0 _ rfl
  have e : j * (kH w).sz + 0 = j := by show j * 1 + 0 = j; omega
  rwa [e] at this
/-! ### what the library's sort asks of the comparison -/
theorem BG.grow {w W : World} (h : BG w.heap.size w W) : ∃ q os, W = Go.Sort.grow (w.drewN q) os := by
  refine ⟨W.drawn - w.drawn, W.heap.extract w.heap.size W.heap.size, ?_⟩
  have hd := h.drawn
  have hh : W.heap = w.heap ++ W.heap.extract w.heap.size W.heap.size := by
    apply Array.ext_getElem?
    intro k
    rcases Nat.lt_or_ge k w.heap.size with hk | hk
    · rw [Array.getElem?_append_left hk, h.block k hk]
    · rw [Array.getElem?_append_right hk]
      rcases Nat.lt_or_ge k W.heap.size with hk2 | hk2
      · rw [Array.getElem?_eq_getElem hk2, Array.getElem?_eq_getElem (by simp; omega)]
        simp only [Array.getElem_extract]
        congr 2
        omega
      · rw [Array.getElem?_eq_none hk2, Array.getElem?_eq_none (by simp; omega)]
  have ho := h.os
  have ht := h.tape
  have hp := h.output
  obtain ⟨heap, tape, drawn, os, output⟩ := W
  obtain ⟨heap', tape', drawn', os', output'⟩ := w
  simp only at hd hh ho ht hp
  subst ho ht hp
  show _ = (⟨heap' ++ _, _, drawn' + _, _, _⟩ : World)
  congr 1
  show drawn = drawn' + (drawn - drawn')
  omega
/-- The rows' comparison, as a number. -/
def cmpV (x y : S24) : Int := (value_Compare.f x.f0 x.f1 x.f2 y.f0 y.f1 y.f2).getD 0
def cmpL : List S24 → List S24 → Int
  | [], [] => 0
  | [], _ :: _ => -1
  | _ :: _, [] => 1
  | x :: xs, y :: ys => if cmpV x y = 0 then cmpL xs ys else cmpV x y
theorem value_Compare.some_ (x y : S24) : value_Compare.f x.f0 x.f1 x.f2 y.f0 y.f1 y.f2 = some (cmpV x y) := by
  unfold cmpV
  unfold value_Compare.f
  repeat' split
  all_goals rfl
theorem wrap64_succ {i : Nat} (h : i < 9223372036854775807) : wrap64 ((i : Int) + 1) = ((i + 1 : Nat) : Int) := by unfold wrap64; omega
theorem rd_T24_nat (x : List S24) (i : Nat) (h : i < x.length) : rd_T24 x (i : Int) = x[i] := by
  unfold rd_T24
  rw [Int.toNat_natCast, List.getD_eq_getElem?_getD, List.getElem?_eq_getElem h]
  rfl
theorem value_CompareRows.at_ (x y : List S24) (hx : x.length ≤ 9223372036854775807) : ∀ (m i k : Nat), x.length - i = m → i ≤ x.length → i ≤ y.length → 2 * m + 2 ≤ k → value_CompareRows.l0 k x y i = some (cmpL (x.drop i) (y.drop i)) := by
  intro m
  induction m with
  | zero =>
    intro i k hm hi hj hk
    obtain ⟨k, rfl⟩ : ∃ j, k = j + 2 := ⟨k - 2, by omega⟩
    have hd : x.drop i = [] := List.drop_eq_nil_of_le (by omega)
    simp only [value_CompareRows.l0]
    rw [if_neg (by omega)]
    simp only [value_CompareRows.j1]
    rw [if_neg (by decide), hd]
    by_cases h1 : (x.length : Int) < y.length
    · rw [if_pos h1, List.drop_eq_getElem_cons (by omega)]
      rfl
    · rw [if_neg h1, if_neg (by omega), List.drop_eq_nil_of_le (by omega)]
      rfl
  | succ m ih =>
    intro i k hm hi hj hk
    obtain ⟨k, rfl⟩ : ∃ j, k = j + 2 := ⟨k - 2, by omega⟩
    have hlt : i < x.length := by omega
    simp only [value_CompareRows.l0]
    rw [if_pos (by omega)]
    simp only [value_CompareRows.j1]
    by_cases h1 : i < y.length
    · rw [if_pos (by simpa using h1), if_pos (by omega), if_pos (by omega), if_pos (by omega), rd_T24_nat x i hlt, rd_T24_nat y i h1, value_Compare.some_, Option.bind_some, wrap64_succ (by omega), List.drop_eq_getElem_cons hlt, List.drop_eq_getElem_cons h1]
      by_cases hc : cmpV x[i] y[i] = 0
      · rw [if_pos hc, ih (i + 1) k (by omega) (by omega) (by omega) (by omega)]
        show _ = some (if _ then _ else _)
        rw [if_pos hc]
      · rw [if_neg hc]
        show _ = some (if _ then _ else _)
        rw [if_neg hc]
    · rw [if_neg (by simpa using h1), if_neg (by omega), if_pos (by omega), List.drop_eq_getElem_cons hlt, show y.drop i = [] from List.drop_eq_nil_of_le (by omega)]
      rfl
theorem value_CompareRows.some_ (x y : List S24) (hx : x.length ≤ 9223372036854775807) (k : Nat) (hk : 2 * x.length + 2 ≤ k) : value_CompareRows.f k x y = some (cmpL x y) := by
  have := value_CompareRows.at_ x y hx x.length 0 k rfl (Nat.zero_le _) (Nat.zero_le _) hk
  exact this
/-- The rows' comparison in whatever later world. -/
theorem cmp_hdrs {w W : World} (hb : Below w.heap.size w W) (x y : Hdr w) : Calls Try.prog 52 #[x.enc, y.enc] W fun e w' => e = .returned (.int .i64 (cmpL x.xs y.xs)) ∧ BG W.heap.size W w' :=
  value_CompareRows.callsG (2 * x.xs.length + 2) x.A x.c x.xs y.A y.c y.xs _ W (Kd.C_below x.rd hb) x.le (Kd.C_below y.rd hb) y.le (value_CompareRows.some_ x.xs y.xs (Kd.C_max x.rd) _ (Nat.le_refl _))
end Go.Proofs.Ytpjcdacnhalclaa.Q
