/- A part of a proof: facts of functions that the law calls; conditions stand in each. -/
import Derived.Test.YtpjcdacnhalclaaM14x3
import Derived.Test.YtpjcdacnhalclaaM14x5
import Derived.Test.YtpjcdacnhalclaaM14x11
import Derived.Test.YtpjcdacnhalclaaM14x12
import Derived.Test.YtpjcdacnhalclaaM14x22
import Derived.Test.YtpjcdacnhalclaaM14x21
set_option linter.unusedVariables false
set_option linter.unusedSimpArgs false
namespace Go.Proofs.Ytpjcdacnhalclaa.Q
open Go.RowKit Go.Proofs.YtpjcdacnhalclaaW.PrintWords Go.Proofs.YtpjcdacnhalclaaW.PrintLast Go.Proofs.YtpjcdacnhalclaaW.PrintMore
attribute [local go_sem] max2_int min2_int max_two min_two max_three min_three max_four min_four
def enc65 (x : S65) : List Value := [.int .i64 x.f0.f0, .int .i64 x.f0.f1, .string x.f0.f2, .int .i64 x.f1.f0, .int .i64 x.f1.f1, .string x.f1.f2, .bool x.f2]
def cells65 (l : List S65) : List Value := l.flatMap enc65
theorem cells65_length (l : List S65) : (cells65 l).length = l.length * 7 := by
 induction l with
 | nil => rfl
 | cons a l ih => simp only [cells65, List.flatMap_cons, List.length_append, List.length_cons] at ih ⊢; rw [ih]; simp [enc65]; omega
theorem cells65_at : ∀ (l : List S65) (q : Nat) (hq : q < l.length), ((cells65 l).drop (q * 7)).take 7 = enc65 l[q]
 | [], _, hq => by simp at hq
 | a :: l, 0, _ => by simp [cells65, enc65]
 | a :: l, q + 1, hq => by
  have := cells65_at l q (by simpa using hq)
  simp only [cells65, List.flatMap_cons, List.getElem_cons_succ] at this ⊢
  rw [show (q + 1) * 7 = 7 + q * 7 from by omega, ← List.drop_drop]
  exact this
theorem cells65_set : ∀ (l : List S65) (q j : Nat) (u : Value) (x' : S65) (hq : q < l.length) (_ : (enc65 l[q]).set j u = enc65 x') (_ : j < 7), (cells65 l).set (q * 7 + j) u = cells65 (l.set q x')
 | [], _, _, _, _, hq, _, _ => by simp at hq
 | a :: l, 0, j, u, x', _, h, hj => by
  simp only [cells65, List.flatMap_cons, List.set_cons_zero, Nat.zero_mul, Nat.zero_add, List.getElem_cons_zero] at h ⊢
  rw [List.set_append_left _ _ (by show j < 7; exact hj), h]
 | a :: l, q + 1, j, u, x', hq, h, hj => by
  have := cells65_set l q j u x' (by simpa using hq) (by simpa using h) hj
  simp only [cells65, List.flatMap_cons, List.set_cons_succ] at this ⊢
  rw [List.set_append_right _ _ (by show 7 ≤ _; omega), ← this]
  congr 1
  show List.set _ ((q + 1) * 7 + j - 7) u = _
  rw [show (q + 1) * 7 + j - 7 = q * 7 + j from by omega]
def Own65 (W : World) (base g cap : Nat) (l : List S65) : Prop := ∃ cur : Array Value, base ≤ g ∧ W.heap[g]? = some (.cells cur 65 (0, 0)) ∧ l.length ≤ cap ∧ cap ≤ maxLen ∧ cur.size = cap * 7 ∧ cur.toList.take (l.length * 7) = cells65 l
theorem own65_open {W : World} {base : Nat} {P : Nat → Prop} {u : Value} {l : List S65} (h : Kd.R k65 65 W base P u l) (hne : l ≠ []) :
  ∃ g cap, u = .slice (some ⟨g, 0, none⟩) l.length cap ∧ base ≤ g ∧ Own65 W base g cap l := by
 obtain ⟨h0, inner, ⟨hil, ho⟩, hr1, hr2⟩ := h
 rcases ho with ⟨_, hn⟩ | ⟨g, cap, cur, rfl, hg, hW, hlc, hm, hs, hc⟩
 ·exact absurd (List.eq_nil_of_length_eq_zero hn) hne
 ·refine ⟨g, cap, rfl, hg, cur, hg, hW, hlc, hm, hs, ?_⟩
  have hc' : cur.toList.take (l.length * 7) = inner := hc
  rw [hc']
  have hil' : inner.length = l.length * 7 := hr1
  refine List.ext_getElem? fun t => ?_
  by_cases ht : t < l.length * 7
  ·have hq : t / 7 < l.length := by omega
   have e1 := k65_openM (hr2 (t / 7) _ (List.getElem?_eq_getElem hq))
   have e2 := cells65_at l (t / 7) hq
   have e3 : (inner.drop (t / 7 * 7)).take 7 = ((cells65 l).drop (t / 7 * 7)).take 7 := by rw [e2]; exact e1
   have := congrArg (fun z : List Value => z[t % 7]?) e3
   simp only [List.getElem?_take, List.getElem?_drop] at this
   rwa [if_pos (by omega), if_pos (by omega), show t / 7 * 7 + t % 7 = t by omega] at this
  ·rw [List.getElem?_eq_none (by omega), List.getElem?_eq_none (by rw [cells65_length]; omega)]
theorem Own65.row {W : World} {base g cap : Nat} {l : List S65} (h : Own65 W base g cap l) : Kd.R k65 65 W base (fun _ => True) (.slice (some ⟨g, 0, none⟩) l.length cap) l := by
 obtain ⟨cur, hg, hW, hlc, hm, hs, hc⟩ := h
 have hfl := cells65_length l
 refine ⟨fun k hk => trivial, cells65 l, ⟨hfl, .inr ⟨_, _, _, rfl, hg, hW, hlc, hm, hs, hc⟩⟩, hfl, ?_⟩
 intro j p hj
 obtain ⟨hj', rfl⟩ := List.getElem?_eq_some_iff.1 hj
 show k65.M _ _ _ _ ((List.drop (j * 7) (cells65 l)).take 7)
 rw [cells65_at l j hj']
 exact k65_mkM _ _ _ _
theorem Own65.keep {W W1 : World} {base g cap : Nat} {l : List S65} (h : Own65 W base g cap l) {gs : Nat} (hk : KeepBut W W1 gs none) (hne : g ≠ gs) : Own65 W1 base g cap l := by
 obtain ⟨cur, hg, hW, hr⟩ := h
 exact ⟨cur, hg, hk.blk hW hne (by simp), hr⟩
theorem Own65.lt {W : World} {base g cap : Nat} {l : List S65} (h : Own65 W base g cap l) : g < W.heap.size := by
 obtain ⟨cur, hg, hW, hr⟩ := h
 exact blk_lt hW
theorem Own65.at_ {W : World} {base g cap : Nat} {l : List S65} (h : Own65 W base g cap l) (q : Nat) (x : S65) (hq : l[q]? = some x) :
  W.cell? ⟨g, q * 7, none⟩ = some (.int .i64 x.f0.f0) ∧ W.cell? ⟨g, q * 7 + 1, none⟩ = some (.int .i64 x.f0.f1) ∧ W.cell? ⟨g, q * 7 + 2, none⟩ = some (.string x.f0.f2) ∧ W.cell? ⟨g, q * 7 + 3, none⟩ = some (.int .i64 x.f1.f0) ∧ W.cell? ⟨g, q * 7 + 4, none⟩ = some (.int .i64 x.f1.f1) ∧ W.cell? ⟨g, q * 7 + 5, none⟩ = some (.string x.f1.f2) ∧ W.cell? ⟨g, q * 7 + 6, none⟩ = some (.bool x.f2) ∧
   W.frozen? ⟨g, q * 7, none⟩ = false ∧ W.frozen? ⟨g, q * 7 + 1, none⟩ = false ∧ W.frozen? ⟨g, q * 7 + 2, none⟩ = false ∧ W.frozen? ⟨g, q * 7 + 3, none⟩ = false ∧ W.frozen? ⟨g, q * 7 + 4, none⟩ = false ∧ W.frozen? ⟨g, q * 7 + 5, none⟩ = false ∧ W.frozen? ⟨g, q * 7 + 6, none⟩ = false := by
 obtain ⟨cur, hg, hW, hlc, hm, hs, hc⟩ := h
 obtain ⟨hq', rfl⟩ := List.getElem?_eq_some_iff.1 hq
 have e := cells65_at l q hq'
 rw [← hc] at e
 have hx : ∀ j (hj : j < 7), cur[q * 7 + j]? = (enc65 l[q])[j]? := by
  intro j hj
  have := congrArg (fun z : List Value => z[j]?) e
  simp only [List.getElem?_take, List.getElem?_drop] at this
  rw [if_pos hj, if_pos (by omega)] at this
  rw [← Array.getElem?_toList]
  exact this
 have hf : ∀ j, W.frozen? ⟨g, j, none⟩ = false := fun j => blk_frozen hW j
 have hy : ∀ j (hj : j < 7), W.cell? ⟨g, q * 7 + j, none⟩ = (enc65 l[q])[j]? := fun j hj => (blk_cell hW _).trans (hx j hj)
 exact ⟨hy 0 (by omega), hy 1 (by omega), hy 2 (by omega), hy 3 (by omega), hy 4 (by omega), hy 5 (by omega), hy 6 (by omega), hf _, hf _, hf _, hf _, hf _, hf _, hf _⟩
theorem Own65.set {W : World} {base g cap : Nat} {l : List S65} (h : Own65 W base g cap l) (q j : Nat) (u : Value) (x x' : S65) (hq : l[q]? = some x) (hj : j < 7) (hx : (enc65 x).set j u = enc65 x') : Own65 (W.setCell ⟨g, q * 7 + j, none⟩ u) base g cap (l.set q x') := by
 obtain ⟨cur, hg, hW, hlc, hm, hs, hc⟩ := h
 obtain ⟨hq', rfl⟩ := List.getElem?_eq_some_iff.1 hq
 refine ⟨cur.setIfInBounds (q * 7 + j) u, hg, blk_set hW _ _, by rw [List.length_set]; exact hlc, hm, by rw [Array.size_setIfInBounds]; exact hs, ?_⟩
 rw [List.length_set, ← cells65_set l q j u x' hq' hx hj, ← hc, Array.toList_setIfInBounds, List.take_set]
theorem get_set_self {α : Type} (l : List α) (q : Nat) (x y : α) (h : l[q]? = some x) : (l.set q y)[q]? = some y := by
 obtain ⟨hq, _⟩ := List.getElem?_eq_some_iff.1 h
 rw [List.getElem?_set_self hq]
theorem Own65.setFrom {W : World} {base g cap : Nat} {l : List S65} (h : Own65 W base g cap l) (q : Nat) (x : S65) (hq : l[q]? = some x) (v : S24) : Own65 (((W.setCell ⟨g, q * 7, none⟩ (.int .i64 v.f0)).setCell ⟨g, q * 7 + 1, none⟩ (.int .i64 v.f1)).setCell ⟨g, q * 7 + 2, none⟩ (.string v.f2)) base g cap (l.set q ⟨v, x.f1, x.f2⟩) := by
 have h1 := h.set q 0 (.int .i64 v.f0) x ⟨⟨v.f0, x.f0.f1, x.f0.f2⟩, x.f1, x.f2⟩ hq (by omega) rfl
 have h2 := h1.set q 1 (.int .i64 v.f1) _ ⟨⟨v.f0, v.f1, x.f0.f2⟩, x.f1, x.f2⟩ (get_set_self l q x _ hq) (by omega) rfl
 have h3 := h2.set q 2 (.string v.f2) _ ⟨v, x.f1, x.f2⟩ (get_set_self _ q _ _ (get_set_self l q x _ hq)) (by omega) rfl
 rwa [List.set_set, List.set_set] at h3
theorem Own65.setTo {W : World} {base g cap : Nat} {l : List S65} (h : Own65 W base g cap l) (q : Nat) (x : S65) (hq : l[q]? = some x) (v : S24) : Own65 (((W.setCell ⟨g, q * 7 + 3, none⟩ (.int .i64 v.f0)).setCell ⟨g, q * 7 + 4, none⟩ (.int .i64 v.f1)).setCell ⟨g, q * 7 + 5, none⟩ (.string v.f2)) base g cap (l.set q ⟨x.f0, v, x.f2⟩) := by
 have h1 := h.set q 3 (.int .i64 v.f0) x ⟨x.f0, ⟨v.f0, x.f1.f1, x.f1.f2⟩, x.f2⟩ hq (by omega) rfl
 have h2 := h1.set q 4 (.int .i64 v.f1) _ ⟨x.f0, ⟨v.f0, v.f1, x.f1.f2⟩, x.f2⟩ (get_set_self l q x _ hq) (by omega) rfl
 have h3 := h2.set q 5 (.string v.f2) _ ⟨x.f0, v, x.f2⟩ (get_set_self _ q _ _ (get_set_self l q x _ hq)) (by omega) rfl
 rwa [List.set_set, List.set_set] at h3
theorem Own65.setAll {W : World} {base g cap : Nat} {l : List S65} (h : Own65 W base g cap l) (q : Nat) (x : S65) (hq : l[q]? = some x) (v : S65) :
  Own65 (((((((W.setCell ⟨g, q * 7, none⟩ (.int .i64 v.f0.f0)).setCell ⟨g, q * 7 + 1, none⟩ (.int .i64 v.f0.f1)).setCell ⟨g, q * 7 + 2, none⟩ (.string v.f0.f2)).setCell ⟨g, q * 7 + 3, none⟩ (.int .i64 v.f1.f0)).setCell ⟨g, q * 7 + 4, none⟩ (.int .i64 v.f1.f1)).setCell ⟨g, q * 7 + 5, none⟩ (.string v.f1.f2)).setCell ⟨g, q * 7 + 6, none⟩ (.bool v.f2)) base g cap (l.set q v) := by
 have h1 := (h.setFrom q x hq v.f0).setTo q _ (get_set_self l q x _ hq) v.f1
 rw [List.set_set] at h1
 have h2 := h1.set q 6 (.bool v.f2) _ v (get_set_self l q x _ hq) (by omega) rfl
 rwa [List.set_set] at h2
def Has65 (W : World) (g n : Nat) : Prop := ∃ cur : Array Value, W.heap[g]? = some (.cells cur 65 (0, 0)) ∧ n ≤ cur.size
theorem Has65.set {W : World} {g n : Nat} (h : Has65 W g n) (i : Nat) (v : Value) : Has65 (W.setCell ⟨g, i, none⟩ v) g n := by
 obtain ⟨cur, hW, hs⟩ := h
 exact ⟨_, blk_set hW i v, by rw [Array.size_setIfInBounds]; exact hs⟩
theorem Own65.swap {W : World} {base g cap : Nat} {l : List S65} (h : Own65 W base g cap l) (q : Nat) (h0 : 0 < l.length) (hq : q < l.length) (v u : S65) :
  Kd.R k65 65 ((((((((((((((W.setCell ⟨g, 0, none⟩ (.int .i64 v.f0.f0)).setCell ⟨g, 1, none⟩ (.int .i64 v.f0.f1)).setCell ⟨g, 2, none⟩ (.string v.f0.f2)).setCell ⟨g, 3, none⟩ (.int .i64 v.f1.f0)).setCell ⟨g, 4, none⟩ (.int .i64 v.f1.f1)).setCell ⟨g, 5, none⟩ (.string v.f1.f2)).setCell ⟨g, 6, none⟩ (.bool v.f2)).setCell ⟨g, q * 7, none⟩ (.int .i64 u.f0.f0)).setCell ⟨g, q * 7 + 1, none⟩ (.int .i64 u.f0.f1)).setCell ⟨g, q * 7 + 2, none⟩ (.string u.f0.f2)).setCell ⟨g, q * 7 + 3, none⟩ (.int .i64 u.f1.f0)).setCell ⟨g, q * 7 + 4, none⟩ (.int .i64 u.f1.f1)).setCell ⟨g, q * 7 + 5, none⟩ (.string u.f1.f2)).setCell ⟨g, q * 7 + 6, none⟩ (.bool u.f2)) base (fun _ => True) (.slice (some ⟨g, 0, none⟩) l.length cap) ((l.set 0 v).set q u) := by
 have h1 := h.setAll 0 _ (List.getElem?_eq_getElem h0) v
 rw [Nat.zero_mul, Nat.zero_add, Nat.zero_add, Nat.zero_add, Nat.zero_add, Nat.zero_add, Nat.zero_add] at h1
 have h2 := (h1.setAll q _ (List.getElem?_eq_getElem (by rw [List.length_set]; exact hq)) u).row
 rw [List.length_set, List.length_set] at h2
 exact h2
theorem Own65.swap0 {W : World} {base g cap : Nat} {l : List S65} (h : Own65 W base g cap l) (h0 : 0 < l.length) (v u : S65) :
  Kd.R k65 65 ((((((((((((((W.setCell ⟨g, 0, none⟩ (.int .i64 v.f0.f0)).setCell ⟨g, 1, none⟩ (.int .i64 v.f0.f1)).setCell ⟨g, 2, none⟩ (.string v.f0.f2)).setCell ⟨g, 3, none⟩ (.int .i64 v.f1.f0)).setCell ⟨g, 4, none⟩ (.int .i64 v.f1.f1)).setCell ⟨g, 5, none⟩ (.string v.f1.f2)).setCell ⟨g, 6, none⟩ (.bool v.f2)).setCell ⟨g, 0, none⟩ (.int .i64 u.f0.f0)).setCell ⟨g, 1, none⟩ (.int .i64 u.f0.f1)).setCell ⟨g, 2, none⟩ (.string u.f0.f2)).setCell ⟨g, 3, none⟩ (.int .i64 u.f1.f0)).setCell ⟨g, 4, none⟩ (.int .i64 u.f1.f1)).setCell ⟨g, 5, none⟩ (.string u.f1.f2)).setCell ⟨g, 6, none⟩ (.bool u.f2)) base (fun _ => True) (.slice (some ⟨g, 0, none⟩) l.length cap) ((l.set 0 v).set 0 u) := by
 have h2 := h.swap 0 h0 h0 v u
 rwa [Nat.zero_mul, Nat.zero_add, Nat.zero_add, Nat.zero_add, Nat.zero_add, Nat.zero_add, Nat.zero_add] at h2
def spoilR (q : Int) (l : List S65) (i : Int) (v : S24) : List S65 :=
 match q with
 | 0 => l.set i.toNat ⟨v, (rd_T65 l i).f1, (rd_T65 l i).f2⟩
 | 1 => l.set i.toNat ⟨(rd_T65 l i).f0, v, (rd_T65 l i).f2⟩
 | 2 => l.set i.toNat ⟨(rd_T65 l i).f0, (rd_T65 l i).f1, !(rd_T65 l i).f2⟩
 | 3 => l ++ [rd_T65 l i]
 | 4 => (l.set 0 (rd_T65 l (l.length - 1))).set (l.length - 1) (rd_T65 l 0)
 | 5 => l.set i.toNat ⟨⟨(rd_T65 l i).f0.f0, wrap64 ((rd_T65 l i).f0.f1 + 1), (rd_T65 l i).f0.f2⟩, (rd_T65 l i).f1, (rd_T65 l i).f2⟩
 | _ => l.set i.toNat ⟨⟨0, (rd_T65 l i).f0.f1, (rd_T65 l i).f0.f2⟩, (rd_T65 l i).f1, (rd_T65 l i).f2⟩
theorem spoilR_else {q : Int} {l : List S65} {i : Int} {v : S24} (h0 : q ≠ 0) (h1 : q ≠ 1) (h2 : q ≠ 2) (h3 : q ≠ 3) (h4 : q ≠ 4) (h5 : q ≠ 5) : spoilR q l i v = l.set i.toNat ⟨⟨0, (rd_T65 l i).f0.f1, (rd_T65 l i).f0.f2⟩, (rd_T65 l i).f1, (rd_T65 l i).f2⟩ := by
 unfold spoilR
 split <;> first | contradiction | rfl
def l3_spoilt.t (k : Nat) (s0_0 : List Int) (l : List S65) (i q p : Int) : Option (List S65 × Int) := if 0 ≤ i then (if i < (l.length : Int) then (if q = 0 ∨ q = 1 then ((cc_Any.f k s0_0 p).bind fun b => some (spoilR q l i ⟨b.1, b.2.1, b.2.2.1⟩, b.2.2.2)) else some (spoilR q l i z24, p)) else none) else none
def l3_spoilt.f (k : Nat) (s0_0 : List Int) (s0_1 : Int) : Option ((List (S65)) × Int) := (cc_Interval.f k s0_0 s0_1).bind fun bt928 => (if ([] : List (S65)).length + bt928.1.length < 1954687338268 then ((some (([] : List (S65)) ++ bt928.1 : List (S65))).bind fun y932 => (if (y932.length : Int) = 0 then ((cc_Any.f k s0_0 bt928.2).bind fun bt935 => ((cc_Any.f k s0_0 bt935.2.2.2).bind fun bt939 => ((cc_Bool.f s0_0 bt939.2.2.2 2).bind fun bt943 => (some ((([(⟨(⟨bt935.1, bt935.2.1, bt935.2.2.1⟩ : S24), (⟨bt939.1, bt939.2.1, bt939.2.2.1⟩ : S24), bt943.1⟩ : S65)] : List (S65))), bt943.2))))) else ((cc_Int.f s0_0 bt928.2 (y932.length : Int)).bind fun bt948 => ((cc_Int.f s0_0 bt948.2 7).bind fun bt950 => (l3_spoilt.t k s0_0 y932 bt948.1 bt950.1 bt950.2))))) else (none))
set_option maxHeartbeats 8000000 in
set_option maxRecDepth 100000 in
theorem l3_spoilt.calls (k : Nat) (g : Nat) (s0_0 : List Int) (s0_1 : Int) (r1 : List (S65)) (r2 : Int) (w0 w : World) (hI : IsS75 w0 w g s0_0 s0_1) (hB : Below w0.heap.size w0 w) (h : l3_spoilt.f k s0_0 s0_1 = some (r1, r2)) :
  Calls Try.prog 60 #[.pointer (some ⟨g, 0, none⟩)] w fun e w' => ∃ v0_ : Value, e = .returned (v0_) ∧ Kd.R k65 65 w' w.heap.size (fun _ => True) v0_ r1 ∧ IsS75 w0 w' g s0_0 r2 ∧ Below w0.heap.size w0 w' ∧ KeepBut w w' g none := by
 have hu65 := Try.underlying65
 have HI0 := Aside0.mk hI
 have HK := aK (KeepBut.refl w g none)
 have HL := Aside0.mk hB.size
 clear hI
 have HW0 := Aside0.mk hB.size
 have HB := Aside0.mk hB
 clear hB
 have H : ((cc_Interval.f k s0_0 s0_1).bind fun bt928 => (if ([] : List (S65)).length + bt928.1.length < 1954687338268 then ((some (([] : List (S65)) ++ bt928.1 : List (S65))).bind fun y932 => (if (y932.length : Int) = 0 then ((cc_Any.f k s0_0 bt928.2).bind fun bt935 => ((cc_Any.f k s0_0 bt935.2.2.2).bind fun bt939 => ((cc_Bool.f s0_0 bt939.2.2.2 2).bind fun bt943 => (some ((([(⟨(⟨bt935.1, bt935.2.1, bt935.2.2.1⟩ : S24), (⟨bt939.1, bt939.2.1, bt939.2.2.1⟩ : S24), bt943.1⟩ : S65)] : List (S65))), bt943.2))))) else ((cc_Int.f s0_0 bt928.2 (y932.length : Int)).bind fun bt948 => ((cc_Int.f s0_0 bt948.2 7).bind fun bt950 => (l3_spoilt.t k s0_0 y932 bt948.1 bt950.1 bt950.2))))) else (none))) = some (r1, r2) := h
 clear h
 obtain ⟨⟨t928, t931⟩, A2, H⟩ := oB H
 try dsimp only at H
 by_cases c3 : ([] : List (S65)).length + t928.length < 1954687338268
 rotate_left
 ·rw [if_neg c3] at H
  exact absurd H (by simp)
 rw [if_pos c3] at H
 have LMc3 := Aside0.mk c3
 clear c3
 obtain ⟨y932, hy932⟩ : ∃ y_ : List (S65), y_ = (([] : List (S65)) ++ t928) := ⟨_, rfl⟩
 replace H : (if (y932.length : Int) = 0 then ((cc_Any.f k s0_0 t931).bind fun bt935 => ((cc_Any.f k s0_0 bt935.2.2.2).bind fun bt939 => ((cc_Bool.f s0_0 bt939.2.2.2 2).bind fun bt943 => (some ((([(⟨(⟨bt935.1, bt935.2.1, bt935.2.2.1⟩ : S24), (⟨bt939.1, bt939.2.1, bt939.2.2.1⟩ : S24), bt943.1⟩ : S65)] : List (S65))), bt943.2))))) else ((cc_Int.f s0_0 t931 (y932.length : Int)).bind fun bt948 => ((cc_Int.f s0_0 bt948.2 7).bind fun bt950 => (l3_spoilt.t k s0_0 y932 bt948.1 bt950.1 bt950.2)))) = some (r1, r2) := by first | (rw [hy932]; with_reducible exact H) | (have H2_ := (Option.bind_some _ _).symm.trans H; rw [hy932]; with_reducible exact H2_) | (have H2_ := (Option.bind_some _ _).symm.trans H; with_reducible exact H2_) | with_reducible exact H | (rw [hy932]; exact H) | exact H
 have Ny932 := Aside0.mk hy932
 clear hy932
 by_cases c4 : (y932.length : Int) = 0
 rotate_left
 ·rw [if_neg c4] at H
  have c4b0 : ((y932.length : Int) == 0) = false := beq_eq_false_iff_ne.mpr c4
  have c4b1 : ((y932.length : Int) != 0) = true := bne_iff_ne.mpr c4
  have c4b2 : ¬ (y932 = []) := fun h_ => c4 (by rw [h_]; rfl)
  obtain ⟨⟨t948, t949⟩, A17, H⟩ := oB H
  try dsimp only at H
  obtain ⟨⟨t950, t951⟩, A18, H⟩ := oB H
  try dsimp only at H
  have hT : l3_spoilt.t k s0_0 y932 t948 t950 t951 = some (r1, r2) := H
  clear H
  unfold l3_spoilt.t at hT
  by_cases p0_ : 0 ≤ t948
  rotate_left
  ·rw [if_neg p0_] at hT
   exact absurd hT (by simp)
  rw [if_pos p0_] at hT
  by_cases p1_ : t948 < (y932.length : Int)
  rotate_left
  ·rw [if_neg p1_] at hT
   exact absurd hT (by simp)
  rw [if_pos p1_] at hT
  have p0b_ : decide (0 ≤ t948) = true := decide_eq_true p0_
  have p1b_ : decide (t948 < (y932.length : Int)) = true := decide_eq_true p1_
  have p0e_ := eq_true p0_
  have p1e_ := eq_true p1_
  have GX : Aside0 (y932[t948.toNat]? = some (rd_T65 y932 t948)) := aK (by unfold rd_T65; rw [List.getD_eq_getElem?_getD, List.getElem?_eq_getElem (by omega)]; rfl)
  have HT := Aside0.mk hT
  have GNE : Aside0 (¬ w.heap.size ≤ g) := aK (Nat.not_le.2 (IsS75.lt HI0.out))
  have LM60 : Aside0 (y932.length < 1954687338268) := aK (by have h_ := LMc3.out; rw [Ny932.out]; simpa using h_)
  have C4 := Aside0.mk c4b2
  have P0 := Aside0.mk p0_
  have P1 := Aside0.mk p1_
  clear hT p0_ p1_ c4b2 c4
  go_enter Try.func60, Try.ntmps60
  go_upto_region 7 with (first | ((with_reducible refine gate_callee (f := 29) rfl ?_); refine gL (some 6) rfl Try.func29 #[.pointer (some ⟨g, 0, none⟩)] rfl ?_; (with_reducible refine (cc_Interval.calls k g s0_0 s0_1 t928 t931 w0 _ ?side1 ?side2 A2.out).mono ?_); (case side1 => exact iX HI0.out); (case side2 => exact bS (IsS75.ge HI0.out)); rintro e w21 ⟨v929, rfl, ho0, hi, hb, hk⟩; refine ⟨_, rfl, ?_⟩; have n0_ := aK (Kd.R_lower ho0 (keep_size (w := w) (g := g) (row := none) kX)); have n1_ := aK (KeepBut.trans kX hk (.inl rfl)); have n2_ := aK (hb); have n3_ := aK (hi); clear HK HB HI0; have HO930 := n0_; have HK := n1_; have HB := n2_; have HI0 := n3_; clear n0_ n1_ n2_ n3_; (try clear hb hk hi ho0); obtain ⟨Ao23, co23, eo23⟩ := Kd.R_slice HO930.out; subst eo23) | ((with_reducible refine gate_builtin (b := .append) (xs := #[(.const (.slice none 0 0)), .tmp 6]) rfl ?_); at_builtin; refine Kd.R_append_rows k65 w.heap.size rfl (.const (.slice none 0 0)) (.tmp 6) 36 65 (.agg #[(.int .i64 0), (.int .i64 0), (.string ⟨#[]⟩), (.int .i64 0), (.int .i64 0), (.string ⟨#[]⟩), (.bool false)]) 72 rfl Try.underlying36 info65 rfl (by decide) (by omega) (.slice none 0 0) ([] : List (S65)) t928 _ _ _ (fun k_ => some k_ ≠ (.slice Ao23 t928.length co23 : Value).ownBlock) (fun _ => False) rfl rfl ?aO ?aR (fun _ _ h => h) (fun _ h => h.elim) ?aF (Below.refl _ _) ?aS ?aL ?_; (case aR => exact cX (Kd.R_reads' HO930.out).2.2); (case aF => exact (fun k_ hk => Kd.fresh' (Kd.R_lt (rX HO930.out)) k_ hk)); (case aO => exact ((Kd.R_nil _ _ _ _ (fun k_ => some k_ ≠ (.slice Ao23 t928.length co23 : Value).ownBlock)))); (case aS => exact (keep_size (w := w) (g := g) (row := none) kX)); (case aL => have := LMc3.out; omega); intro v933 w22 ho hb hg hat; rw [← Ny932.out] at ho; have n0_ := aK (IsS75.grown (iX HI0.out) hg (by simp [Value.ownBlock])); have n1_ := aK (Kd.R_after (Kd.R_apart_nil (rX HO930.out)) hg hat); have n2_ := aK (below_weaken (bS (IsS75.ge HI0.out)) HL.out hb); have n3_ := aK (KeepBut.trans kX (KeepBut.of_grown hg g) (.inl (by simp [Value.ownBlock]))); have n4_ := aK (ho); clear HI0 HO930 HB HK; have HI0 := n0_; have HO930 := n1_; have HB := n2_; have HK := n3_; have HO934 := n4_; clear n0_ n1_ n2_ n3_ n4_ ho hb hg hat; obtain ⟨Ao24, co24, eo24⟩ := Kd.R_slice HO934.out; subst eo24) | ((with_reducible refine gate_callee (f := 73) rfl ?_); refine gL (some 22) rfl Try.func73 #[.pointer (some ⟨g, 0, none⟩), .int .i64 (y932.length : Int)] rfl ?_; (with_reducible refine (cc_Int.calls g s0_0 t931 (y932.length : Int) t948 t949 w0 _ ?side1 ?side2 A17.out).mono ?_); (case side1 => exact iX HI0.out); (case side2 => exact bS (IsS75.ge HI0.out)); rintro e w25 ⟨rfl, hi, hb, hk⟩; refine ⟨_, rfl, ?_⟩; have n0_ := aK (Kd.R_mono (Kd.R_keep (IsS75.apart (show IsS75 w0 _ g s0_0 t931 from iX HI0.out) (rX HO930.out) (by decide)) hk (fun _ h => h.2)) (fun _ h => h.1)); have n1_ := aK (Kd.R_mono (Kd.R_keep (IsS75.apart (show IsS75 w0 _ g s0_0 t931 from iX HI0.out) (rX HO934.out) (by decide)) hk (fun _ h => h.2)) (fun _ h => h.1)); have n2_ := aK (KeepBut.trans kX hk (.inl rfl)); have n3_ := aK (hb); have n4_ := aK (hi); clear HO930 HO934 HK HB HI0; have HO930 := n0_; have HO934 := n1_; have HK := n2_; have HB := n3_; have HI0 := n4_; clear n0_ n1_ n2_ n3_ n4_; (try clear hb hk hi)) | ((with_reducible refine gate_callee (f := 73) rfl ?_); refine gL (some 24) rfl Try.func73 #[.pointer (some ⟨g, 0, none⟩), .int .i64 7] rfl ?_; (with_reducible refine (cc_Int.calls g s0_0 t949 7 t950 t951 w0 _ ?side1 ?side2 A18.out).mono ?_); (case side1 => exact iX HI0.out); (case side2 => exact bS (IsS75.ge HI0.out)); rintro e w26 ⟨rfl, hi, hb, hk⟩; refine ⟨_, rfl, ?_⟩; have n0_ := aK (Kd.R_mono (Kd.R_keep (IsS75.apart (show IsS75 w0 _ g s0_0 t949 from iX HI0.out) (rX HO930.out) (by decide)) hk (fun _ h => h.2)) (fun _ h => h.1)); have n1_ := aK (Kd.R_mono (Kd.R_keep (IsS75.apart (show IsS75 w0 _ g s0_0 t949 from iX HI0.out) (rX HO934.out) (by decide)) hk (fun _ h => h.2)) (fun _ h => h.1)); have n2_ := aK (KeepBut.trans kX hk (.inl rfl)); have n3_ := aK (hb); have n4_ := aK (hi); clear HO930 HO934 HK HB HI0; have HO930 := n0_; have HO934 := n1_; have HK := n2_; have HB := n3_; have HI0 := n4_; clear n0_ n1_ n2_ n3_ n4_; (try clear hb hk hi)))
  clear A2 A17 A18
  by_cases c19 : t950 = 0
  rotate_left
  ·have NQ0 := Aside0.mk c19
   clear c19
   by_cases c19 : t950 = 1
   rotate_left
   ·have NQ1 := Aside0.mk c19
    clear c19
    by_cases c19 : t950 = 2
    rotate_left
    ·have NQ2 := Aside0.mk c19
     clear c19
     by_cases c19 : t950 = 3
     rotate_left
     ·have NQ3 := Aside0.mk c19
      clear c19
      by_cases c19 : t950 = 4
      rotate_left
      ·have NQ4 := Aside0.mk c19
       clear c19
       by_cases c19 : t950 = 5
       rotate_left
       ·have NQ5 := Aside0.mk c19
        clear c19
        have c190b0 : (t950 == 0) = false := beq_eq_false_iff_ne.mpr NQ0.out
        have c191b0 : (t950 == 1) = false := beq_eq_false_iff_ne.mpr NQ1.out
        have c192b0 : (t950 == 2) = false := beq_eq_false_iff_ne.mpr NQ2.out
        have c193b0 : (t950 == 3) = false := beq_eq_false_iff_ne.mpr NQ3.out
        have c194b0 : (t950 == 4) = false := beq_eq_false_iff_ne.mpr NQ4.out
        have c195b0 : (t950 == 5) = false := beq_eq_false_iff_ne.mpr NQ5.out
        obtain ⟨gl, cap, eu_, hgl_, hown_⟩ := own65_open HO934.out C4.out
        cases eu_
        have HOW := Aside0.mk hown_
        have GE1 := Aside0.mk hgl_
        have GE2 := aK (Nat.le_trans HW0.out hgl_)
        have NBL : Aside0 (gl ≠ g) := aK (fun e_ => GNE.out (by rw [← e_]; exact hgl_))
        have NBG : Aside0 (g ≠ gl) := aK (Ne.symm NBL.out)
        clear hgl_ hown_ HO930 HO934
        have hT_ := HT.out
        rw [if_neg (fun h_ => h_.elim NQ0.out NQ1.out)] at hT_
        simp only [Option.some.injEq, Prod.mk.injEq] at hT_
        obtain ⟨er_, rfl⟩ := hT_
        rw [spoilR_else NQ0.out NQ1.out NQ2.out NQ3.out NQ4.out NQ5.out] at er_
        have ER := Aside0.mk er_
        clear er_
        obtain ⟨hz0_, hz1_, hz2_, hz3_, hz4_, hz5_, hz6_, hf0_, hf1_, hf2_, hf3_, hf4_, hf5_, hf6_⟩ := HOW.out.at_ t948.toNat _ GX.out
        go_wp2
        go_ret
        refine ⟨_, rfl, ?_, by repeat (first | (with_reducible first | exact HI0.out | apply IsS75.drew | refine IsS75.far ?_ NBG.out _) | exact HI0.out), by repeat (first | (with_reducible first | exact HB.out | apply below_drew1 | refine below_set ?_ GE2.out) | exact HB.out), by repeat (first | (with_reducible first | exact HK.out | apply keep_drew | refine keep_far ?_ GE1.out _) | exact HK.out)⟩
        have h_ := (HOW.out.set _ 0 (.int .i64 0) _ ⟨⟨0, (rd_T65 y932 t948).f0.f1, (rd_T65 y932 t948).f0.f2⟩, (rd_T65 y932 t948).f1, (rd_T65 y932 t948).f2⟩ GX.out (by omega) rfl).row
        rw [List.length_set] at h_
        rw [← ER.out]
        exact h_
       have EQ := Aside0.mk c19
       clear c19
       have c190b0 : (t950 == 0) = false := beq_eq_false_iff_ne.mpr NQ0.out
       have c191b0 : (t950 == 1) = false := beq_eq_false_iff_ne.mpr NQ1.out
       have c192b0 : (t950 == 2) = false := beq_eq_false_iff_ne.mpr NQ2.out
       have c193b0 : (t950 == 3) = false := beq_eq_false_iff_ne.mpr NQ3.out
       have c194b0 : (t950 == 4) = false := beq_eq_false_iff_ne.mpr NQ4.out
       have c195b0 : (t950 == 5) = true := beq_iff_eq.mpr EQ.out
       obtain ⟨gl, cap, eu_, hgl_, hown_⟩ := own65_open HO934.out C4.out
       cases eu_
       have HOW := Aside0.mk hown_
       have GE1 := Aside0.mk hgl_
       have GE2 := aK (Nat.le_trans HW0.out hgl_)
       have NBL : Aside0 (gl ≠ g) := aK (fun e_ => GNE.out (by rw [← e_]; exact hgl_))
       have NBG : Aside0 (g ≠ gl) := aK (Ne.symm NBL.out)
       clear hgl_ hown_ HO930 HO934
       have hT_ := HT.out
       rw [if_neg (fun h_ => h_.elim NQ0.out NQ1.out)] at hT_
       simp only [Option.some.injEq, Prod.mk.injEq] at hT_
       obtain ⟨er_, rfl⟩ := hT_
       rw [EQ.out] at er_
       have ER := Aside0.mk er_
       clear er_
       obtain ⟨hz0_, hz1_, hz2_, hz3_, hz4_, hz5_, hz6_, hf0_, hf1_, hf2_, hf3_, hf4_, hf5_, hf6_⟩ := HOW.out.at_ t948.toNat _ GX.out
       go_wp2
       go_ret
       refine ⟨_, rfl, ?_, by repeat (first | (with_reducible first | exact HI0.out | apply IsS75.drew | refine IsS75.far ?_ NBG.out _) | exact HI0.out), by repeat (first | (with_reducible first | exact HB.out | apply below_drew1 | refine below_set ?_ GE2.out) | exact HB.out), by repeat (first | (with_reducible first | exact HK.out | apply keep_drew | refine keep_far ?_ GE1.out _) | exact HK.out)⟩
       have h_ := (HOW.out.set _ 1 (.int .i64 (wrap64 ((rd_T65 y932 t948).f0.f1 + 1))) _ ⟨⟨(rd_T65 y932 t948).f0.f0, wrap64 ((rd_T65 y932 t948).f0.f1 + 1), (rd_T65 y932 t948).f0.f2⟩, (rd_T65 y932 t948).f1, (rd_T65 y932 t948).f2⟩ GX.out (by omega) rfl).row
       rw [List.length_set] at h_
       rw [← ER.out]
       exact h_
      have EQ := Aside0.mk c19
      clear c19
      have c190b0 : (t950 == 0) = false := beq_eq_false_iff_ne.mpr NQ0.out
      have c191b0 : (t950 == 1) = false := beq_eq_false_iff_ne.mpr NQ1.out
      have c192b0 : (t950 == 2) = false := beq_eq_false_iff_ne.mpr NQ2.out
      have c193b0 : (t950 == 3) = false := beq_eq_false_iff_ne.mpr NQ3.out
      have c194b0 : (t950 == 4) = true := beq_iff_eq.mpr EQ.out
      obtain ⟨gl, cap, eu_, hgl_, hown_⟩ := own65_open HO934.out C4.out
      cases eu_
      have HOW := Aside0.mk hown_
      have GE1 := Aside0.mk hgl_
      have GE2 := aK (Nat.le_trans HW0.out hgl_)
      have NBL : Aside0 (gl ≠ g) := aK (fun e_ => GNE.out (by rw [← e_]; exact hgl_))
      have NBG : Aside0 (g ≠ gl) := aK (Ne.symm NBL.out)
      clear hgl_ hown_ HO930 HO934
      have hT_ := HT.out
      rw [if_neg (fun h_ => h_.elim NQ0.out NQ1.out)] at hT_
      simp only [Option.some.injEq, Prod.mk.injEq] at hT_
      obtain ⟨er_, rfl⟩ := hT_
      rw [EQ.out] at er_
      have ER := Aside0.mk er_
      clear er_
      have mixed : Try.prog.follows Departure.mixedOrders = true := by kernel_rfl
      have hpos_ : 0 < y932.length := List.length_pos_iff.2 C4.out
      have hlt_ := LM60.out
      obtain ⟨jn, hjn_⟩ : ∃ jn : Int, jn = (y932.length : Int) - 1 := ⟨_, rfl⟩
      have hwn_ : IntKind.i64.wrap ((y932.length : Int) - 1) = jn := by rw [hjn_]; exact IntWalk.i64_in _ (by omega)
      have hj0_ : (0 ≤ jn) = True := eq_true (by omega)
      have hj1_ : (jn < (y932.length : Int)) = True := eq_true (by omega)
      have hp0_ : (0 < y932.length) = True := eq_true (by omega)
      have hjt_ : jn.toNat = y932.length - 1 := by omega
      have G0 : Aside0 (y932[0]? = some (rd_T65 y932 0)) := aK (by unfold rd_T65; rw [List.getD_eq_getElem?_getD, show (0 : Int).toNat = 0 from rfl, List.getElem?_eq_getElem hpos_]; rfl)
      have GN : Aside0 (y932[jn.toNat]? = some (rd_T65 y932 jn)) := aK (by unfold rd_T65; rw [List.getD_eq_getElem?_getD, List.getElem?_eq_getElem (by omega)]; rfl)
      have HJ := Aside0.mk hjn_
      have HJT := Aside0.mk hjt_
      obtain ⟨hz0_, hz1_, hz2_, hz3_, hz4_, hz5_, hz6_, hf0_, hf1_, hf2_, hf3_, hf4_, hf5_, hf6_⟩ := HOW.out.at_ 0 _ G0.out
      rw [Nat.zero_mul] at hz0_ hz1_ hz2_ hz3_ hz4_ hz5_ hz6_ hf0_ hf1_ hf2_ hf3_ hf4_ hf5_ hf6_
      clear hpos_ hlt_ hjn_ hjt_
      by_cases hjz_ : jn = 0
      rotate_left
      ·obtain ⟨hy0_, hy1_, hy2_, hy3_, hy4_, hy5_, hy6_, he0_, he1_, he2_, he3_, he4_, he5_, he6_⟩ := HOW.out.at_ jn.toNat _ GN.out
       have hjp_ : (jn ≤ 0) = False := eq_false (by have h_ := of_eq_true hj0_; omega)
       have hjq_ : (jn.toNat = 0) = False := eq_false (by have h_ := of_eq_true hj0_; omega)
       have hjr_ : (jn.toNat * 7 = 0) = False := eq_false (by have h_ := of_eq_true hj0_; omega)
       have hjs_ : 0 ≠ jn.toNat * 7 := by have h_ := of_eq_true hj0_; omega
       have hjt_ : jn.toNat * 7 ≠ 0 := by have h_ := of_eq_true hj0_; omega
       clear hjz_
       go_wp2_with fail
       go_region_o
       go_wp2
       go_ret
       refine ⟨_, rfl, ?_, by repeat (first | (with_reducible first | exact HI0.out | apply IsS75.drew | refine IsS75.far ?_ NBG.out _) | exact HI0.out), by repeat (first | (with_reducible first | exact HB.out | apply below_drew1 | refine below_set ?_ GE2.out) | exact HB.out), by repeat (first | (with_reducible first | exact HK.out | apply keep_drew | refine keep_far ?_ GE1.out _) | exact HK.out)⟩
       have h_ := HOW.out.swap jn.toNat (List.length_pos_iff.2 C4.out) (by have h1_ := List.length_pos_iff.2 C4.out; have h2_ := HJT.out; omega) (rd_T65 y932 jn) (rd_T65 y932 0)
       have er_ : (y932.set 0 (rd_T65 y932 jn)).set jn.toNat (rd_T65 y932 0) = r1 := by
        have e_ := ER.out
        rw [← e_]
        show _ = (y932.set 0 (rd_T65 y932 ((y932.length : Int) - 1))).set (y932.length - 1) (rd_T65 y932 0)
        rw [← HJ.out, ← HJT.out]
       rw [er_] at h_
       exact Kd.R_drew h_
      rw [hjz_] at hwn_
      have HJZ := Aside0.mk hjz_
      clear hjz_ hj0_ hj1_
      go_wp2_with fail
      go_region_o
      go_wp2
      go_ret
      refine ⟨_, rfl, ?_, by repeat (first | (with_reducible first | exact HI0.out | apply IsS75.drew | refine IsS75.far ?_ NBG.out _) | exact HI0.out), by repeat (first | (with_reducible first | exact HB.out | apply below_drew1 | refine below_set ?_ GE2.out) | exact HB.out), by repeat (first | (with_reducible first | exact HK.out | apply keep_drew | refine keep_far ?_ GE1.out _) | exact HK.out)⟩
      have h_ := HOW.out.swap0 (List.length_pos_iff.2 C4.out) (rd_T65 y932 0) (rd_T65 y932 0)
      have er_ : (y932.set 0 (rd_T65 y932 0)).set 0 (rd_T65 y932 0) = r1 := by
       have e_ := ER.out
       rw [← e_]
       show _ = (y932.set 0 (rd_T65 y932 ((y932.length : Int) - 1))).set (y932.length - 1) (rd_T65 y932 0)
       rw [← HJ.out, ← HJT.out, HJZ.out]
       rfl
      rw [er_] at h_
      exact Kd.R_drew h_
     have EQ := Aside0.mk c19
     clear c19
     have c190b0 : (t950 == 0) = false := beq_eq_false_iff_ne.mpr NQ0.out
     have c191b0 : (t950 == 1) = false := beq_eq_false_iff_ne.mpr NQ1.out
     have c192b0 : (t950 == 2) = false := beq_eq_false_iff_ne.mpr NQ2.out
     have c193b0 : (t950 == 3) = true := beq_iff_eq.mpr EQ.out
     have hT_ := HT.out
     rw [if_neg (fun h_ => h_.elim NQ0.out NQ1.out)] at hT_
     simp only [Option.some.injEq, Prod.mk.injEq] at hT_
     obtain ⟨er_, rfl⟩ := hT_
     rw [EQ.out] at er_
     have ER := Aside0.mk er_
     clear er_
     have p960 : 0 ≤ (t948 : Int) := of_decide_eq_true (aA)
     have q960 : t948 < (y932.length : Int) := of_decide_eq_true (aA)
     obtain ⟨ad960, e960, hx960_0, hx960_1, hx960_2, hx960_3, hx960_4, hx960_5, hx960_6⟩ := at_T65 (Kd.R_reads' HO934.out).2.2 t948 p960 q960
     cases e960
     replace p960 := eq_true p960
     replace q960 := eq_true q960
     go_wp2_with (first | ((with_reducible refine gate_builtin (b := .append) (xs := #[.tmp 60, .tmp 65]) rfl ?_); at_builtin; refine Kd.R_append k65 w.heap.size rfl (.tmp 60) (.tmp 65) 36 65 (.agg #[(.int .i64 0), (.int .i64 0), (.string ⟨#[]⟩), (.int .i64 0), (.int .i64 0), (.string ⟨#[]⟩), (.bool false)]) 72 rfl Try.underlying36 info65 rfl (by decide) (by omega) (.slice (some ad960) y932.length co24) y932 (⟨(⟨(rd_T65 y932 t948).f0.f0, (rd_T65 y932 t948).f0.f1, (rd_T65 y932 t948).f0.f2⟩ : S24), (⟨(rd_T65 y932 t948).f1.f0, (rd_T65 y932 t948).f1.f1, (rd_T65 y932 t948).f1.f2⟩ : S24), (rd_T65 y932 t948).f2⟩ : S65) [.int .i64 ((rd_T65 y932 t948).f0.f0), .int .i64 ((rd_T65 y932 t948).f0.f1), .string ((rd_T65 y932 t948).f0.f2), .int .i64 ((rd_T65 y932 t948).f1.f0), .int .i64 ((rd_T65 y932 t948).f1.f1), .string ((rd_T65 y932 t948).f1.f2), .bool ((rd_T65 y932 t948).f2)] (fun k_ => some k_ ≠ (.slice Ao23 t928.length co23 : Value).ownBlock) (fun _ => False) rfl rfl ?aP (fun _ hk => hk.elim) ?aF ?aO (Below.refl _ _) ?aS ?aL ?_; (case aP => exact k65_mkM _ _ _ (⟨(⟨(rd_T65 y932 t948).f0.f0, (rd_T65 y932 t948).f0.f1, (rd_T65 y932 t948).f0.f2⟩ : S24), (⟨(rd_T65 y932 t948).f1.f0, (rd_T65 y932 t948).f1.f1, (rd_T65 y932 t948).f1.f2⟩ : S24), (rd_T65 y932 t948).f2⟩ : S65)); (case aF => exact (fun k_ hk => Kd.fresh' (Kd.R_lt (rX HO930.out)) k_ hk)); (case aO => exact (rX HO934.out)); (case aS => exact (keep_size (w := w) (g := g) (row := none) kX)); (case aL => have := LM60.out; omega); intro v962 w54 ho hb hg hat; rw [show y932 ++ [_] = r1 from ER.out] at ho; have n0_ := aK (IsS75.grown (iX HI0.out) hg (IsS75.own_ne HI0.out HO934.out (by decide))); have n1_ := aK (Kd.R_after (ok := (fun _ => True)) (rX HO930.out) hg hat); have n2_ := aK (below_weaken (bS (IsS75.ge HI0.out)) HL.out hb); have n3_ := aK (KeepBut.trans kX (KeepBut.of_grown hg g) (Kd.R_base2 HO934.out)); have n4_ := aK (ho); clear HI0 HO930 HB HK HO934; have HI0 := n0_; have HO930 := n1_; have HB := n2_; have HK := n3_; have HO963 := n4_; clear n0_ n1_ n2_ n3_ n4_ ho hb hg hat))
     go_ret
     exact ⟨_, rfl, by (with_reducible repeat (first | apply Kd.R_alloc | apply Kd.R_drewN | apply Kd.R_drew)); exact Kd.R_mono HO963.out (fun _ hk => trivial), iX HI0.out, bS (IsS75.ge HI0.out), kX⟩
    have EQ := Aside0.mk c19
    clear c19
    have c190b0 : (t950 == 0) = false := beq_eq_false_iff_ne.mpr NQ0.out
    have c191b0 : (t950 == 1) = false := beq_eq_false_iff_ne.mpr NQ1.out
    have c192b0 : (t950 == 2) = true := beq_iff_eq.mpr EQ.out
    obtain ⟨gl, cap, eu_, hgl_, hown_⟩ := own65_open HO934.out C4.out
    cases eu_
    have HOW := Aside0.mk hown_
    have GE1 := Aside0.mk hgl_
    have GE2 := aK (Nat.le_trans HW0.out hgl_)
    have NBL : Aside0 (gl ≠ g) := aK (fun e_ => GNE.out (by rw [← e_]; exact hgl_))
    have NBG : Aside0 (g ≠ gl) := aK (Ne.symm NBL.out)
    clear hgl_ hown_ HO930 HO934
    have hT_ := HT.out
    rw [if_neg (fun h_ => h_.elim NQ0.out NQ1.out)] at hT_
    simp only [Option.some.injEq, Prod.mk.injEq] at hT_
    obtain ⟨er_, rfl⟩ := hT_
    rw [EQ.out] at er_
    have ER := Aside0.mk er_
    clear er_
    obtain ⟨hz0_, hz1_, hz2_, hz3_, hz4_, hz5_, hz6_, hf0_, hf1_, hf2_, hf3_, hf4_, hf5_, hf6_⟩ := HOW.out.at_ t948.toNat _ GX.out
    go_wp2
    go_ret
    refine ⟨_, rfl, ?_, by repeat (first | (with_reducible first | exact HI0.out | apply IsS75.drew | refine IsS75.far ?_ NBG.out _) | exact HI0.out), by repeat (first | (with_reducible first | exact HB.out | apply below_drew1 | refine below_set ?_ GE2.out) | exact HB.out), by repeat (first | (with_reducible first | exact HK.out | apply keep_drew | refine keep_far ?_ GE1.out _) | exact HK.out)⟩
    have h_ := (HOW.out.set _ 6 (.bool (!(rd_T65 y932 t948).f2)) _ ⟨(rd_T65 y932 t948).f0, (rd_T65 y932 t948).f1, !(rd_T65 y932 t948).f2⟩ GX.out (by omega) rfl).row
    rw [List.length_set] at h_
    rw [← ER.out]
    exact h_
   have EQ := Aside0.mk c19
   clear c19
   have c190b0 : (t950 == 0) = false := beq_eq_false_iff_ne.mpr NQ0.out
   have c191b0 : (t950 == 1) = true := beq_iff_eq.mpr EQ.out
   obtain ⟨gl, cap, eu_, hgl_, hown_⟩ := own65_open HO934.out C4.out
   cases eu_
   have HOW := Aside0.mk hown_
   have GE1 := Aside0.mk hgl_
   have GE2 := aK (Nat.le_trans HW0.out hgl_)
   have NBL : Aside0 (gl ≠ g) := aK (fun e_ => GNE.out (by rw [← e_]; exact hgl_))
   have NBG : Aside0 (g ≠ gl) := aK (Ne.symm NBL.out)
   clear hgl_ hown_ HO930 HO934
   have hT_ := HT.out
   rw [if_pos (Or.inr EQ.out)] at hT_
   obtain ⟨⟨v0_, v1_, v2_, v3_⟩, A20_, hT_⟩ := Option.bind_eq_some_iff.mp hT_
   have A20 := Aside0.mk A20_
   have hT2_ : some (spoilR t950 y932 t948 (⟨v0_, v1_, v2_⟩ : S24), v3_) = some (r1, r2) := hT_
   simp only [Option.some.injEq, Prod.mk.injEq] at hT2_
   obtain ⟨er_, rfl⟩ := hT2_
   rw [EQ.out] at er_
   have ER := Aside0.mk er_
   clear hT_ A20_ er_
   go_wp2_with (first | ((with_reducible refine gate_callee (f := 19) rfl ?_); refine gL (some 43) rfl Try.func19 #[.pointer (some ⟨g, 0, none⟩)] rfl ?_; (with_reducible refine (cc_Any.calls k g s0_0 t951 v0_ v1_ v2_ v3_ w0 _ ?side1 ?side2 A20.out).mono ?_); (case side1 => exact iX HI0.out); (case side2 => exact bS (IsS75.ge HI0.out)); rintro e w36 ⟨rfl, hi, hb, hk⟩; refine ⟨_, rfl, ?_⟩; have n0_ := aK (HOW.out.keep hk NBL.out); have n2_ := aK (KeepBut.trans kX hk (.inl rfl)); have n3_ := aK (hb); have n4_ := aK (hi); clear HOW HK HB HI0; have HOW := n0_; have HK := n2_; have HB := n3_; have HI0 := n4_; clear n0_ n2_ n3_ n4_; (try clear hb hk hi); obtain ⟨hz0_, hz1_, hz2_, hz3_, hz4_, hz5_, hz6_, hf0_, hf1_, hf2_, hf3_, hf4_, hf5_, hf6_⟩ := HOW.out.at_ t948.toNat _ GX.out))
   go_ret
   refine ⟨_, rfl, ?_, by repeat (first | (with_reducible first | exact HI0.out | apply IsS75.drew | refine IsS75.far ?_ NBG.out _) | exact HI0.out), by repeat (first | (with_reducible first | exact HB.out | apply below_drew1 | refine below_set ?_ GE2.out) | exact HB.out), by repeat (first | (with_reducible first | exact HK.out | apply keep_drew | refine keep_far ?_ GE1.out _) | exact HK.out)⟩
   have h_ := (Own65.setTo HOW.out _ _ GX.out (⟨v0_, v1_, v2_⟩ : S24)).row
   rw [List.length_set] at h_
   rw [← ER.out]
   exact h_
  have EQ := Aside0.mk c19
  clear c19
  have c190b0 : (t950 == 0) = true := beq_iff_eq.mpr EQ.out
  obtain ⟨gl, cap, eu_, hgl_, hown_⟩ := own65_open HO934.out C4.out
  cases eu_
  have HOW := Aside0.mk hown_
  have GE1 := Aside0.mk hgl_
  have GE2 := aK (Nat.le_trans HW0.out hgl_)
  have NBL : Aside0 (gl ≠ g) := aK (fun e_ => GNE.out (by rw [← e_]; exact hgl_))
  have NBG : Aside0 (g ≠ gl) := aK (Ne.symm NBL.out)
  clear hgl_ hown_ HO930 HO934
  have hT_ := HT.out
  rw [if_pos (Or.inl EQ.out)] at hT_
  obtain ⟨⟨v0_, v1_, v2_, v3_⟩, A20_, hT_⟩ := Option.bind_eq_some_iff.mp hT_
  have A20 := Aside0.mk A20_
  have hT2_ : some (spoilR t950 y932 t948 (⟨v0_, v1_, v2_⟩ : S24), v3_) = some (r1, r2) := hT_
  simp only [Option.some.injEq, Prod.mk.injEq] at hT2_
  obtain ⟨er_, rfl⟩ := hT2_
  rw [EQ.out] at er_
  have ER := Aside0.mk er_
  clear hT_ A20_ er_
  go_wp2_with (first | ((with_reducible refine gate_callee (f := 19) rfl ?_); refine gL (some 35) rfl Try.func19 #[.pointer (some ⟨g, 0, none⟩)] rfl ?_; (with_reducible refine (cc_Any.calls k g s0_0 t951 v0_ v1_ v2_ v3_ w0 _ ?side1 ?side2 A20.out).mono ?_); (case side1 => exact iX HI0.out); (case side2 => exact bS (IsS75.ge HI0.out)); rintro e w27 ⟨rfl, hi, hb, hk⟩; refine ⟨_, rfl, ?_⟩; have n0_ := aK (HOW.out.keep hk NBL.out); have n2_ := aK (KeepBut.trans kX hk (.inl rfl)); have n3_ := aK (hb); have n4_ := aK (hi); clear HOW HK HB HI0; have HOW := n0_; have HK := n2_; have HB := n3_; have HI0 := n4_; clear n0_ n2_ n3_ n4_; (try clear hb hk hi); obtain ⟨hz0_, hz1_, hz2_, hz3_, hz4_, hz5_, hz6_, hf0_, hf1_, hf2_, hf3_, hf4_, hf5_, hf6_⟩ := HOW.out.at_ t948.toNat _ GX.out))
  go_ret
  refine ⟨_, rfl, ?_, by repeat (first | (with_reducible first | exact HI0.out | apply IsS75.drew | refine IsS75.far ?_ NBG.out _) | exact HI0.out), by repeat (first | (with_reducible first | exact HB.out | apply below_drew1 | refine below_set ?_ GE2.out) | exact HB.out), by repeat (first | (with_reducible first | exact HK.out | apply keep_drew | refine keep_far ?_ GE1.out _) | exact HK.out)⟩
  have h_ := (Own65.setFrom HOW.out _ _ GX.out (⟨v0_, v1_, v2_⟩ : S24)).row
  rw [List.length_set] at h_
  rw [← ER.out]
  exact h_
 rw [if_pos c4] at H
 have c4b0 : ((y932.length : Int) == 0) = true := beq_iff_eq.mpr c4
 have c4b1 : ((y932.length : Int) != 0) = false := bne_eq_false_iff_eq.mpr c4
 clear c4
 obtain ⟨⟨t935, t936, t937, t938⟩, A5, H⟩ := oB H
 try dsimp only at H
 obtain ⟨⟨t939, t940, t941, t942⟩, A6, H⟩ := oB H
 try dsimp only at H
 obtain ⟨⟨t943, t944⟩, A7, H⟩ := oB H
 try dsimp only at H
 obtain ⟨y945, hy945⟩ : ∃ y_ : List (S65), y_ = (([(⟨(⟨t935, t936, t937⟩ : S24), (⟨t939, t940, t941⟩ : S24), t943⟩ : S65)] : List (S65))) := ⟨_, rfl⟩
 replace H : (some (y945, t944)) = some (r1, r2) := by first | (rw [hy945]; with_reducible exact H) | (have H2_ := (Option.bind_some _ _).symm.trans H; rw [hy945]; with_reducible exact H2_) | (have H2_ := (Option.bind_some _ _).symm.trans H; with_reducible exact H2_) | with_reducible exact H | (rw [hy945]; exact H) | exact H
 have Ny945 := Aside0.mk hy945
 clear hy945
 simp only [Option.some.injEq, Prod.mk.injEq] at H
 obtain ⟨rfl, rfl⟩ := H
 go_enter Try.func60, Try.ntmps60
 go_wp2_with (first | ((with_reducible refine gate_callee (f := 29) rfl ?_); refine gL (some 6) rfl Try.func29 #[.pointer (some ⟨g, 0, none⟩)] rfl ?_; (with_reducible refine (cc_Interval.calls k g s0_0 s0_1 t928 t931 w0 _ ?side1 ?side2 A2.out).mono ?_); (case side1 => exact iX HI0.out); (case side2 => exact bS (IsS75.ge HI0.out)); rintro e w8 ⟨v929, rfl, ho0, hi, hb, hk⟩; refine ⟨_, rfl, ?_⟩; have n0_ := aK (Kd.R_lower ho0 (keep_size (w := w) (g := g) (row := none) kX)); have n1_ := aK (KeepBut.trans kX hk (.inl rfl)); have n2_ := aK (hb); have n3_ := aK (hi); clear HK HB HI0; have HO930 := n0_; have HK := n1_; have HB := n2_; have HI0 := n3_; clear n0_ n1_ n2_ n3_; (try clear hb hk hi ho0); obtain ⟨Ao10, co10, eo10⟩ := Kd.R_slice HO930.out; subst eo10) | ((with_reducible refine gate_builtin (b := .append) (xs := #[(.const (.slice none 0 0)), .tmp 6]) rfl ?_); at_builtin; refine Kd.R_append_rows k65 w.heap.size rfl (.const (.slice none 0 0)) (.tmp 6) 36 65 (.agg #[(.int .i64 0), (.int .i64 0), (.string ⟨#[]⟩), (.int .i64 0), (.int .i64 0), (.string ⟨#[]⟩), (.bool false)]) 72 rfl Try.underlying36 info65 rfl (by decide) (by omega) (.slice none 0 0) ([] : List (S65)) t928 _ _ _ (fun k_ => some k_ ≠ (.slice Ao10 t928.length co10 : Value).ownBlock) (fun _ => False) rfl rfl ?aO ?aR (fun _ _ h => h) (fun _ h => h.elim) ?aF (Below.refl _ _) ?aS ?aL ?_; (case aR => exact cX (Kd.R_reads' HO930.out).2.2); (case aF => exact (fun k_ hk => Kd.fresh' (Kd.R_lt (rX HO930.out)) k_ hk)); (case aO => exact ((Kd.R_nil _ _ _ _ (fun k_ => some k_ ≠ (.slice Ao10 t928.length co10 : Value).ownBlock)))); (case aS => exact (keep_size (w := w) (g := g) (row := none) kX)); (case aL => have := LMc3.out; omega); intro v933 w9 ho hb hg hat; rw [← Ny932.out] at ho; have n0_ := aK (IsS75.grown (iX HI0.out) hg (by simp [Value.ownBlock])); have n1_ := aK (Kd.R_after (Kd.R_apart_nil (rX HO930.out)) hg hat); have n2_ := aK (below_weaken (bS (IsS75.ge HI0.out)) HL.out hb); have n3_ := aK (KeepBut.trans kX (KeepBut.of_grown hg g) (.inl (by simp [Value.ownBlock]))); have n4_ := aK (ho); clear HI0 HO930 HB HK; have HI0 := n0_; have HO930 := n1_; have HB := n2_; have HK := n3_; have HO934 := n4_; clear n0_ n1_ n2_ n3_ n4_ ho hb hg hat; obtain ⟨Ao11, co11, eo11⟩ := Kd.R_slice HO934.out; subst eo11) | ((with_reducible refine gate_callee (f := 19) rfl ?_); refine gL (some 12) rfl Try.func19 #[.pointer (some ⟨g, 0, none⟩)] rfl ?_; (with_reducible refine (cc_Any.calls k g s0_0 t931 t935 t936 t937 t938 w0 _ ?side1 ?side2 A5.out).mono ?_); (case side1 => exact iX HI0.out); (case side2 => exact bS (IsS75.ge HI0.out)); rintro e w12 ⟨rfl, hi, hb, hk⟩; refine ⟨_, rfl, ?_⟩; have n0_ := aK (Kd.R_mono (Kd.R_keep (IsS75.apart (show IsS75 w0 _ g s0_0 t931 from iX HI0.out) (rX HO930.out) (by decide)) hk (fun _ h => h.2)) (fun _ h => h.1)); have n1_ := aK (Kd.R_mono (Kd.R_keep (IsS75.apart (show IsS75 w0 _ g s0_0 t931 from iX HI0.out) (rX HO934.out) (by decide)) hk (fun _ h => h.2)) (fun _ h => h.1)); have n2_ := aK (KeepBut.trans kX hk (.inl rfl)); have n3_ := aK (hb); have n4_ := aK (hi); clear HO930 HO934 HK HB HI0; have HO930 := n0_; have HO934 := n1_; have HK := n2_; have HB := n3_; have HI0 := n4_; clear n0_ n1_ n2_ n3_ n4_; (try clear hb hk hi)) | ((with_reducible refine gate_callee (f := 19) rfl ?_); refine gL (some 14) rfl Try.func19 #[.pointer (some ⟨g, 0, none⟩)] rfl ?_; (with_reducible refine (cc_Any.calls k g s0_0 t938 t939 t940 t941 t942 w0 _ ?side1 ?side2 A6.out).mono ?_); (case side1 => exact iX HI0.out); (case side2 => exact bS (IsS75.ge HI0.out)); rintro e w13 ⟨rfl, hi, hb, hk⟩; refine ⟨_, rfl, ?_⟩; have n0_ := aK (Kd.R_mono (Kd.R_keep (IsS75.apart (show IsS75 w0 _ g s0_0 t938 from iX HI0.out) (rX HO930.out) (by decide)) hk (fun _ h => h.2)) (fun _ h => h.1)); have n1_ := aK (Kd.R_mono (Kd.R_keep (IsS75.apart (show IsS75 w0 _ g s0_0 t938 from iX HI0.out) (rX HO934.out) (by decide)) hk (fun _ h => h.2)) (fun _ h => h.1)); have n2_ := aK (KeepBut.trans kX hk (.inl rfl)); have n3_ := aK (hb); have n4_ := aK (hi); clear HO930 HO934 HK HB HI0; have HO930 := n0_; have HO934 := n1_; have HK := n2_; have HB := n3_; have HI0 := n4_; clear n0_ n1_ n2_ n3_ n4_; (try clear hb hk hi)) | ((with_reducible refine gate_callee (f := 76) rfl ?_); refine gL (some 16) rfl Try.func76 #[.pointer (some ⟨g, 0, none⟩), .int .i64 2] rfl ?_; (with_reducible refine (cc_Bool.calls g s0_0 t942 2 t943 t944 w0 _ ?side1 ?side2 A7.out).mono ?_); (case side1 => exact iX HI0.out); (case side2 => exact bS (IsS75.ge HI0.out)); rintro e w14 ⟨rfl, hi, hb, hk⟩; refine ⟨_, rfl, ?_⟩; have n0_ := aK (Kd.R_mono (Kd.R_keep (IsS75.apart (show IsS75 w0 _ g s0_0 t942 from iX HI0.out) (rX HO930.out) (by decide)) hk (fun _ h => h.2)) (fun _ h => h.1)); have n1_ := aK (Kd.R_mono (Kd.R_keep (IsS75.apart (show IsS75 w0 _ g s0_0 t942 from iX HI0.out) (rX HO934.out) (by decide)) hk (fun _ h => h.2)) (fun _ h => h.1)); have n2_ := aK (KeepBut.trans kX hk (.inl rfl)); have n3_ := aK (hb); have n4_ := aK (hi); clear HO930 HO934 HK HB HI0; have HO930 := n0_; have HO934 := n1_; have HK := n2_; have HB := n3_; have HI0 := n4_; clear n0_ n1_ n2_ n3_ n4_; (try clear hb hk hi)) | ((with_reducible refine gate_dst (N := 18) rfl ?_); refine Kd.R_lit k65 _ 65 ?hg (N := 18) ?hd (xs := ([(⟨(⟨t935, t936, t937⟩ : S24), (⟨t939, t940, t941⟩ : S24), t943⟩ : S65)] : List (S65))) (inner := [.int .i64 t935, .int .i64 t936, .string t937, .int .i64 t939, .int .i64 t940, .string t941, .bool t943]) (ok := fun _ => True) (okp := fun _ => True) ?hr ?hp (fun _ hk => hk) trivial (Below.refl _ _) (Nat.le_refl _) (by simp) ?_; (case hd => rfl); (case hg => rfl); (case hr => exact hR); (case hp => exact (Reps.c7 (show Kd.M k65 _ _ _ (⟨(⟨t935, t936, t937⟩ : S24), (⟨t939, t940, t941⟩ : S24), t943⟩ : S65) [.int .i64 t935, .int .i64 t936, .string t937, .int .i64 t939, .int .i64 t940, .string t941, .bool t943] from (k65_mkM _ _ _ (⟨(⟨t935, t936, t937⟩ : S24), (⟨t939, t940, t941⟩ : S24), t943⟩ : S65) )) (Reps.none _ _))); intro v946 w15 ho16 hb hg_ hnew_; clear hg_ hnew_; (first | rw [← Ny945.out] at ho16 | (simp only [Int.reduceToNat] at ho16; rw [← Ny945.out] at ho16)); have n0_ := aK (Kd.R_elder' (rX HO930.out) (Kd.R_base ho16) hb); have n1_ := aK (Kd.R_elder' (rX HO934.out) (Kd.R_base ho16) hb); have n2_ := aK (Kd.R_lower (Kd.R_new' (Kd.R_new' ho16 (Kd.R_lt (rX HO930.out))) (Kd.R_lt (rX HO934.out))) (keep_size (w := w) (g := g) (row := none) kX)); have n3_ := aK (IsS75.below (iX HI0.out) hb); have n4_ := aK (KeepBut.trans kX (KeepBut.of_below hb g none) (.inl rfl)); have n5_ := aK (below_step (bS (IsS75.ge HI0.out)) hb); clear HO930 HO934 HI0 HK HB; have HO930 := n0_; have HO934 := n1_; have HO947 := n2_; have HI0 := n3_; have HK := n4_; have HB := n5_; clear n0_ n1_ n2_ n3_ n4_ n5_ hb ho16))
 go_ret
 exact ⟨_, eW, by (with_reducible repeat (first | apply Kd.R_alloc | apply Kd.R_drewN | apply Kd.R_drew)); exact Kd.R_mono HO947.out (fun _ hk => trivial), iX HI0.out, bS (IsS75.ge HI0.out), kX⟩
end Go.Proofs.Ytpjcdacnhalclaa.Q
