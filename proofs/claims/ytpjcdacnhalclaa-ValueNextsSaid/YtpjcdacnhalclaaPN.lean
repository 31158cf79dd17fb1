/- Function PN of the translation: what its call computes. -/
import Derived.Test.YtpjcdacnhalclaaK0
import Derived.Test.YtpjcdacnhalclaaF21
import Derived.Test.YtpjcdacnhalclaaF23
import Derived.Test.YtpjcdacnhalclaaF27
import Derived.Test.YtpjcdacnhalclaaF28
import Derived.Test.YtpjcdacnhalclaaF49
import Derived.Test.YtpjcdacnhalclaaOrd
import Derived.Test.YtpjcdacnhalclaaPV
import Derived.Lib.Bytes
import Derived.Test.YtpjcdacnhalclaaPV
namespace Go.Proofs.Ytpjcdacnhalclaa.Q
open Go.RowKit Go.Proofs.YtpjcdacnhalclaaW.PrintWords Go.Proofs.YtpjcdacnhalclaaW.PrintLast Go.Proofs.YtpjcdacnhalclaaW.PrintMore
attribute [local go_sem] max2_int min2_int max_two min_two max_three min_three max_four min_four
set_option linter.unusedVariables false
set_option linter.unusedSimpArgs false
/-! ### the pure side: the value behind a value -/
theorem lt_succ0 : ∀ c q : List UInt8, c < q → q < c ++ [0] → False
  | [], [], h, _ => absurd h (by simp)
  | [], y :: ys, _, h => by
    rw [List.nil_append, List.cons_lt_cons_iff] at h
    rcases h with h | ⟨_, h⟩
    · have := UInt8.lt_iff_toNat_lt.1 h
      have e0 : (0 : UInt8).toNat = 0 := rfl
      omega
    · exact absurd h (List.not_lt_nil _)
  | x :: c, [], h, _ => absurd h (List.not_lt_nil _)
  | x :: c, y :: q, h, k => by
    rw [List.cons_append, List.cons_lt_cons_iff] at k
    rw [List.cons_lt_cons_iff] at h
    rcases h with h | ⟨e, h⟩
    · have h1 := UInt8.lt_iff_toNat_lt.1 h
      rcases k with k | ⟨e', k⟩
      · have h2 := UInt8.lt_iff_toNat_lt.1 k
        omega
      · subst e'; omega
    · subst e
      rcases k with k | ⟨_, k⟩
      · exact absurd (UInt8.lt_iff_toNat_lt.1 k) (Nat.lt_irrefl _)
      · exact lt_succ0 c q h k
theorem lt_rep : ∀ (m : Nat) (q : List UInt8), q.length ≤ m → List.replicate m 255 < q → False
  | m, [], _, h => List.not_lt_nil _ h
  | 0, _ :: _, hl, _ => by simp at hl
  | m + 1, y :: q, hl, h => by
    rw [List.replicate_succ, List.cons_lt_cons_iff] at h
    rcases h with h | ⟨_, h⟩
    · have h1 := UInt8.lt_iff_toNat_lt.1 h
      have h2 := y.toNat_lt
      have e : (255 : UInt8).toNat = 255 := rfl
      omega
    · exact lt_rep m q (by simpa using hl) h
theorem toNat_succ {v : UInt8} (h : v ≠ 255) : (v + 1).toNat = v.toNat + 1 := by
  have h1 : v.toNat ≠ 255 := fun e => h (UInt8.toNat_inj.1 e)
  have h2 := v.toNat_lt
  rw [UInt8.toNat_add]
  have e : (1 : UInt8).toNat = 1 := rfl
  omega
theorem lt_stop (v : UInt8) (hv : v ≠ 255) (m : Nat) : ∀ (p q : List UInt8), q.length ≤ p.length + (m + 1) → p ++ v :: List.replicate m 255 < q → q < p ++ [v + 1] → False
  | p, [], _, h, _ => List.not_lt_nil _ h
  | [], y :: q, hl, h, k => by
    rw [List.nil_append, List.cons_lt_cons_iff] at h k
    have hs := toNat_succ hv
    rcases k with k | ⟨_, k⟩
    · have h2 := UInt8.lt_iff_toNat_lt.1 k
      rcases h with h | ⟨_, h⟩
      · have h1 := UInt8.lt_iff_toNat_lt.1 h
        omega
      · exact lt_rep m q (by simp only [List.length_cons, List.length_nil] at hl; omega) h
    · exact List.not_lt_nil _ k
  | x :: p, y :: q, hl, h, k => by
    rw [List.cons_append, List.cons_lt_cons_iff] at h k
    rcases h with h | ⟨e, h⟩
    · have h1 := UInt8.lt_iff_toNat_lt.1 h
      rcases k with k | ⟨e', k⟩
      · have h2 := UInt8.lt_iff_toNat_lt.1 k
        omega
      · subst e'; omega
    · subst e
      rcases k with k | ⟨_, k⟩
      · exact absurd (UInt8.lt_iff_toNat_lt.1 k) (Nat.lt_irrefl _)
      · exact lt_stop v hv m p q (by simp only [List.length_cons] at hl; omega) h k
theorem lt_app (p : List UInt8) (a b : List UInt8) (h : a < b) : p ++ a < p ++ b := by
  induction p with
  | nil => exact h
  | cons x p ih => exact List.cons_lt_cons_iff.2 (.inr ⟨rfl, ih⟩)
theorem lt_snoc (c : List UInt8) : c < c ++ [0] := by
  have := lt_app c [] [0] (by decide)
  rwa [List.append_nil] at this
theorem bt_data (c : ByteArray) (n : Nat) (h : n < c.size) : bt c (n : Int) = ((c.toList[n]'(by rw [Go.Lib.toList_data]; exact h)).toNat : Int) := by
  have hh : ((n : Int)).toNat < c.size := by simpa using h
  rw [← bt_at c n hh]
  simp only [Go.Lib.toList_data]
  rfl
theorem toList_len (c : ByteArray) : c.toList.length = c.size := by rw [Go.Lib.toList_data]; rfl
theorem value_Next.l0_is (a b : Int) (c : ByteArray) (hc : c.size < 4611686018427387904) : ∀ (n k : Nat), n ≤ c.size → n < k → c.toList.drop n = List.replicate (c.size - n) 255 →
    (value_Next.l0 k n a b c = some (0, 0, ⟨#[]⟩, false) ∧ c.toList = List.replicate c.size 255) ∨
    ∃ p v m t, c.toList = p ++ v :: List.replicate m 255 ∧ v ≠ 255 ∧ ByteArray.toList t = p ++ [v + 1] ∧ value_Next.l0 k n a b c = some (5, 0, t, true) := by
  intro n
  induction n with
  | zero =>
    intro k _ hk hd
    obtain ⟨k, rfl⟩ : ∃ j, k = j + 1 := ⟨k - 1, by omega⟩
    left
    refine ⟨?_, by simpa using hd⟩
    rw [value_Next.l0]
    rw [if_neg (by omega), if_pos (by omega)]
  | succ n ih =>
    intro k hn hk hd
    obtain ⟨k, rfl⟩ : ∃ j, k = j + 1 := ⟨k - 1, by omega⟩
    have hw : wrap64 (((n + 1 : Nat) : Int) - 1) = (n : Int) := by unfold wrap64; omega
    have hl : n < c.toList.length := by rw [toList_len]; omega
    have hdn : c.toList.drop n = c.toList[n] :: c.toList.drop (n + 1) := List.drop_eq_getElem_cons hl
    have hb := bt_data c n (by omega)
    rw [value_Next.l0, hw, if_pos (by omega), if_pos (by omega), if_pos (by omega)]
    by_cases hv : c.toList[n] = 255
    · have e255 : (255 : UInt8).toNat = 255 := rfl
      rw [if_pos (by rw [hb, hv, e255]; rfl)]
      refine ih k (by omega) (by omega) ?_
      rw [hdn, hv, hd, show c.size - n = (c.size - (n + 1)) + 1 by omega, List.replicate_succ]
    · have hv' : ¬ bt c (n : Int) = 255 := by
        rw [hb]
        intro e
        exact hv (UInt8.toNat_inj.1 (show _ = (255 : UInt8).toNat from by have e255 : (255 : UInt8).toNat = 255 := rfl; omega))
      rw [if_neg hv', if_neg (by omega), if_pos (by omega)]
      right
      have hsz : (c.extract 0 ((n : Int)).toNat).size = n := by rw [ByteArray.size_extract]; simp; omega
      have hst : (strOfNums [((bt c (n : Int)) + 1) % 256]).size = 1 := rfl
      refine ⟨c.toList.take n, c.toList[n], c.size - (n + 1), c.extract 0 ((n : Int)).toNat ++ strOfNums [((bt c (n : Int)) + 1) % 256], ?_, hv, ?_, ?_⟩
      · rw [← hd, ← hdn, List.take_append_drop]
      · have h1 : (c.extract 0 ((n : Int)).toNat ++ strOfNums [((bt c (n : Int)) + 1) % 256]).toList = (c.extract 0 ((n : Int)).toNat).toList ++ (strOfNums [((bt c (n : Int)) + 1) % 256]).toList := by
          simp only [Go.Lib.toList_data, ByteArray.data_append, Array.toList_append]
        rw [h1, Go.Lib.strOfNums_toList]
        congr 1
        · simp only [Go.Lib.toList_data, ByteArray.data_extract, Array.toList_extract]
          simp
        · rw [hb]
          show [UInt8.ofNat _] = _
          congr 1
          apply UInt8.toNat_inj.1
          rw [toNat_succ hv, UInt8.toNat_ofNat']
          have h2 := (c.toList[n]).toNat_lt
          have h3 : (c.toList[n]).toNat ≠ 255 := fun e => hv (UInt8.toNat_inj.1 e)
          omega
      · simp only [Option.bind_some]
        rw [if_pos (by omega)]
theorem partsyncref01_Next.l0_same : ∀ (k : Nat) (n a b : Int) (c : ByteArray), partsyncref01_Next.l0 k n a b c = value_Next.l0 k n a b c
  | 0, _, _, _, _ => rfl
  | k + 1, n, a, b, c => by
    rw [partsyncref01_Next.l0, value_Next.l0]
    simp only [partsyncref01_Next.l0_same k]
/-- What the value behind a value is. -/
structure NextOk (x y : S24) : Prop where
  valid : validV y.f0 y.f1 y.f2 = true
  lo : -9223372036854775808 ≤ y.f1
  hi : y.f1 ≤ 9223372036854775807
  up : ltV x y
  none : ∀ q : S24, validV q.f0 q.f1 q.f2 = true → -9223372036854775808 ≤ q.f1 → q.f1 ≤ 9223372036854775807 → ltV x q → ltV q y → False
theorem validV_kind {x : S24} (h : validV x.f0 x.f1 x.f2 = true) : 1 ≤ x.f0 ∧ x.f0 ≤ 5 := by
  unfold validV at h
  by_cases h1 : x.f0 = 1 ∨ x.f0 = 2
  · omega
  · rw [if_neg h1] at h
    by_cases h3 : x.f0 = 3
    · omega
    · rw [if_neg h3] at h
      by_cases h4 : x.f0 = 4
      · omega
      · rw [if_neg h4] at h
        by_cases h5 : x.f0 = 5
        · omega
        · rw [if_neg h5] at h; exact absurd h (by decide)
theorem nil_of_toList {c : ByteArray} (h : c.toList = []) : c = ⟨#[]⟩ := by
  rw [Go.Lib.toList_data] at h
  cases c with | mk d => cases d with | mk l => cases h; rfl
theorem validV_cases {a b : Int} {c : ByteArray} (h : validV a b c = true) : ((a = 1 ∨ a = 2) ∧ b = 0 ∧ c = ⟨#[]⟩) ∨ (a = 3 ∧ (b = 0 ∨ b = 1) ∧ c = ⟨#[]⟩) ∨ (a = 4 ∧ c = ⟨#[]⟩) ∨ (a = 5 ∧ b = 0 ∧ c.size ≤ 64) := by
  unfold validV at h
  by_cases h1 : a = 1 ∨ a = 2
  · rw [if_pos h1] at h
    simp only [Bool.and_eq_true, beq_iff_eq] at h
    exact .inl ⟨h1, h.1, nil_of_toList h.2⟩
  · rw [if_neg h1] at h
    by_cases h3 : a = 3
    · rw [if_pos h3] at h
      simp only [Bool.and_eq_true, Bool.or_eq_true, beq_iff_eq] at h
      exact .inr (.inl ⟨h3, h.1, nil_of_toList h.2⟩)
    · rw [if_neg h3] at h
      by_cases h4 : a = 4
      · rw [if_pos h4] at h
        simp only [beq_iff_eq] at h
        exact .inr (.inr (.inl ⟨h4, nil_of_toList h⟩))
      · rw [if_neg h4] at h
        by_cases h5 : a = 5
        · rw [if_pos h5] at h
          simp only [Bool.and_eq_true, beq_iff_eq, decide_eq_true_eq] at h
          exact .inr (.inr (.inr ⟨h5, h.1, by omega⟩))
        · rw [if_neg h5] at h; exact absurd h (by decide)
theorem validV_low {a b : Int} (h : ((a = 1 ∨ a = 2) ∧ b = 0) ∨ (a = 3 ∧ (b = 0 ∨ b = 1)) ∨ a = 4 ∨ (a = 5 ∧ b = 0)) : validV a b ⟨#[]⟩ = true := by
  unfold validV
  rw [toListE]
  rcases h with ⟨h1 | h1, h2⟩ | ⟨h1, h2 | h2⟩ | h1 | ⟨h1, h2⟩ <;> subst h1 <;> (try subst h2) <;> first | (simp; done) | (simp; decide)
theorem validV_text {c : ByteArray} (h : c.size ≤ 64) : validV 5 0 c = true := by
  unfold validV
  simp; omega
theorem ltV_top {q y : S24} (hy : y.f2 = ⟨#[]⟩) (h : ltV q y) : q.f0 < y.f0 ∨ (q.f0 = y.f0 ∧ q.f1 < y.f1) := by
  rcases h with h | ⟨e, h | ⟨e', h⟩⟩
  · exact .inl h
  · exact .inr ⟨e, h⟩
  · rw [hy, toListE] at h
    exact absurd h (List.not_lt_nil _)
/-- The value behind one that is no text. -/
theorem NextOk.low {x y : S24} (hx : x.f0 ≤ 4) (hy : y.f2 = ⟨#[]⟩) (hv : validV y.f0 y.f1 y.f2 = true) (lo : -9223372036854775808 ≤ y.f1) (hi : y.f1 ≤ 9223372036854775807) (up : x.f0 < y.f0 ∨ (x.f0 = y.f0 ∧ x.f1 < y.f1))
    (no : ∀ a b : Int, (((a = 1 ∨ a = 2) ∧ b = 0) ∨ (a = 3 ∧ (b = 0 ∨ b = 1)) ∨ a = 4 ∨ (a = 5 ∧ b = 0)) → -9223372036854775808 ≤ b → b ≤ 9223372036854775807 → (x.f0 < a ∨ (x.f0 = a ∧ x.f1 < b)) → (a < y.f0 ∨ (a = y.f0 ∧ b < y.f1)) → False) : NextOk x y where
  valid := hv
  lo := lo
  hi := hi
  up := by rcases up with h | ⟨e, h⟩; exact .inl h; exact .inr ⟨e, .inl h⟩
  none := by
    intro q hq l h h1 h2
    have h2 := ltV_top hy h2
    rcases validV_cases hq with hc | hc | hc | hc
    · exact no q.f0 q.f1 (.inl ⟨hc.1, hc.2.1⟩) l h (ltV_top hc.2.2 h1) h2
    · exact no q.f0 q.f1 (.inr (.inl ⟨hc.1, hc.2.1⟩)) l h (ltV_top hc.2.2 h1) h2
    · exact no q.f0 q.f1 (.inr (.inr (.inl hc.1))) l h (ltV_top hc.2 h1) h2
    · exact no q.f0 q.f1 (.inr (.inr (.inr ⟨hc.1, hc.2.1⟩))) l h (.inl (by omega)) h2
theorem NextOk.text {c d : ByteArray} (hd : d.size ≤ 64) (up : c.toList < d.toList) (no : ∀ q : List UInt8, q.length ≤ 64 → c.toList < q → q < d.toList → False) : NextOk ⟨5, 0, c⟩ ⟨5, 0, d⟩ where
  valid := validV_text hd
  lo := by show (-9223372036854775808 : Int) ≤ 0; omega
  hi := by show (0 : Int) ≤ _; omega
  up := .inr ⟨rfl, .inr ⟨rfl, up⟩⟩
  none := by
    intro q hq l h h1 h2
    rcases h1 with h1 | ⟨e, h1⟩
    · have h3 := validV_kind hq
      have : (5 : Int) < q.f0 := h1
      omega
    · have e : (5 : Int) = q.f0 := e
      rcases validV_cases hq with hc | hc | hc | hc
      · omega
      · omega
      · omega
      · rcases h1 with h1 | ⟨_, h1⟩
        · have : (0 : Int) < q.f1 := h1
          omega
        · rcases h2 with h2 | ⟨_, h2⟩
          · have : q.f0 < (5 : Int) := h2
            omega
          · rcases h2 with h2 | ⟨_, h2⟩
            · have : q.f1 < (0 : Int) := h2
              omega
            · exact no q.f2.toList (by rw [toList_len]; exact hc.2.2) h1 h2
theorem value_Next.not {a b : Int} {c : ByteArray} (h : validV a b c = false) : Ev (fun k => value_Next.f k a b c) (0, 0, ⟨#[]⟩, false) := by
  refine Ev.bind (value_Valid.ev a b c) ?_
  simp only [h]
  exact Ev.now _
theorem partsyncref01_Next.not {a b : Int} {c : ByteArray} (h : validV a b c = false) : Ev (fun k => partsyncref01_Next.f k a b c) (0, 0, ⟨#[]⟩, false) := by
  refine Ev.bind (partsyncref01_Valid.ev a b c) ?_
  simp only [h]
  exact Ev.now _
theorem firstEv (g : Int) {a b : Int} {c : ByteArray} {d : Bool} (h : firstV g = (a, b, c, d)) : Ev (fun k => (value_First.f k g).bind fun bt => some (bt.1, bt.2.1, bt.2.2.1, bt.2.2.2)) (a, b, c, d) := by
  refine Ev.bind (value_First.ev g) ?_
  rw [h]
  exact Ev.now _
theorem value_Next.ok (x : S24) (hv : validV x.f0 x.f1 x.f2 = true) (lo : -9223372036854775808 ≤ x.f1) (hi : x.f1 ≤ 9223372036854775807) :
    (∃ y, NextOk x y ∧ Ev (fun k => value_Next.f k x.f0 x.f1 x.f2) (y.f0, y.f1, y.f2, true) ∧ Ev (fun k => partsyncref01_Next.f k x.f0 x.f1 x.f2) (y.f0, y.f1, y.f2, true)) ∨
    ((x.f0 = 5 ∧ x.f1 = 0 ∧ x.f2.toList = List.replicate 64 255) ∧ Ev (fun k => value_Next.f k x.f0 x.f1 x.f2) (0, 0, ⟨#[]⟩, false) ∧ Ev (fun k => partsyncref01_Next.f k x.f0 x.f1 x.f2) (0, 0, ⟨#[]⟩, false)) := by
  obtain ⟨a, b, c⟩ := x
  dsimp only at hv lo hi ⊢
  have evV : ∀ {f : Nat → Bool → Option (Int × Int × ByteArray × Bool)} {r}, Ev (fun n => f n true) r → Ev (fun k => (value_Valid.f k a b c).bind (f k)) r := fun hf => Ev.bind (value_Valid.ev a b c) (by rw [hv]; exact hf)
  have evR : ∀ {f : Nat → Bool → Option (Int × Int × ByteArray × Bool)} {r}, Ev (fun n => f n true) r → Ev (fun k => (partsyncref01_Valid.f k a b c).bind (f k)) r := fun hf => Ev.bind (partsyncref01_Valid.ev a b c) (by rw [hv]; exact hf)
  rcases validV_cases hv with ⟨h1 | h1, h2, h3⟩ | ⟨h1, h2 | h2, h3⟩ | ⟨h1, h3⟩ | ⟨h1, h2, h3⟩
  · subst h1 h2 h3
    refine .inl ⟨⟨2, 0, ⟨#[]⟩⟩, NextOk.low (by simp) rfl (validV_low (by dsimp only; omega)) (by simp) (by simp) (by simp) (by intro a b; dsimp only; omega), evV ?_, evR ?_⟩
    · exact firstEv 2 rfl
    · exact Ev.now _
  · subst h1 h2 h3
    refine .inl ⟨⟨3, 0, ⟨#[]⟩⟩, NextOk.low (by simp) rfl (validV_low (by dsimp only; omega)) (by simp) (by simp) (by simp) (by intro a b; dsimp only; omega), evV ?_, evR ?_⟩
    · exact firstEv 3 rfl
    · exact Ev.now _
  · subst h1 h2 h3
    refine .inl ⟨⟨3, 1, ⟨#[]⟩⟩, NextOk.low (by simp) rfl (validV_low (by dsimp only; omega)) (by simp) (by simp) (by simp) (by intro a b; dsimp only; omega), evV ?_, evR ?_⟩
    · exact Ev.now _
    · exact Ev.now _
  · subst h1 h2 h3
    refine .inl ⟨⟨4, -9223372036854775808, ⟨#[]⟩⟩, NextOk.low (by simp) rfl (validV_low (by dsimp only; omega)) (by simp) (by simp) (by simp) (by intro a b; dsimp only; omega), evV ?_, evR ?_⟩
    · exact firstEv 4 rfl
    · exact Ev.now _
  · subst h1 h3
    by_cases hm : b = 9223372036854775807
    · subst hm
      refine .inl ⟨⟨5, 0, ⟨#[]⟩⟩, NextOk.low (by simp) rfl (validV_low (by dsimp only; omega)) (by simp) (by simp) (by simp) (by intro a b; dsimp only; omega), evV ?_, evR ?_⟩
      · exact firstEv 5 rfl
      · exact Ev.now _
    · have hw : wrap64 (b + 1) = b + 1 := by unfold wrap64; omega
      refine .inl ⟨⟨4, b + 1, ⟨#[]⟩⟩, NextOk.low (by simp) rfl (validV_low (by dsimp only; omega)) (by dsimp only; omega) (by dsimp only; omega) (by dsimp only; omega) (by intro a b'; dsimp only; omega), evV ?_, evR ?_⟩
      · simp only [hm, hw]
        exact Ev.now _
      · have hm' : b < 9223372036854775807 := by omega
        simp only [hm', hw]
        exact Ev.now _
  · subst h1 h2
    by_cases hs : c.size < 64
    · have e0 : (c ++ (⟨#[0]⟩ : ByteArray)).toList = c.toList ++ [0] := by simp only [Go.Lib.toList_data, ByteArray.data_append, Array.toList_append]
      have hsz := size_push_ c 0
      refine .inl ⟨⟨5, 0, c ++ ⟨#[0]⟩⟩, NextOk.text (by omega) (by rw [e0]; exact lt_snoc _) (by rw [e0]; exact fun q _ h1 h2 => lt_succ0 _ _ h1 h2), evV ?_, evR ?_⟩
      · have c1 : (c.size : Int) < 64 := by omega
        have c2 : c.size + 1 ≤ 9223372036854775807 := by omega
        simp only [c1, c2]
        exact Ev.now _
      · have c1 : (c.size : Int) < 64 := by omega
        have c2 : c.size + 1 ≤ 9223372036854775807 := by omega
        simp only [c1, c2]
        exact Ev.now _
    · have hs64 : c.size = 64 := by omega
      have c1 : ¬ (c.size : Int) < 64 := by omega
      have hlen := toList_len c
      have red : ∀ {r}, (∀ k, c.size < k → value_Next.l0 k (c.size : Int) 5 0 c = some r) → Ev (fun k => value_Next.f k 5 0 c) r ∧ Ev (fun k => partsyncref01_Next.f k 5 0 c) r := by
        intro r hr
        refine ⟨evV ?_, evR ?_⟩
        · simp only [c1]
          exact ⟨c.size + 1, fun k hk => hr k (by omega)⟩
        · simp only [c1, partsyncref01_Next.l0_same]
          exact ⟨c.size + 1, fun k hk => hr k (by omega)⟩
      have hst : c.toList.drop c.size = List.replicate (c.size - c.size) 255 := by
        rw [Nat.sub_self, List.replicate_zero, List.drop_eq_nil_iff, hlen]
        exact Nat.le_refl _
      rcases value_Next.l0_is 5 0 c (by omega) c.size (c.size + 1) (Nat.le_refl _) (by omega) hst with ⟨hr, hl⟩ | ⟨p, v, m, t, hl, hv, ht, hr⟩
      · refine .inr ⟨⟨rfl, rfl, by rw [hl, hs64]⟩, red ?_⟩
        intro k hk
        exact at_rounds (fun k => value_Next.mono_l k _ _ _ _) hk hr
      · have hlp : p.length + (m + 1) = 64 := by
          have := congrArg List.length hl
          rw [hlen, List.length_append, List.length_cons, List.length_replicate] at this
          omega
        refine .inl ⟨⟨5, 0, t⟩, NextOk.text ?_ ?_ ?_, red ?_⟩
        · rw [← toList_len, ht]; simp; omega
        · rw [hl, ht]
          refine lt_app p _ _ (List.cons_lt_cons_iff.2 (.inl ?_))
          apply UInt8.lt_iff_toNat_lt.2
          rw [toNat_succ hv]; omega
        · rw [hl, ht]
          intro q hq h1 h2
          exact lt_stop v hv m p q (by omega) h1 h2
        · intro k hk
          exact at_rounds (fun k => value_Next.mono_l k _ _ _ _) hk hr
end Go.Proofs.Ytpjcdacnhalclaa.Q
