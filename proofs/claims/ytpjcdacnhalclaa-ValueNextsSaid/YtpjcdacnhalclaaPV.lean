/- Function PV of the translation: what its call computes. -/
import Derived.Test.YtpjcdacnhalclaaK0
import Derived.Test.YtpjcdacnhalclaaF18
import Derived.Test.YtpjcdacnhalclaaF19
import Derived.Test.YtpjcdacnhalclaaF21
import Derived.Test.YtpjcdacnhalclaaF22
import Derived.Test.YtpjcdacnhalclaaF23
import Derived.Test.YtpjcdacnhalclaaF24
import Derived.Test.YtpjcdacnhalclaaF49
import Derived.Test.YtpjcdacnhalclaaF73
import Derived.Test.YtpjcdacnhalclaaF74
import Derived.Test.YtpjcdacnhalclaaF76
import Derived.Test.YtpjcdacnhalclaaF94
import Derived.Test.YtpjcdacnhalclaaF95
import Derived.Lib.Bytes
namespace Go.Proofs.Ytpjcdacnhalclaa.Q
open Go.RowKit Go.Proofs.YtpjcdacnhalclaaW.PrintWords Go.Proofs.YtpjcdacnhalclaaW.PrintLast Go.Proofs.YtpjcdacnhalclaaW.PrintMore
attribute [local go_sem] max2_int min2_int max_two min_two max_three min_three max_four min_four
set_option linter.unusedVariables false
set_option linter.unusedSimpArgs false
/-! ### the pure side: which values are valid, the least ones, the cases' numbers -/
def validV (a b : Int) (c : ByteArray) : Bool := if a = 1 ∨ a = 2 then (b == 0 && (c.toList == ([] : List UInt8))) else if a = 3 then ((b == 0 || b == 1) && (c.toList == ([] : List UInt8))) else if a = 4 then (c.toList == ([] : List UInt8)) else if a = 5 then (b == 0 && decide ((c.size : Int) ≤ 64)) else false
theorem value_Valid.some_ (k : Nat) (a b : Int) (c : ByteArray) : value_Valid.f (k + 1) a b c = some (validV a b c) := by
  unfold value_Valid.f validV
  by_cases h1 : a = 1
  · subst h1; simp [value_Valid.j0]
  · rw [if_neg h1]
    by_cases h2 : a = 2
    · subst h2; simp [value_Valid.j0]
    · have h2b : (a == 2) = false := beq_eq_false_iff_ne.2 h2
      simp only [value_Valid.j0, h2b, h1, h2, or_self, if_false]
      by_cases h3 : a = 3
      · subst h3
        by_cases hb : b = 0
        · simp [hb]
        · by_cases hb1 : b = 1
          · simp [hb1]
          · simp [hb, hb1]
      · by_cases h4 : a = 4
        · subst h4; simp
        · by_cases h5 : a = 5
          · subst h5
            by_cases hb : b = 0
            · simp [hb]
            · simp [hb]
          · simp [h3, h4, h5]
theorem partsyncref01_Valid.some_ (k : Nat) (a b : Int) (c : ByteArray) : partsyncref01_Valid.f (k + 1) a b c = some (validV a b c) := by
  unfold partsyncref01_Valid.f validV
  by_cases h1 : a = 1
  · subst h1
    by_cases hb : b = 0
    · simp [partsyncref01_Valid.j0, hb]
    · simp [partsyncref01_Valid.j0, hb]
  · rw [if_neg h1]
    by_cases h2 : a = 2
    · subst h2
      by_cases hb : b = 0
      · simp [partsyncref01_Valid.j0, hb]
      · simp [partsyncref01_Valid.j0, hb]
    · have h2b : (a == 2) = false := beq_eq_false_iff_ne.2 h2
      simp only [partsyncref01_Valid.j0, h2b, h1, h2, or_self, if_false]
      by_cases h3 : a = 3
      · subst h3
        by_cases hb : b = 0
        · simp [hb]
        · by_cases hb1 : b = 1
          · simp [hb1]
          · simp [hb, hb1]
      · by_cases h4 : a = 4
        · subst h4; simp
        · by_cases h5 : a = 5
          · subst h5
            by_cases hb : b = 0
            · simp [hb]
            · simp [hb]
          · simp [h3, h4, h5]
theorem ev_of_succ {α : Type} {g : Nat → Option α} {r : α} (h : ∀ k, g (k + 1) = some r) : Ev g r := ⟨1, fun k hk => by obtain ⟨j, rfl⟩ : ∃ j, k = j + 1 := ⟨k - 1, by omega⟩; exact h j⟩
theorem value_Valid.ev (a b : Int) (c : ByteArray) : Ev (fun k => value_Valid.f k a b c) (validV a b c) := ev_of_succ fun k => value_Valid.some_ k a b c
theorem partsyncref01_Valid.ev (a b : Int) (c : ByteArray) : Ev (fun k => partsyncref01_Valid.f k a b c) (validV a b c) := ev_of_succ fun k => partsyncref01_Valid.some_ k a b c
def realV (a b : Int) (c : ByteArray) : Bool := validV a b c && decide (a ≥ 3)
theorem value_Real.ev (a b : Int) (c : ByteArray) : Ev (fun k => value_Real.f k a b c) (realV a b c) := by
  refine ev_of_succ fun k => ?_
  unfold value_Real.f realV
  rw [value_Valid.some_, Option.bind_some]
  cases validV a b c <;> simp
theorem partsyncref01_Real.ev (a b : Int) (c : ByteArray) : Ev (fun k => partsyncref01_Real.f k a b c) (realV a b c) := by
  refine ev_of_succ fun k => ?_
  unfold partsyncref01_Real.f realV
  rw [partsyncref01_Valid.some_, Option.bind_some]
  cases validV a b c <;> simp
def firstV (a : Int) : Int × Int × ByteArray × Bool := if a = 1 ∨ a = 2 ∨ a = 3 ∨ a = 5 then (a, 0, ⟨#[]⟩, true) else if a = 4 then (a, -9223372036854775808, ⟨#[]⟩, true) else (0, 0, ⟨#[]⟩, false)
theorem value_First.some_ (k : Nat) (a : Int) : value_First.f (k + 1) a = some (firstV a) := by
  unfold value_First.f firstV
  by_cases h1 : a = 1
  · subst h1; simp [value_First.j0]
  · by_cases h2 : a = 2
    · subst h2; simp [value_First.j0]
    · by_cases h3 : a = 3
      · subst h3; simp [value_First.j0]
      · by_cases h5 : a = 5
        · subst h5; simp [value_First.j0]
        · have h5b : (a == 5) = false := beq_eq_false_iff_ne.2 h5
          by_cases h4 : a = 4
          · subst h4; simp [value_First.j0]
          · simp [value_First.j0, h1, h2, h3, h4, h5, h5b]
theorem value_First.ev (a : Int) : Ev (fun k => value_First.f k a) (firstV a) := ev_of_succ fun k => value_First.some_ k a
/-! the cases' numbers -/
structure StOk (l : List Int) (i : Int) : Prop where
  byte : ∀ x ∈ l, 0 ≤ x ∧ x ≤ 255
  len : l.length ≤ 4096
  lo : 0 ≤ i
  hi : i ≤ l.length
theorem rd_byte {l : List Int} (h : ∀ x ∈ l, 0 ≤ x ∧ x ≤ 255) (i : Int) : 0 ≤ rd l i ∧ rd l i ≤ 255 := by
  unfold rd
  rw [List.getD_eq_getElem?_getD]
  cases he : l[i.toNat]? with
  | none => simp
  | some x => exact h x (List.mem_of_getElem? he)
theorem partsynccase_Case_Int.ok {l : List Int} {i : Int} (h : StOk l i) (n : Int) (hn : n ≤ 4096) : ∃ r j, partsynccase_Case_Int.f l i n = some (r, j) ∧ StOk l j ∧ 0 ≤ r ∧ r ≤ 4096 ∧ (1 ≤ n → r < n) := by
  obtain ⟨hb, hl, h0, h1⟩ := h
  unfold partsynccase_Case_Int.f
  by_cases c1 : i ≥ (l.length : Int)
  · rw [if_pos c1]; exact ⟨0, i, rfl, ⟨hb, hl, h0, h1⟩, by omega, by omega, by omega⟩
  · rw [if_neg c1]
    by_cases c2 : n < 1
    · rw [if_pos c2]; exact ⟨0, i, rfl, ⟨hb, hl, h0, h1⟩, by omega, by omega, by omega⟩
    · rw [if_neg c2]
      have e1 : wrap64 (i + 1) = i + 1 := by unfold wrap64; omega
      have e2 : wrap64 (i + 1 - 1) = i := by unfold wrap64; omega
      obtain ⟨b0, b1⟩ := rd_byte hb i
      have e3 : wrap64 (rd l i) = rd l i := by unfold wrap64; omega
      rw [e1, e2, if_pos h0, if_pos (by omega), if_neg (by omega), e3]
      have e4 : Int.tmod (rd l i) n = rd l i % n := Int.tmod_eq_emod_of_nonneg b0
      have m0 := Int.emod_nonneg (rd l i) (show n ≠ 0 by omega)
      have m1 := Int.emod_lt_of_pos (rd l i) (show 0 < n by omega)
      exact ⟨_, _, rfl, ⟨hb, hl, by omega, by omega⟩, by rw [e4]; exact m0, by rw [e4]; omega, fun _ => by rw [e4]; exact m1⟩
theorem partsynccase_Case_Bool.ok {l : List Int} {i : Int} (h : StOk l i) (n : Int) (h1 : 1 ≤ n) (hn : n ≤ 4096) : ∃ r j, partsynccase_Case_Bool.f l i n = some (r, j) ∧ StOk l j := by
  obtain ⟨r, j, hf, hj, _⟩ := partsynccase_Case_Int.ok h n hn
  unfold partsynccase_Case_Bool.f
  rw [hf]
  exact ⟨_, _, rfl, hj⟩
theorem partsynccase_Case_Number.ok {l : List Int} {i : Int} (h : StOk l i) : ∃ r j, partsynccase_Case_Number.f l i = some (r, j) ∧ StOk l j ∧ -9223372036854775808 ≤ r ∧ r ≤ 9223372036854775807 := by
  obtain ⟨r, j, hf, hj, h0, h1, h2⟩ := partsynccase_Case_Int.ok h 12 (by omega)
  unfold partsynccase_Case_Number.f
  rw [hf, Option.bind_some]
  have e4 : Int.tmod r 4 = r % 4 := Int.tmod_eq_emod_of_nonneg h0
  dsimp only
  split
  · exact ⟨_, _, rfl, hj, by omega, by omega⟩
  · split
    · exact ⟨_, _, rfl, hj, by omega, by omega⟩
    · split
      · exact ⟨_, _, rfl, hj, by omega, by omega⟩
      · exact ⟨_, _, rfl, hj, by omega, by omega⟩
theorem size_push_ (x : ByteArray) (b : UInt8) : (x ++ (⟨#[b]⟩ : ByteArray)).size = x.size + 1 := by rw [ByteArray.size_append]; rfl
theorem partsynccase_Case_Text.l0_ok (l : List Int) (j : Int) : ∀ (m : Nat) (i : Int) (x : ByteArray) (k : Nat), 0 ≤ i → 64 - i = m → x.size = i → m < k → ∃ t, partsynccase_Case_Text.l0 k x i l j = some (t, j) ∧ t.size = 64 := by
  intro m
  induction m with
  | zero =>
    intro i x k h0 h1 h2 hk
    obtain ⟨k, rfl⟩ : ∃ q, k = q + 1 := ⟨k - 1, by omega⟩
    simp only [partsynccase_Case_Text.l0]
    rw [if_neg (by omega)]
    exact ⟨_, rfl, by omega⟩
  | succ m ih =>
    intro i x k h0 h1 h2 hk
    obtain ⟨k, rfl⟩ : ∃ q, k = q + 1 := ⟨k - 1, by omega⟩
    simp only [partsynccase_Case_Text.l0]
    have e : wrap64 (i + 1) = i + 1 := by unfold wrap64; omega
    rw [if_pos (by omega), if_pos (by omega), e]
    exact ih (i + 1) _ k (by omega) (by omega) (by rw [size_push_]; omega) (by omega)
theorem partsynccase_Case_Text.l1_ok (l : List Int) (j : Int) : ∀ (m : Nat) (i : Int) (x : ByteArray) (k : Nat), 0 ≤ i → 64 - i = m → x.size = i → m < k → ∃ t, partsynccase_Case_Text.l1 k x i l j = some (t, j) ∧ t.size = 64 := by
  intro m
  induction m with
  | zero =>
    intro i x k h0 h1 h2 hk
    obtain ⟨k, rfl⟩ : ∃ q, k = q + 1 := ⟨k - 1, by omega⟩
    simp only [partsynccase_Case_Text.l1]
    rw [if_neg (by omega)]
    exact ⟨_, rfl, by omega⟩
  | succ m ih =>
    intro i x k h0 h1 h2 hk
    obtain ⟨k, rfl⟩ : ∃ q, k = q + 1 := ⟨k - 1, by omega⟩
    simp only [partsynccase_Case_Text.l1]
    have e : wrap64 (i + 1) = i + 1 := by unfold wrap64; omega
    rw [if_pos (by omega), if_pos (by omega), e]
    exact ih (i + 1) _ k (by omega) (by omega) (by rw [size_push_]; omega) (by omega)
theorem partsynccase_Case_Text.j1_ok (l : List Int) (j : Int) (q : Int) (b : Bool) : ∃ t, partsynccase_Case_Text.j1 70 ⟨#[]⟩ q b l j = some (t, j) ∧ t.size ≤ 64 := by
  simp only [partsynccase_Case_Text.j1]
  split
  · exact ⟨_, rfl, by decide⟩
  · split
    · exact ⟨_, rfl, by decide⟩
    · split
      · exact ⟨_, rfl, by decide⟩
      · split
        · exact ⟨_, rfl, by decide⟩
        · split
          · obtain ⟨t, h1, h2⟩ := partsynccase_Case_Text.l0_ok l j 64 0 ⟨#[]⟩ 69 (by omega) (by omega) rfl (by omega)
            exact ⟨t, h1, by omega⟩
          · obtain ⟨t, h1, h2⟩ := partsynccase_Case_Text.l1_ok l j 64 0 ⟨#[]⟩ 69 (by omega) (by omega) rfl (by omega)
            exact ⟨t, h1, by omega⟩
theorem partsynccase_Case_Text.j0_ok (l : List Int) (j : Int) (q : Int) (b : Bool) : ∃ t, partsynccase_Case_Text.j0 71 ⟨#[]⟩ q b l j = some (t, j) ∧ t.size ≤ 64 := by
  simp only [partsynccase_Case_Text.j0]
  split
  · exact ⟨_, rfl, by decide⟩
  · split
    · exact partsynccase_Case_Text.j1_ok _ _ _ _
    · exact partsynccase_Case_Text.j1_ok _ _ _ _
theorem partsynccase_Case_Text.ok {l : List Int} {i : Int} (h : StOk l i) : ∃ t j, Ev (fun k => partsynccase_Case_Text.f k l i) (t, j) ∧ StOk l j ∧ t.size ≤ 64 := by
  obtain ⟨r, j, hf, hj, _⟩ := partsynccase_Case_Int.ok h 10 (by omega)
  have hm : ∀ k, LeO (partsynccase_Case_Text.f k l i) (partsynccase_Case_Text.f (k + 1) l i) := fun k => partsynccase_Case_Text.mono _ _ _
  have hx : ∃ t, partsynccase_Case_Text.f 71 l i = some (t, j) ∧ t.size ≤ 64 := by
    unfold partsynccase_Case_Text.f
    rw [hf, Option.bind_some]
    dsimp only
    split
    · exact partsynccase_Case_Text.j0_ok _ _ _ _
    · split
      · exact partsynccase_Case_Text.j0_ok _ _ _ _
      · exact partsynccase_Case_Text.j0_ok _ _ _ _
  obtain ⟨t, h1, h2⟩ := hx
  exact ⟨t, j, Ev.of hm h1, hj, h2⟩
theorem toListE : (⟨#[]⟩ : ByteArray).toList = [] := by rw [Go.Lib.toList_data]
theorem partsynccase_Case_Any.ok {l : List Int} {i : Int} (h : StOk l i) : ∃ a b c j, Ev (fun k => partsynccase_Case_Any.f k l i) (a, b, c, j) ∧ StOk l j ∧ validV a b c = true ∧ -9223372036854775808 ≤ b ∧ b ≤ 9223372036854775807 := by
  obtain ⟨r, j, hf, hj, h0, _, h2⟩ := partsynccase_Case_Int.ok h 5 (by omega)
  have h2 := h2 (by omega)
  have e : wrap64 (1 + r) = 1 + r := by unfold wrap64; omega
  unfold partsynccase_Case_Any.f
  rw [hf]
  simp only [Option.bind_some, e]
  by_cases c1 : 1 + r < 3
  · simp only [if_pos c1]
    refine ⟨_, _, _, _, Ev.now _, hj, ?_, by omega, by omega⟩
    have : 1 + r = 1 ∨ 1 + r = 2 := by omega
    unfold validV
    rw [if_pos this, toListE]
    decide
  · simp only [if_neg c1]
    unfold partsynccase_Case_Value.f
    by_cases c3 : 1 + r = 3
    · simp only [if_pos c3]
      obtain ⟨r2, j2, hf2, hj2, h20, _, h22⟩ := partsynccase_Case_Int.ok hj 2 (by omega)
      have h22 := h22 (by omega)
      rw [hf2]
      simp only [Option.bind_some]
      refine ⟨_, _, _, _, Ev.now _, hj2, ?_, by omega, by omega⟩
      rw [c3]
      have : r2 = 0 ∨ r2 = 1 := by omega
      rcases this with rfl | rfl <;> simp [validV, toListE]
    · simp only [if_neg c3]
      by_cases c4 : 1 + r = 4
      · simp only [if_pos c4]
        obtain ⟨r2, j2, hf2, hj2, h20, h21⟩ := partsynccase_Case_Number.ok hj
        rw [hf2]
        simp only [Option.bind_some]
        refine ⟨_, _, _, _, Ev.now _, hj2, ?_, h20, h21⟩
        rw [c4]
        simp [validV, toListE]
      · simp only [if_neg c4]
        obtain ⟨t, j2, hev, hj2, ht⟩ := partsynccase_Case_Text.ok hj
        refine ⟨5, 0, t, j2, ?_, hj2, ?_, by omega, by omega⟩
        · refine Ev.bind (f := fun _ (bt118 : Int × Int × ByteArray × Int) => some (bt118.1, bt118.2.1, bt118.2.2.1, bt118.2.2.2)) (a := ((5 : Int), (0 : Int), t, j2)) (r := (5, 0, t, j2)) ?_ ⟨0, fun _ _ => rfl⟩
          exact Ev.bind (f := fun _ (bt113 : ByteArray × Int) => some ((5 : Int), (0 : Int), bt113.1, bt113.2)) (r := (5, 0, t, j2)) hev ⟨0, fun _ _ => rfl⟩
        · unfold validV
          simp
          omega
theorem partsynccase_New.ok {l : List Int} (h : ∀ x ∈ l, 0 ≤ x ∧ x ≤ 255) (n : Int) (h0 : 0 ≤ n) (h1 : n ≤ 4096) : partsynccase_New.f l n = some (l.take n.toNat, 0) ∧ StOk (l.take n.toNat) 0 := by
  unfold partsynccase_New.f
  rw [if_pos h0, if_pos h1]
  exact ⟨rfl, fun x hx => h x (List.mem_of_mem_take hx), by rw [List.length_take]; omega, by omega, by omega⟩
end Go.Proofs.Ytpjcdacnhalclaa.Q
