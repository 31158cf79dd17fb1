/- A part of a proof: facts of functions that the law calls; conditions stand in each. -/
import Derived.Test.YtpjcdacnhalclaaM14x3
import Derived.Test.YtpjcdacnhalclaaM14x5
import Derived.Test.YtpjcdacnhalclaaM14x22
import Derived.Test.YtpjcdacnhalclaaM14x13
import Derived.Test.YtpjcdacnhalclaaM14x11
import Derived.Test.YtpjcdacnhalclaaM14x12
import Derived.Test.YtpjcdacnhalclaaM14x21
import Derived.Lib.Bytes
import Derived.Test.YtpjcdacnhalclaaM14x8
import Derived.Test.YtpjcdacnhalclaaM14x15
import Derived.Test.YtpjcdacnhalclaaM14x7
import Derived.Test.YtpjcdacnhalclaaM14x17
import Derived.Test.YtpjcdacnhalclaaM14x14
set_option linter.unusedVariables false
set_option linter.unusedSimpArgs false
namespace Go.Proofs.Ytpjcdacnhalclaa.Q
open Go.RowKit Go.Proofs.YtpjcdacnhalclaaW.PrintWords Go.Proofs.YtpjcdacnhalclaaW.PrintLast Go.Proofs.YtpjcdacnhalclaaW.PrintMore
attribute [local go_sem] max2_int min2_int max_two min_two max_three min_three max_four min_four
def v_Next.l0 : Nat → Int → Int → Int → ByteArray → Option (Int × Int × ByteArray × Bool)
 | 0, _, _, _, _ => none
 | k + 1, x4, x127000, x127001, x127002 => if x4 > 0 then (if 0 ≤ (wrap64 (x4 - 1)) then (if (wrap64 (x4 - 1)) < (x127002.size : Int) then (if (bt x127002 (wrap64 (x4 - 1))) = 255 then (v_Next.l0 k (wrap64 (x4 - 1)) x127000 x127001 x127002) else (if x4 = 0 then (some (0, 0, (⟨#[]⟩ : ByteArray), false)) else (if (wrap64 (x4 - 1)) ≤ (x127002.size : Int) then ((some (([((bt x127002 (wrap64 (x4 - 1))) + 1) % 256] : List Int) : List Int)).bind fun y145 => (if (x127002.extract 0 ((wrap64 (x4 - 1)) : Int).toNat).size + (strOfNums y145).size ≤ 9223372036854775807 then (some (5, 0, (x127002.extract 0 ((wrap64 (x4 - 1)) : Int).toNat) ++ (strOfNums y145), true)) else (none))) else (none)))) else (none)) else (none)) else (if x4 = 0 then (some (0, 0, (⟨#[]⟩ : ByteArray), false)) else (if 0 ≤ (wrap64 (x4 - 1)) then (if (wrap64 (x4 - 1)) ≤ (x127002.size : Int) then (if (wrap64 (x4 - 1)) < (x127002.size : Int) then ((some (([((bt x127002 (wrap64 (x4 - 1))) + 1) % 256] : List Int) : List Int)).bind fun y148 => (if (x127002.extract 0 ((wrap64 (x4 - 1)) : Int).toNat).size + (strOfNums y148).size ≤ 9223372036854775807 then (some (5, 0, (x127002.extract 0 ((wrap64 (x4 - 1)) : Int).toNat) ++ (strOfNums y148), true)) else (none))) else (none)) else (none)) else (none)))
def v_Next.f (k : Nat) (a0_0 : Int) (a0_1 : Int) (a0_2 : ByteArray) : Option (Int × Int × ByteArray × Bool) := (v_Valid.f k a0_0 a0_1 a0_2).bind fun t128 => (if t128 = true then (if a0_0 = 1 then ((v_First.f k 2).bind fun bt129 => (some (bt129.1, bt129.2.1, bt129.2.2.1, bt129.2.2.2))) else (if a0_0 = 2 then ((v_First.f k 3).bind fun bt133 => (some (bt133.1, bt133.2.1, bt133.2.2.1, bt133.2.2.2))) else (if a0_0 = 3 then (if a0_1 = 0 then (some (3, 1, (⟨#[]⟩ : ByteArray), true)) else ((v_First.f k 4).bind fun bt137 => (some (bt137.1, bt137.2.1, bt137.2.2.1, bt137.2.2.2)))) else (if a0_0 = 4 then (if a0_1 = 9223372036854775807 then ((v_First.f k 5).bind fun bt141 => (some (bt141.1, bt141.2.1, bt141.2.2.1, bt141.2.2.2))) else (some (4, wrap64 (a0_1 + 1), (⟨#[]⟩ : ByteArray), true))) else (if (a0_2.size : Int) < 64 then (if a0_2.size + 1 ≤ 9223372036854775807 then (some (5, 0, a0_2 ++ (⟨#[0]⟩ : ByteArray), true)) else (none)) else (v_Next.l0 k (a0_2.size : Int) a0_0 a0_1 a0_2)))))) else (some (0, 0, (⟨#[]⟩ : ByteArray), false)))
theorem v_Next.mono_l : ∀ k, (∀ y0 y1 y2 y3, LeO (v_Next.l0 k y0 y1 y2 y3) (v_Next.l0 (k + 1) y0 y1 y2 y3))
 | 0 => fun _ _ _ _ r h => by simp [v_Next.l0] at h
 | k + 1 => by
  have ih0 := v_Next.mono_l k
  ·intro y0 y1 y2 y3
   unfold v_Next.l0
   repeat' first
   | (with_reducible exact ih0 _ _ _ _)
   | (with_reducible exact v_First.mono _ _)
   | (with_reducible exact v_Valid.mono _ _ _ _)
   | (with_reducible exact LeO.refl _)
   | (with_reducible exact LeO.none _)
   | (with_reducible refine LeO.ite ?_ ?_)
   | (with_reducible refine LeO.bind ?_ (fun _ => ?_))
   | exact ih0 _ _ _ _
   | exact v_First.mono _ _
   | exact v_Valid.mono _ _ _ _
   | exact LeO.none _
   | refine LeO.ite ?_ ?_
   | refine LeO.bind ?_ (fun _ => ?_)
def i_One.f (k : Nat) (a0_0 : Int) (a0_1 : Int) (a0_2 : ByteArray) : Option ((List (S65)) × Int) := (v_Valid.f k a0_0 a0_1 a0_2).bind fun t677 => (if t677 = true then ((v_Next.f k a0_0 a0_1 a0_2).bind fun bt678 => (if bt678.2.2.2 = true then (some ((([(⟨(⟨a0_0, a0_1, a0_2⟩ : S24), (⟨bt678.1, bt678.2.1, bt678.2.2.1⟩ : S24), false⟩ : S65)] : List (S65))), 0)) else (some ((([(⟨(⟨a0_0, a0_1, a0_2⟩ : S24), (⟨0, 0, (⟨#[]⟩ : ByteArray)⟩ : S24), true⟩ : S65)] : List (S65))), 0)))) else (some (([] : List (S65)), 10)))
end Go.Proofs.Ytpjcdacnhalclaa.Q
namespace Go.Proofs.Ytpjcdacnhalclaa.Q
open Go.RowKit Go.Proofs.YtpjcdacnhalclaaW.PrintWords Go.Proofs.YtpjcdacnhalclaaW.PrintLast Go.Proofs.YtpjcdacnhalclaaW.PrintMore
attribute [local go_sem] max2_int min2_int max_two min_two max_three min_three max_four min_four
def validV (a b : Int) (c : ByteArray) : Bool := if a = 1 ∨ a = 2 then (b == 0 && (c.toList == ([] : List UInt8))) else if a = 3 then ((b == 0 || b == 1) && (c.toList == ([] : List UInt8))) else if a = 4 then (c.toList == ([] : List UInt8)) else if a = 5 then (b == 0 && decide ((c.size : Int) ≤ 64)) else false
theorem v_Valid.some_ (k : Nat) (a b : Int) (c : ByteArray) : v_Valid.f (k + 1) a b c = some (validV a b c) := by
 unfold v_Valid.f validV
 by_cases h1 : a = 1
 ·subst h1; simp [v_Valid.j0]
 ·rw [if_neg h1]
  by_cases h2 : a = 2
  ·subst h2; simp [v_Valid.j0]
  ·have h2b : (a == 2) = false := beq_eq_false_iff_ne.2 h2
   simp only [v_Valid.j0, h2b, h1, h2, or_self, if_false]
   by_cases h3 : a = 3
   ·subst h3
    by_cases hb : b = 0
    ·simp [hb]
    ·by_cases hb1 : b = 1
     ·simp [hb1]
     ·simp [hb, hb1]
   ·by_cases h4 : a = 4
    ·subst h4; simp
    ·by_cases h5 : a = 5
     ·subst h5
      by_cases hb : b = 0
      ·simp [hb]
      ·simp [hb]
     ·simp [h3, h4, h5]
theorem r1_Valid.some_ (k : Nat) (a b : Int) (c : ByteArray) : r1_Valid.f (k + 1) a b c = some (validV a b c) := by
 unfold r1_Valid.f validV
 by_cases h1 : a = 1
 ·subst h1
  by_cases hb : b = 0
  ·simp [r1_Valid.j0, hb]
  ·simp [r1_Valid.j0, hb]
 ·rw [if_neg h1]
  by_cases h2 : a = 2
  ·subst h2
   by_cases hb : b = 0
   ·simp [r1_Valid.j0, hb]
   ·simp [r1_Valid.j0, hb]
  ·have h2b : (a == 2) = false := beq_eq_false_iff_ne.2 h2
   simp only [r1_Valid.j0, h2b, h1, h2, or_self, if_false]
   by_cases h3 : a = 3
   ·subst h3
    by_cases hb : b = 0
    ·simp [hb]
    ·by_cases hb1 : b = 1
     ·simp [hb1]
     ·simp [hb, hb1]
   ·by_cases h4 : a = 4
    ·subst h4; simp
    ·by_cases h5 : a = 5
     ·subst h5
      by_cases hb : b = 0
      ·simp [hb]
      ·simp [hb]
     ·simp [h3, h4, h5]
theorem ev_of_succ {α : Type} {g : Nat → Option α} {r : α} (h : ∀ k, g (k + 1) = some r) : Ev g r := ⟨1, fun k hk => by obtain ⟨j, rfl⟩ : ∃ j, k = j + 1 := ⟨k - 1, by omega⟩; exact h j⟩
theorem v_Valid.ev (a b : Int) (c : ByteArray) : Ev (fun k => v_Valid.f k a b c) (validV a b c) := ev_of_succ fun k => v_Valid.some_ k a b c
theorem r1_Valid.ev (a b : Int) (c : ByteArray) : Ev (fun k => r1_Valid.f k a b c) (validV a b c) := ev_of_succ fun k => r1_Valid.some_ k a b c
def firstV (a : Int) : Int × Int × ByteArray × Bool := if a = 1 ∨ a = 2 ∨ a = 3 ∨ a = 5 then (a, 0, ⟨#[]⟩, true) else if a = 4 then (a, -9223372036854775808, ⟨#[]⟩, true) else (0, 0, ⟨#[]⟩, false)
theorem v_First.some_ (k : Nat) (a : Int) : v_First.f (k + 1) a = some (firstV a) := by
 unfold v_First.f firstV
 by_cases h1 : a = 1
 ·subst h1; simp [v_First.j0]
 ·by_cases h2 : a = 2
  ·subst h2; simp [v_First.j0]
  ·by_cases h3 : a = 3
   ·subst h3; simp [v_First.j0]
   ·by_cases h5 : a = 5
    ·subst h5; simp [v_First.j0]
    ·have h5b : (a == 5) = false := beq_eq_false_iff_ne.2 h5
     by_cases h4 : a = 4
     ·subst h4; simp [v_First.j0]
     ·simp [v_First.j0, h1, h2, h3, h4, h5, h5b]
theorem v_First.ev (a : Int) : Ev (fun k => v_First.f k a) (firstV a) := ev_of_succ fun k => v_First.some_ k a
structure StOk (l : List Int) (i : Int) : Prop where
 byte : ∀ x ∈ l, 0 ≤ x ∧ x ≤ 255
 len : l.length ≤ 4096
 lo : 0 ≤ i
 hi : i ≤ l.length
theorem rd_byte {l : List Int} (h : ∀ x ∈ l, 0 ≤ x ∧ x ≤ 255) (i : Int) : 0 ≤ rd l i ∧ rd l i ≤ 255 := by
 unfold rd
 rw [List.getD_eq_getElem?_getD]
 cases he : l[i.toNat]? with
 | none => simp
 | some x => exact h x (List.mem_of_getElem? he)
theorem cc_Int.ok {l : List Int} {i : Int} (h : StOk l i) (n : Int) (hn : n ≤ 4096) : ∃ r j, cc_Int.f l i n = some (r, j) ∧ StOk l j ∧ 0 ≤ r ∧ r ≤ 4096 ∧ (1 ≤ n → r < n) := by
 obtain ⟨hb, hl, h0, h1⟩ := h
 unfold cc_Int.f
 by_cases c1 : i ≥ (l.length : Int)
 ·rw [if_pos c1]; exact ⟨0, i, rfl, ⟨hb, hl, h0, h1⟩, by omega, by omega, by omega⟩
 ·rw [if_neg c1]
  by_cases c2 : n < 1
  ·rw [if_pos c2]; exact ⟨0, i, rfl, ⟨hb, hl, h0, h1⟩, by omega, by omega, by omega⟩
  ·rw [if_neg c2]
   have e1 : wrap64 (i + 1) = i + 1 := by unfold wrap64; omega
   have e2 : wrap64 (i + 1 - 1) = i := by unfold wrap64; omega
   obtain ⟨b0, b1⟩ := rd_byte hb i
   have e3 : wrap64 (rd l i) = rd l i := by unfold wrap64; omega
   rw [e1, e2, if_pos h0, if_pos (by omega), if_neg (by omega), e3]
   have e4 : Int.tmod (rd l i) n = rd l i % n := Int.tmod_eq_emod_of_nonneg b0
   have m0 := Int.emod_nonneg (rd l i) (show n ≠ 0 by omega)
   have m1 := Int.emod_lt_of_pos (rd l i) (show 0 < n by omega)
   exact ⟨_, _, rfl, ⟨hb, hl, by omega, by omega⟩, by rw [e4]; exact m0, by rw [e4]; omega, fun _ => by rw [e4]; exact m1⟩
theorem cc_Bool.ok {l : List Int} {i : Int} (h : StOk l i) (n : Int) (h1 : 1 ≤ n) (hn : n ≤ 4096) : ∃ r j, cc_Bool.f l i n = some (r, j) ∧ StOk l j := by
 obtain ⟨r, j, hf, hj, _⟩ := cc_Int.ok h n hn
 unfold cc_Bool.f
 rw [hf]
 exact ⟨_, _, rfl, hj⟩
theorem cc_Number.ok {l : List Int} {i : Int} (h : StOk l i) : ∃ r j, cc_Number.f l i = some (r, j) ∧ StOk l j ∧ -9223372036854775808 ≤ r ∧ r ≤ 9223372036854775807 := by
 obtain ⟨r, j, hf, hj, h0, h1, h2⟩ := cc_Int.ok h 12 (by omega)
 unfold cc_Number.f
 rw [hf, Option.bind_some]
 have e4 : Int.tmod r 4 = r % 4 := Int.tmod_eq_emod_of_nonneg h0
 dsimp only
 split
 ·exact ⟨_, _, rfl, hj, by omega, by omega⟩
 ·split
  ·exact ⟨_, _, rfl, hj, by omega, by omega⟩
  ·split
   ·exact ⟨_, _, rfl, hj, by omega, by omega⟩
   ·exact ⟨_, _, rfl, hj, by omega, by omega⟩
theorem size_push_ (x : ByteArray) (b : UInt8) : (x ++ (⟨#[b]⟩ : ByteArray)).size = x.size + 1 := by rw [ByteArray.size_append]; rfl
theorem cc_Text.l0_ok (l : List Int) (j : Int) : ∀ (m : Nat) (i : Int) (x : ByteArray) (k : Nat), 0 ≤ i → 64 - i = m → x.size = i → m < k → ∃ t, cc_Text.l0 k x i l j = some (t, j) ∧ t.size = 64 := by
 intro m
 induction m with
 | zero =>
  intro i x k h0 h1 h2 hk
  obtain ⟨k, rfl⟩ : ∃ q, k = q + 1 := ⟨k - 1, by omega⟩
  simp only [cc_Text.l0]
  rw [if_neg (by omega)]
  exact ⟨_, rfl, by omega⟩
 | succ m ih =>
  intro i x k h0 h1 h2 hk
  obtain ⟨k, rfl⟩ : ∃ q, k = q + 1 := ⟨k - 1, by omega⟩
  simp only [cc_Text.l0]
  have e : wrap64 (i + 1) = i + 1 := by unfold wrap64; omega
  rw [if_pos (by omega), if_pos (by omega), e]
  exact ih (i + 1) _ k (by omega) (by omega) (by rw [size_push_]; omega) (by omega)
theorem cc_Text.l1_ok (l : List Int) (j : Int) : ∀ (m : Nat) (i : Int) (x : ByteArray) (k : Nat), 0 ≤ i → 64 - i = m → x.size = i → m < k → ∃ t, cc_Text.l1 k x i l j = some (t, j) ∧ t.size = 64 := by
 intro m
 induction m with
 | zero =>
  intro i x k h0 h1 h2 hk
  obtain ⟨k, rfl⟩ : ∃ q, k = q + 1 := ⟨k - 1, by omega⟩
  simp only [cc_Text.l1]
  rw [if_neg (by omega)]
  exact ⟨_, rfl, by omega⟩
 | succ m ih =>
  intro i x k h0 h1 h2 hk
  obtain ⟨k, rfl⟩ : ∃ q, k = q + 1 := ⟨k - 1, by omega⟩
  simp only [cc_Text.l1]
  have e : wrap64 (i + 1) = i + 1 := by unfold wrap64; omega
  rw [if_pos (by omega), if_pos (by omega), e]
  exact ih (i + 1) _ k (by omega) (by omega) (by rw [size_push_]; omega) (by omega)
theorem cc_Text.j1_ok (l : List Int) (j : Int) (q : Int) (b : Bool) : ∃ t, cc_Text.j1 70 ⟨#[]⟩ q b l j = some (t, j) ∧ t.size ≤ 64 := by
 simp only [cc_Text.j1]
 split
 ·exact ⟨_, rfl, by decide⟩
 ·split
  ·exact ⟨_, rfl, by decide⟩
  ·split
   ·exact ⟨_, rfl, by decide⟩
   ·split
    ·exact ⟨_, rfl, by decide⟩
    ·split
     ·obtain ⟨t, h1, h2⟩ := cc_Text.l0_ok l j 64 0 ⟨#[]⟩ 69 (by omega) (by omega) rfl (by omega)
      exact ⟨t, h1, by omega⟩
     ·obtain ⟨t, h1, h2⟩ := cc_Text.l1_ok l j 64 0 ⟨#[]⟩ 69 (by omega) (by omega) rfl (by omega)
      exact ⟨t, h1, by omega⟩
theorem cc_Text.j0_ok (l : List Int) (j : Int) (q : Int) (b : Bool) : ∃ t, cc_Text.j0 71 ⟨#[]⟩ q b l j = some (t, j) ∧ t.size ≤ 64 := by
 simp only [cc_Text.j0]
 split
 ·exact ⟨_, rfl, by decide⟩
 ·split
  ·exact cc_Text.j1_ok _ _ _ _
  ·exact cc_Text.j1_ok _ _ _ _
theorem cc_Text.ok {l : List Int} {i : Int} (h : StOk l i) : ∃ t j, Ev (fun k => cc_Text.f k l i) (t, j) ∧ StOk l j ∧ t.size ≤ 64 := by
 obtain ⟨r, j, hf, hj, _⟩ := cc_Int.ok h 10 (by omega)
 have hm : ∀ k, LeO (cc_Text.f k l i) (cc_Text.f (k + 1) l i) := fun k => cc_Text.mono _ _ _
 have hx : ∃ t, cc_Text.f 71 l i = some (t, j) ∧ t.size ≤ 64 := by
  unfold cc_Text.f
  rw [hf, Option.bind_some]
  dsimp only
  split
  ·exact cc_Text.j0_ok _ _ _ _
  ·split
   ·exact cc_Text.j0_ok _ _ _ _
   ·exact cc_Text.j0_ok _ _ _ _
 obtain ⟨t, h1, h2⟩ := hx
 exact ⟨t, j, Ev.of hm h1, hj, h2⟩
theorem toListE : (⟨#[]⟩ : ByteArray).toList = [] := by rw [Go.Lib.toList_data]
theorem cc_Any.ok {l : List Int} {i : Int} (h : StOk l i) : ∃ a b c j, Ev (fun k => cc_Any.f k l i) (a, b, c, j) ∧ StOk l j ∧ validV a b c = true ∧ -9223372036854775808 ≤ b ∧ b ≤ 9223372036854775807 := by
 obtain ⟨r, j, hf, hj, h0, _, h2⟩ := cc_Int.ok h 5 (by omega)
 have h2 := h2 (by omega)
 have e : wrap64 (1 + r) = 1 + r := by unfold wrap64; omega
 unfold cc_Any.f
 rw [hf]
 simp only [Option.bind_some, e]
 by_cases c1 : 1 + r < 3
 ·simp only [if_pos c1]
  refine ⟨_, _, _, _, Ev.now _, hj, ?_, by omega, by omega⟩
  have : 1 + r = 1 ∨ 1 + r = 2 := by omega
  unfold validV
  rw [if_pos this, toListE]
  decide
 ·simp only [if_neg c1]
  unfold cc_Value.f
  by_cases c3 : 1 + r = 3
  ·simp only [if_pos c3]
   obtain ⟨r2, j2, hf2, hj2, h20, _, h22⟩ := cc_Int.ok hj 2 (by omega)
   have h22 := h22 (by omega)
   rw [hf2]
   simp only [Option.bind_some]
   refine ⟨_, _, _, _, Ev.now _, hj2, ?_, by omega, by omega⟩
   rw [c3]
   have : r2 = 0 ∨ r2 = 1 := by omega
   rcases this with rfl | rfl <;> simp [validV, toListE]
  ·simp only [if_neg c3]
   by_cases c4 : 1 + r = 4
   ·simp only [if_pos c4]
    obtain ⟨r2, j2, hf2, hj2, h20, h21⟩ := cc_Number.ok hj
    rw [hf2]
    simp only [Option.bind_some]
    refine ⟨_, _, _, _, Ev.now _, hj2, ?_, h20, h21⟩
    rw [c4]
    simp [validV, toListE]
   ·simp only [if_neg c4]
    obtain ⟨t, j2, hev, hj2, ht⟩ := cc_Text.ok hj
    refine ⟨5, 0, t, j2, ?_, hj2, ?_, by omega, by omega⟩
    ·refine Ev.bind (f := fun _ (bt118 : Int × Int × ByteArray × Int) => some (bt118.1, bt118.2.1, bt118.2.2.1, bt118.2.2.2)) (a := ((5 : Int), (0 : Int), t, j2)) (r := (5, 0, t, j2)) ?_ ⟨0, fun _ _ => rfl⟩
     exact Ev.bind (f := fun _ (bt113 : ByteArray × Int) => some ((5 : Int), (0 : Int), bt113.1, bt113.2)) (r := (5, 0, t, j2)) hev ⟨0, fun _ _ => rfl⟩
    ·unfold validV
     simp
     omega
theorem cs_New.ok {l : List Int} (h : ∀ x ∈ l, 0 ≤ x ∧ x ≤ 255) (n : Int) (h0 : 0 ≤ n) (h1 : n ≤ 4096) : cs_New.f l n = some (l.take n.toNat, 0) ∧ StOk (l.take n.toNat) 0 := by
 unfold cs_New.f
 rw [if_pos h0, if_pos h1]
 exact ⟨rfl, fun x hx => h x (List.mem_of_mem_take hx), by rw [List.length_take]; omega, by omega, by omega⟩
theorem rd_T65_nat (x : List S65) (i : Nat) (h : i < x.length) : rd_T65 x (i : Int) = x[i] := by
 unfold rd_T65
 rw [List.getD_eq_getElem?_getD, Int.toNat_natCast, List.getElem?_eq_getElem h]
 rfl
def validS (x : S24) : Bool := validV x.f0 x.f1 x.f2
def oneI (x : S65) (v : S24) : Bool := decide (cmpV x.f0 v ≤ 0) && (x.f2 || decide (cmpV v x.f1 < 0))
def inI (l : List S65) (v : S24) : Bool := l.any fun x => oneI x v
theorem i_contains.at_ (l : List S65) (hl : l.length < 4611686018427387904) (v : S24) : ∀ (m i : Nat), l.length - i = m → i ≤ l.length → Ev (fun k => i_contains.l0 k l l.length i v.f0 v.f1 v.f2) (inI (l.drop i) v) := by
 intro m
 induction m with
 | zero =>
  intro i hm hi
  have : l.drop i = [] := List.drop_eq_nil_iff.2 (by omega)
  rw [this]
  exact Ev.step (f := fun _ => some false) (fun k => by rw [i_contains.l0, if_neg (by omega)]) (Ev.now _)
 | succ m ih =>
  intro i hm hi
  have hil : i < l.length := by omega
  have hw : wrap64 ((i : Int) + 1) = ((i + 1 : Nat) : Int) := wrap64_succ (by omega)
  have hd : inI (l.drop i) v = (oneI l[i] v || inI (l.drop (i + 1)) v) := by rw [List.drop_eq_getElem_cons hil]; rfl
  have ih' := ih (i + 1) (by omega) (by omega)
  rw [hd]
  have hst : ∀ k, i_contains.l0 (k + 1) l l.length i v.f0 v.f1 v.f2 = if cmpV l[i].f0 v ≤ 0 then (if l[i].f2 = true then some true else if cmpV v l[i].f1 < 0 then some true else i_contains.l0 k l l.length ((i + 1 : Nat) : Int) v.f0 v.f1 v.f2) else i_contains.l0 k l l.length ((i + 1 : Nat) : Int) v.f0 v.f1 v.f2 := by
   intro k
   rw [i_contains.l0, if_pos (by omega), if_pos (by omega), if_pos (by omega), rd_T65_nat l i hil, hw]
   simp only [v_Compare.some_, Option.bind_some]
  refine Ev.step hst ?_
  unfold oneI
  by_cases h1 : cmpV l[i].f0 v ≤ 0
  ·by_cases h2 : l[i].f2 = true
   ·simp only [h1, h2, if_true, decide_true, Bool.true_or, Bool.and_self]
    exact Ev.now _
   ·have h2 := Bool.eq_false_iff.2 h2
    by_cases h3 : cmpV v l[i].f1 < 0
    ·simp only [h1, h2, h3, if_true, decide_true, Bool.false_or, Bool.and_self, Bool.true_or, Bool.false_eq_true, if_false]
     exact Ev.now _
    ·simp only [h1, h2, h3, if_true, decide_true, decide_false, Bool.false_or, Bool.and_false, Bool.false_eq_true, if_false]
     exact ih'
  ·simp only [h1, if_false, decide_false, Bool.false_and, Bool.false_or]
   exact ih'
theorem i_contains.ev (l : List S65) (hl : l.length < 4611686018427387904) (v : S24) : Ev (fun k => i_contains.f k l v.f0 v.f1 v.f2) (inI l v) := by
 have := i_contains.at_ l hl v l.length 0 rfl (Nat.zero_le _)
 exact this
theorem r3_In.same : ∀ (k : Nat) (l : List S65) (n i a b : Int) (c : ByteArray), r3_In.l0 k l n i a b c = i_contains.l0 k l n i a b c
 | 0, _, _, _, _, _, _ => rfl
 | k + 1, l, n, i, a, b, c => by
  have e1 : ∀ x : S24, r1_Compare.f x.f0 x.f1 x.f2 a b c = v_Compare.f x.f0 x.f1 x.f2 a b c := fun x => (r1_Compare.some_ x ⟨a, b, c⟩).trans (v_Compare.some_ x ⟨a, b, c⟩).symm
  have e2 : ∀ x : S24, r1_Compare.f a b c x.f0 x.f1 x.f2 = v_Compare.f a b c x.f0 x.f1 x.f2 := fun x => (r1_Compare.some_ ⟨a, b, c⟩ x).trans (v_Compare.some_ ⟨a, b, c⟩ x).symm
  rw [r3_In.l0, i_contains.l0]
  simp only [e1, e2, r3_In.same k]
theorem r3_In.ev (l : List S65) (hl : l.length < 4611686018427387904) (v : S24) : Ev (fun k => r3_In.f k l v.f0 v.f1 v.f2) (inI l v) := by
 have := i_contains.ev l hl v
 refine Ev.congr (fun k => ?_) this
 unfold r3_In.f i_contains.f
 exact r3_In.same _ _ _ _ _ _ _
def headOk (x : S65) (rest : List S65) : Bool := validS x.f0 && (if x.f2 = true then rest.isEmpty && (x.f1.f0 == 0 && (x.f1.f1 == 0 && (x.f1.f2.toList == ([] : List UInt8)))) else validS x.f1 && decide (cmpV x.f0 x.f1 < 0))
def gapOk (x : S65) : List S65 → Bool
 | [] => true
 | y :: _ => decide (cmpV x.f1 y.f0 < 0)
def ordI : List S65 → Bool
 | [] => true
 | x :: rest => headOk x rest && (if x.f2 = true then true else gapOk x rest) && ordI rest
theorem lt_succ0 : ∀ c q : List UInt8, c < q → q < c ++ [0] → False
 | [], [], h, _ => absurd h (by simp)
 | [], y :: ys, _, h => by
  rw [List.nil_append, List.cons_lt_cons_iff] at h
  rcases h with h | ⟨_, h⟩
  ·have := UInt8.lt_iff_toNat_lt.1 h
   have e0 : (0 : UInt8).toNat = 0 := rfl
   omega
  ·exact absurd h (List.not_lt_nil _)
 | x :: c, [], h, _ => absurd h (List.not_lt_nil _)
 | x :: c, y :: q, h, k => by
  rw [List.cons_append, List.cons_lt_cons_iff] at k
  rw [List.cons_lt_cons_iff] at h
  rcases h with h | ⟨e, h⟩
  ·have h1 := UInt8.lt_iff_toNat_lt.1 h
   rcases k with k | ⟨e', k⟩
   ·have h2 := UInt8.lt_iff_toNat_lt.1 k
    omega
   ·subst e'; omega
  ·subst e
   rcases k with k | ⟨_, k⟩
   ·exact absurd (UInt8.lt_iff_toNat_lt.1 k) (Nat.lt_irrefl _)
   ·exact lt_succ0 c q h k
theorem lt_rep : ∀ (m : Nat) (q : List UInt8), q.length ≤ m → List.replicate m 255 < q → False
 | m, [], _, h => List.not_lt_nil _ h
 | 0, _ :: _, hl, _ => by simp at hl
 | m + 1, y :: q, hl, h => by
  rw [List.replicate_succ, List.cons_lt_cons_iff] at h
  rcases h with h | ⟨_, h⟩
  ·have h1 := UInt8.lt_iff_toNat_lt.1 h
   have h2 := y.toNat_lt
   have e : (255 : UInt8).toNat = 255 := rfl
   omega
  ·exact lt_rep m q (by simpa using hl) h
theorem toNat_succ {v : UInt8} (h : v ≠ 255) : (v + 1).toNat = v.toNat + 1 := by
 have h1 : v.toNat ≠ 255 := fun e => h (UInt8.toNat_inj.1 e)
 have h2 := v.toNat_lt
 rw [UInt8.toNat_add]
 have e : (1 : UInt8).toNat = 1 := rfl
 omega
theorem lt_stop (v : UInt8) (hv : v ≠ 255) (m : Nat) : ∀ (p q : List UInt8), q.length ≤ p.length + (m + 1) → p ++ v :: List.replicate m 255 < q → q < p ++ [v + 1] → False
 | p, [], _, h, _ => List.not_lt_nil _ h
 | [], y :: q, hl, h, k => by
  rw [List.nil_append, List.cons_lt_cons_iff] at h k
  have hs := toNat_succ hv
  rcases k with k | ⟨_, k⟩
  ·have h2 := UInt8.lt_iff_toNat_lt.1 k
   rcases h with h | ⟨_, h⟩
   ·have h1 := UInt8.lt_iff_toNat_lt.1 h
    omega
   ·exact lt_rep m q (by simp only [List.length_cons, List.length_nil] at hl; omega) h
  ·exact List.not_lt_nil _ k
 | x :: p, y :: q, hl, h, k => by
  rw [List.cons_append, List.cons_lt_cons_iff] at h k
  rcases h with h | ⟨e, h⟩
  ·have h1 := UInt8.lt_iff_toNat_lt.1 h
   rcases k with k | ⟨e', k⟩
   ·have h2 := UInt8.lt_iff_toNat_lt.1 k
    omega
   ·subst e'; omega
  ·subst e
   rcases k with k | ⟨_, k⟩
   ·exact absurd (UInt8.lt_iff_toNat_lt.1 k) (Nat.lt_irrefl _)
   ·exact lt_stop v hv m p q (by simp only [List.length_cons] at hl; omega) h k
theorem lt_app (p : List UInt8) (a b : List UInt8) (h : a < b) : p ++ a < p ++ b := by
 induction p with
 | nil => exact h
 | cons x p ih => exact List.cons_lt_cons_iff.2 (.inr ⟨rfl, ih⟩)
theorem lt_snoc (c : List UInt8) : c < c ++ [0] := by
 have := lt_app c [] [0] (by decide)
 rwa [List.append_nil] at this
theorem bt_data (c : ByteArray) (n : Nat) (h : n < c.size) : bt c (n : Int) = ((c.toList[n]'(by rw [Go.Lib.toList_data]; exact h)).toNat : Int) := by
 have hh : ((n : Int)).toNat < c.size := by simpa using h
 rw [← bt_at c n hh]
 simp only [Go.Lib.toList_data]
 rfl
theorem toList_len (c : ByteArray) : c.toList.length = c.size := by rw [Go.Lib.toList_data]; rfl
theorem v_Next.l0_is (a b : Int) (c : ByteArray) (hc : c.size < 4611686018427387904) : ∀ (n k : Nat), n ≤ c.size → n < k → c.toList.drop n = List.replicate (c.size - n) 255 →
  (v_Next.l0 k n a b c = some (0, 0, ⟨#[]⟩, false) ∧ c.toList = List.replicate c.size 255) ∨
  ∃ p v m t, c.toList = p ++ v :: List.replicate m 255 ∧ v ≠ 255 ∧ ByteArray.toList t = p ++ [v + 1] ∧ v_Next.l0 k n a b c = some (5, 0, t, true) := by
 intro n
 induction n with
 | zero =>
  intro k _ hk hd
  obtain ⟨k, rfl⟩ : ∃ j, k = j + 1 := ⟨k - 1, by omega⟩
  left
  refine ⟨?_, by simpa using hd⟩
  rw [v_Next.l0]
  rw [if_neg (by omega), if_pos (by omega)]
 | succ n ih =>
  intro k hn hk hd
  obtain ⟨k, rfl⟩ : ∃ j, k = j + 1 := ⟨k - 1, by omega⟩
  have hw : wrap64 (((n + 1 : Nat) : Int) - 1) = (n : Int) := by unfold wrap64; omega
  have hl : n < c.toList.length := by rw [toList_len]; omega
  have hdn : c.toList.drop n = c.toList[n] :: c.toList.drop (n + 1) := List.drop_eq_getElem_cons hl
  have hb := bt_data c n (by omega)
  rw [v_Next.l0, hw, if_pos (by omega), if_pos (by omega), if_pos (by omega)]
  by_cases hv : c.toList[n] = 255
  ·have e255 : (255 : UInt8).toNat = 255 := rfl
   rw [if_pos (by rw [hb, hv, e255]; rfl)]
   refine ih k (by omega) (by omega) ?_
   rw [hdn, hv, hd, show c.size - n = (c.size - (n + 1)) + 1 by omega, List.replicate_succ]
  ·have hv' : ¬ bt c (n : Int) = 255 := by
    rw [hb]
    intro e
    exact hv (UInt8.toNat_inj.1 (show _ = (255 : UInt8).toNat from by have e255 : (255 : UInt8).toNat = 255 := rfl; omega))
   rw [if_neg hv', if_neg (by omega), if_pos (by omega)]
   right
   have hsz : (c.extract 0 ((n : Int)).toNat).size = n := by rw [ByteArray.size_extract]; simp; omega
   have hst : (strOfNums [((bt c (n : Int)) + 1) % 256]).size = 1 := rfl
   refine ⟨c.toList.take n, c.toList[n], c.size - (n + 1), c.extract 0 ((n : Int)).toNat ++ strOfNums [((bt c (n : Int)) + 1) % 256], ?_, hv, ?_, ?_⟩
   ·rw [← hd, ← hdn, List.take_append_drop]
   ·have h1 : (c.extract 0 ((n : Int)).toNat ++ strOfNums [((bt c (n : Int)) + 1) % 256]).toList = (c.extract 0 ((n : Int)).toNat).toList ++ (strOfNums [((bt c (n : Int)) + 1) % 256]).toList := by
     simp only [Go.Lib.toList_data, ByteArray.data_append, Array.toList_append]
    rw [h1, Go.Lib.strOfNums_toList]
    congr 1
    ·simp only [Go.Lib.toList_data, ByteArray.data_extract, Array.toList_extract]
     simp
    ·rw [hb]
     show [UInt8.ofNat _] = _
     congr 1
     apply UInt8.toNat_inj.1
     rw [toNat_succ hv, UInt8.toNat_ofNat']
     have h2 := (c.toList[n]).toNat_lt
     have h3 : (c.toList[n]).toNat ≠ 255 := fun e => hv (UInt8.toNat_inj.1 e)
     omega
   ·simp only [Option.bind_some]
    rw [if_pos (by omega)]
theorem r1_Next.l0_same : ∀ (k : Nat) (n a b : Int) (c : ByteArray), r1_Next.l0 k n a b c = v_Next.l0 k n a b c
 | 0, _, _, _, _ => rfl
 | k + 1, n, a, b, c => by
  rw [r1_Next.l0, v_Next.l0]
  simp only [r1_Next.l0_same k]
structure NextOk (x y : S24) : Prop where
 valid : validV y.f0 y.f1 y.f2 = true
 lo : -9223372036854775808 ≤ y.f1
 hi : y.f1 ≤ 9223372036854775807
 up : ltV x y
 none : ∀ q : S24, validV q.f0 q.f1 q.f2 = true → -9223372036854775808 ≤ q.f1 → q.f1 ≤ 9223372036854775807 → ltV x q → ltV q y → False
theorem validV_kind {x : S24} (h : validV x.f0 x.f1 x.f2 = true) : 1 ≤ x.f0 ∧ x.f0 ≤ 5 := by
 unfold validV at h
 by_cases h1 : x.f0 = 1 ∨ x.f0 = 2
 ·omega
 ·rw [if_neg h1] at h
  by_cases h3 : x.f0 = 3
  ·omega
  ·rw [if_neg h3] at h
   by_cases h4 : x.f0 = 4
   ·omega
   ·rw [if_neg h4] at h
    by_cases h5 : x.f0 = 5
    ·omega
    ·rw [if_neg h5] at h; exact absurd h (by decide)
theorem nil_of_toList {c : ByteArray} (h : c.toList = []) : c = ⟨#[]⟩ := by
 rw [Go.Lib.toList_data] at h
 cases c with | mk d => cases d with | mk l => cases h; rfl
theorem validV_cases {a b : Int} {c : ByteArray} (h : validV a b c = true) : ((a = 1 ∨ a = 2) ∧ b = 0 ∧ c = ⟨#[]⟩) ∨ (a = 3 ∧ (b = 0 ∨ b = 1) ∧ c = ⟨#[]⟩) ∨ (a = 4 ∧ c = ⟨#[]⟩) ∨ (a = 5 ∧ b = 0 ∧ c.size ≤ 64) := by
 unfold validV at h
 by_cases h1 : a = 1 ∨ a = 2
 ·rw [if_pos h1] at h
  simp only [Bool.and_eq_true, beq_iff_eq] at h
  exact .inl ⟨h1, h.1, nil_of_toList h.2⟩
 ·rw [if_neg h1] at h
  by_cases h3 : a = 3
  ·rw [if_pos h3] at h
   simp only [Bool.and_eq_true, Bool.or_eq_true, beq_iff_eq] at h
   exact .inr (.inl ⟨h3, h.1, nil_of_toList h.2⟩)
  ·rw [if_neg h3] at h
   by_cases h4 : a = 4
   ·rw [if_pos h4] at h
    simp only [beq_iff_eq] at h
    exact .inr (.inr (.inl ⟨h4, nil_of_toList h⟩))
   ·rw [if_neg h4] at h
    by_cases h5 : a = 5
    ·rw [if_pos h5] at h
     simp only [Bool.and_eq_true, beq_iff_eq, decide_eq_true_eq] at h
     exact .inr (.inr (.inr ⟨h5, h.1, by omega⟩))
    ·rw [if_neg h5] at h; exact absurd h (by decide)
theorem validV_low {a b : Int} (h : ((a = 1 ∨ a = 2) ∧ b = 0) ∨ (a = 3 ∧ (b = 0 ∨ b = 1)) ∨ a = 4 ∨ (a = 5 ∧ b = 0)) : validV a b ⟨#[]⟩ = true := by
 unfold validV
 rw [toListE]
 rcases h with ⟨h1 | h1, h2⟩ | ⟨h1, h2 | h2⟩ | h1 | ⟨h1, h2⟩ <;> subst h1 <;> (try subst h2) <;> first | (simp; done) | (simp; decide)
theorem validV_text {c : ByteArray} (h : c.size ≤ 64) : validV 5 0 c = true := by
 unfold validV
 simp; omega
theorem ltV_top {q y : S24} (hy : y.f2 = ⟨#[]⟩) (h : ltV q y) : q.f0 < y.f0 ∨ (q.f0 = y.f0 ∧ q.f1 < y.f1) := by
 rcases h with h | ⟨e, h | ⟨e', h⟩⟩
 ·exact .inl h
 ·exact .inr ⟨e, h⟩
 ·rw [hy, toListE] at h
  exact absurd h (List.not_lt_nil _)
theorem NextOk.low {x y : S24} (hx : x.f0 ≤ 4) (hy : y.f2 = ⟨#[]⟩) (hv : validV y.f0 y.f1 y.f2 = true) (lo : -9223372036854775808 ≤ y.f1) (hi : y.f1 ≤ 9223372036854775807) (up : x.f0 < y.f0 ∨ (x.f0 = y.f0 ∧ x.f1 < y.f1))
  (no : ∀ a b : Int, (((a = 1 ∨ a = 2) ∧ b = 0) ∨ (a = 3 ∧ (b = 0 ∨ b = 1)) ∨ a = 4 ∨ (a = 5 ∧ b = 0)) → -9223372036854775808 ≤ b → b ≤ 9223372036854775807 → (x.f0 < a ∨ (x.f0 = a ∧ x.f1 < b)) → (a < y.f0 ∨ (a = y.f0 ∧ b < y.f1)) → False) : NextOk x y where
 valid := hv
 lo := lo
 hi := hi
 up := by rcases up with h | ⟨e, h⟩; exact .inl h; exact .inr ⟨e, .inl h⟩
 none := by
  intro q hq l h h1 h2
  have h2 := ltV_top hy h2
  rcases validV_cases hq with hc | hc | hc | hc
  ·exact no q.f0 q.f1 (.inl ⟨hc.1, hc.2.1⟩) l h (ltV_top hc.2.2 h1) h2
  ·exact no q.f0 q.f1 (.inr (.inl ⟨hc.1, hc.2.1⟩)) l h (ltV_top hc.2.2 h1) h2
  ·exact no q.f0 q.f1 (.inr (.inr (.inl hc.1))) l h (ltV_top hc.2 h1) h2
  ·exact no q.f0 q.f1 (.inr (.inr (.inr ⟨hc.1, hc.2.1⟩))) l h (.inl (by omega)) h2
theorem NextOk.text {c d : ByteArray} (hd : d.size ≤ 64) (up : c.toList < d.toList) (no : ∀ q : List UInt8, q.length ≤ 64 → c.toList < q → q < d.toList → False) : NextOk ⟨5, 0, c⟩ ⟨5, 0, d⟩ where
 valid := validV_text hd
 lo := by show (-9223372036854775808 : Int) ≤ 0; omega
 hi := by show (0 : Int) ≤ _; omega
 up := .inr ⟨rfl, .inr ⟨rfl, up⟩⟩
 none := by
  intro q hq l h h1 h2
  rcases h1 with h1 | ⟨e, h1⟩
  ·have h3 := validV_kind hq
   have : (5 : Int) < q.f0 := h1
   omega
  ·have e : (5 : Int) = q.f0 := e
   rcases validV_cases hq with hc | hc | hc | hc
   ·omega
   ·omega
   ·omega
   ·rcases h1 with h1 | ⟨_, h1⟩
    ·have : (0 : Int) < q.f1 := h1
     omega
    ·rcases h2 with h2 | ⟨_, h2⟩
     ·have : q.f0 < (5 : Int) := h2
      omega
     ·rcases h2 with h2 | ⟨_, h2⟩
      ·have : q.f1 < (0 : Int) := h2
       omega
      ·exact no q.f2.toList (by rw [toList_len]; exact hc.2.2) h1 h2
theorem firstEv (g : Int) {a b : Int} {c : ByteArray} {d : Bool} (h : firstV g = (a, b, c, d)) : Ev (fun k => (v_First.f k g).bind fun bt => some (bt.1, bt.2.1, bt.2.2.1, bt.2.2.2)) (a, b, c, d) := by
 refine Ev.bind (v_First.ev g) ?_
 rw [h]
 exact Ev.now _
theorem v_Next.ok (x : S24) (hv : validV x.f0 x.f1 x.f2 = true) (lo : -9223372036854775808 ≤ x.f1) (hi : x.f1 ≤ 9223372036854775807) :
  (∃ y, NextOk x y ∧ Ev (fun k => v_Next.f k x.f0 x.f1 x.f2) (y.f0, y.f1, y.f2, true) ∧ Ev (fun k => r1_Next.f k x.f0 x.f1 x.f2) (y.f0, y.f1, y.f2, true)) ∨
  ((x.f0 = 5 ∧ x.f1 = 0 ∧ x.f2.toList = List.replicate 64 255) ∧ Ev (fun k => v_Next.f k x.f0 x.f1 x.f2) (0, 0, ⟨#[]⟩, false) ∧ Ev (fun k => r1_Next.f k x.f0 x.f1 x.f2) (0, 0, ⟨#[]⟩, false)) := by
 obtain ⟨a, b, c⟩ := x
 dsimp only at hv lo hi ⊢
 have evV : ∀ {f : Nat → Bool → Option (Int × Int × ByteArray × Bool)} {r}, Ev (fun n => f n true) r → Ev (fun k => (v_Valid.f k a b c).bind (f k)) r := fun hf => Ev.bind (v_Valid.ev a b c) (by rw [hv]; exact hf)
 have evR : ∀ {f : Nat → Bool → Option (Int × Int × ByteArray × Bool)} {r}, Ev (fun n => f n true) r → Ev (fun k => (r1_Valid.f k a b c).bind (f k)) r := fun hf => Ev.bind (r1_Valid.ev a b c) (by rw [hv]; exact hf)
 rcases validV_cases hv with ⟨h1 | h1, h2, h3⟩ | ⟨h1, h2 | h2, h3⟩ | ⟨h1, h3⟩ | ⟨h1, h2, h3⟩
 ·subst h1 h2 h3
  refine .inl ⟨⟨2, 0, ⟨#[]⟩⟩, NextOk.low (by simp) rfl (validV_low (by dsimp only; omega)) (by simp) (by simp) (by simp) (by intro a b; dsimp only; omega), evV ?_, evR ?_⟩
  ·exact firstEv 2 rfl
  ·exact Ev.now _
 ·subst h1 h2 h3
  refine .inl ⟨⟨3, 0, ⟨#[]⟩⟩, NextOk.low (by simp) rfl (validV_low (by dsimp only; omega)) (by simp) (by simp) (by simp) (by intro a b; dsimp only; omega), evV ?_, evR ?_⟩
  ·exact firstEv 3 rfl
  ·exact Ev.now _
 ·subst h1 h2 h3
  refine .inl ⟨⟨3, 1, ⟨#[]⟩⟩, NextOk.low (by simp) rfl (validV_low (by dsimp only; omega)) (by simp) (by simp) (by simp) (by intro a b; dsimp only; omega), evV ?_, evR ?_⟩
  ·exact Ev.now _
  ·exact Ev.now _
 ·subst h1 h2 h3
  refine .inl ⟨⟨4, -9223372036854775808, ⟨#[]⟩⟩, NextOk.low (by simp) rfl (validV_low (by dsimp only; omega)) (by simp) (by simp) (by simp) (by intro a b; dsimp only; omega), evV ?_, evR ?_⟩
  ·exact firstEv 4 rfl
  ·exact Ev.now _
 ·subst h1 h3
  by_cases hm : b = 9223372036854775807
  ·subst hm
   refine .inl ⟨⟨5, 0, ⟨#[]⟩⟩, NextOk.low (by simp) rfl (validV_low (by dsimp only; omega)) (by simp) (by simp) (by simp) (by intro a b; dsimp only; omega), evV ?_, evR ?_⟩
   ·exact firstEv 5 rfl
   ·exact Ev.now _
  ·have hw : wrap64 (b + 1) = b + 1 := by unfold wrap64; omega
   refine .inl ⟨⟨4, b + 1, ⟨#[]⟩⟩, NextOk.low (by simp) rfl (validV_low (by dsimp only; omega)) (by dsimp only; omega) (by dsimp only; omega) (by dsimp only; omega) (by intro a b'; dsimp only; omega), evV ?_, evR ?_⟩
   ·simp only [hm, hw]
    exact Ev.now _
   ·have hm' : b < 9223372036854775807 := by omega
    simp only [hm', hw]
    exact Ev.now _
 ·subst h1 h2
  by_cases hs : c.size < 64
  ·have e0 : (c ++ (⟨#[0]⟩ : ByteArray)).toList = c.toList ++ [0] := by simp only [Go.Lib.toList_data, ByteArray.data_append, Array.toList_append]
   have hsz := size_push_ c 0
   refine .inl ⟨⟨5, 0, c ++ ⟨#[0]⟩⟩, NextOk.text (by omega) (by rw [e0]; exact lt_snoc _) (by rw [e0]; exact fun q _ h1 h2 => lt_succ0 _ _ h1 h2), evV ?_, evR ?_⟩
   ·have c1 : (c.size : Int) < 64 := by omega
    have c2 : c.size + 1 ≤ 9223372036854775807 := by omega
    simp only [c1, c2]
    exact Ev.now _
   ·have c1 : (c.size : Int) < 64 := by omega
    have c2 : c.size + 1 ≤ 9223372036854775807 := by omega
    simp only [c1, c2]
    exact Ev.now _
  ·have hs64 : c.size = 64 := by omega
   have c1 : ¬ (c.size : Int) < 64 := by omega
   have hlen := toList_len c
   have red : ∀ {r}, (∀ k, c.size < k → v_Next.l0 k (c.size : Int) 5 0 c = some r) → Ev (fun k => v_Next.f k 5 0 c) r ∧ Ev (fun k => r1_Next.f k 5 0 c) r := by
    intro r hr
    refine ⟨evV ?_, evR ?_⟩
    ·simp only [c1]
     exact ⟨c.size + 1, fun k hk => hr k (by omega)⟩
    ·simp only [c1, r1_Next.l0_same]
     exact ⟨c.size + 1, fun k hk => hr k (by omega)⟩
   have hst : c.toList.drop c.size = List.replicate (c.size - c.size) 255 := by
    rw [Nat.sub_self, List.replicate_zero, List.drop_eq_nil_iff, hlen]
    exact Nat.le_refl _
   rcases v_Next.l0_is 5 0 c (by omega) c.size (c.size + 1) (Nat.le_refl _) (by omega) hst with ⟨hr, hl⟩ | ⟨p, v, m, t, hl, hv, ht, hr⟩
   ·refine .inr ⟨⟨rfl, rfl, by rw [hl, hs64]⟩, red ?_⟩
    intro k hk
    exact at_rounds (fun k => v_Next.mono_l k _ _ _ _) hk hr
   ·have hlp : p.length + (m + 1) = 64 := by
     have := congrArg List.length hl
     rw [hlen, List.length_append, List.length_cons, List.length_replicate] at this
     omega
    refine .inl ⟨⟨5, 0, t⟩, NextOk.text ?_ ?_ ?_, red ?_⟩
    ·rw [← toList_len, ht]; simp; omega
    ·rw [hl, ht]
     refine lt_app p _ _ (List.cons_lt_cons_iff.2 (.inl ?_))
     apply UInt8.lt_iff_toNat_lt.2
     rw [toNat_succ hv]; omega
    ·rw [hl, ht]
     intro q hq h1 h2
     exact lt_stop v hv m p q (by omega) h1 h2
    ·intro k hk
     exact at_rounds (fun k => v_Next.mono_l k _ _ _ _) hk hr
def zS : S24 := ⟨0, 0, ⟨#[]⟩⟩
theorem cmpV_le {x y : S24} : cmpV x y ≤ 0 ↔ ¬ ltV y x := by
 rcases cmpV_cases x y with ⟨h, e⟩ | ⟨h, e⟩ | ⟨h, e⟩
 ·rw [e]; exact ⟨fun _ k => ltV_asymm h k, fun _ => by omega⟩
 ·subst h; rw [e]; exact ⟨fun _ k => ltV_irrefl _ k, fun _ => by omega⟩
 ·rw [e]; exact ⟨fun k => by omega, fun k => absurd h k⟩
theorem le_lt {x y z : S24} (h : ¬ ltV y x) (k : ltV y z) : ltV x z := by
 rcases ltV_tri x y with h1 | h1 | h1
 ·exact ltV_trans h1 k
 ·exact h1 ▸ k
 ·exact absurd h1 h
theorem lt_le {x y z : S24} (h : ltV x y) (k : ¬ ltV z y) : ltV x z := by
 rcases ltV_tri y z with h1 | h1 | h1
 ·exact ltV_trans h h1
 ·exact h1 ▸ h
 ·exact absurd h1 k
theorem le_le {x y z : S24} (h : ¬ ltV y x) (k : ¬ ltV z y) : ¬ ltV z x := fun c => k (lt_le c h)
theorem le_of_lt {x y : S24} (h : ltV x y) : ¬ ltV y x := fun c => ltV_asymm h c
theorem le_anti {x y : S24} (h : ¬ ltV y x) (k : ¬ ltV x y) : x = y := by
 rcases ltV_tri x y with h1 | h1 | h1
 ·exact absurd h1 k
 ·exact h1
 ·exact absurd h1 h
theorem oneI_iff (x : S65) (v : S24) : oneI x v = true ↔ ¬ ltV v x.f0 ∧ (x.f2 = true ∨ ltV v x.f1) := by
 unfold oneI
 simp [cmpV_le, cmpV_lt]
theorem inI_cons (x : S65) (l : List S65) (v : S24) : inI (x :: l) v = (oneI x v || inI l v) := rfl
inductive Can : List S65 → Prop
 | nil : Can []
 | last (s : S24) : validS s = true → Can [⟨s, zS, true⟩]
 | cons (s t : S24) (l : List S65) : validS s = true → validS t = true → ltV s t → (∀ y ∈ l.head?, ltV t y.f0) → Can l → Can (⟨s, t, false⟩ :: l)
theorem S65.eta_ (x : S65) : x = ⟨x.f0, x.f1, x.f2⟩ := rfl
theorem zS_iff (x : S24) : (x.f0 == 0 && (x.f1 == 0 && (x.f2.toList == ([] : List UInt8)))) = true ↔ x = zS := by
 constructor
 ·intro h
  simp only [Bool.and_eq_true, beq_iff_eq] at h
  exact S24.ext_ h.1 h.2.1 (h.2.2.trans toListE.symm)
 ·intro h
  subst h
  simp [zS, toListE]
theorem ordI_can : ∀ l : List S65, ordI l = true ↔ Can l
 | [] => ⟨fun _ => .nil, fun _ => rfl⟩
 | x :: l => by
  have ih := ordI_can l
  by_cases h2 : x.f2 = true
  ·constructor
   ·intro h
    unfold ordI headOk at h
    simp only [h2, if_true, Bool.and_eq_true, Bool.and_true] at h
    obtain ⟨⟨hv, hl, hz⟩, -⟩ := h
    have hl : l = [] := List.isEmpty_iff.1 hl
    have hz : x.f1 = zS := (zS_iff _).1 (by simpa only [Bool.and_eq_true] using hz)
    subst hl
    have := Can.last x.f0 hv
    rw [S65.eta_ x, hz, h2]
    exact this
   ·intro h
    cases h with
    | last s hv => unfold ordI headOk; simp [hv, ordI, zS, toListE]
    | cons s t l hs ht hst hy hl => simp at h2
  ·have h2' : x.f2 = false := Bool.eq_false_iff.2 h2
   constructor
   ·intro h
    unfold ordI headOk at h
    simp only [h2', if_false, Bool.and_eq_true, Bool.false_eq_true, decide_eq_true_eq] at h
    obtain ⟨⟨⟨hs, ht, hst⟩, hg⟩, ho⟩ := h
    rw [S65.eta_ x, h2']
    refine .cons _ _ _ hs ht (cmpV_lt.1 hst) (fun y hy => ?_) (ih.1 ho)
    cases l with
    | nil => simp at hy
    | cons z l =>
     simp at hy
     subst hy
     unfold gapOk at hg
     exact cmpV_lt.1 (of_decide_eq_true hg)
   ·intro h
    cases h with
    | last s hv => simp at h2
    | cons s t l hs ht hst hy hl =>
     unfold ordI headOk
     simp only [Bool.false_eq_true, if_false, hs, ht, Bool.true_and, Bool.and_eq_true, decide_eq_true_eq]
     refine ⟨⟨cmpV_lt.2 hst, ?_⟩, ih.2 hl⟩
     cases l with
     | nil => rfl
     | cons z l => unfold gapOk; exact decide_eq_true (cmpV_lt.2 (hy z rfl))
theorem Can.ge : ∀ {l : List S65}, Can l → ∀ y ∈ l.head?, ∀ v, inI l v = true → ¬ ltV v y.f0
 | [], _, y, hy, _, _ => by simp at hy
 | x :: l, h, y, hy, v, hv => by
  simp at hy
  subst hy
  rw [inI_cons, Bool.or_eq_true] at hv
  rcases hv with hv | hv
  ·exact ((oneI_iff _ _).1 hv).1
  ·cases h with
   | last s hs => simp [inI] at hv
   | cons s t l hs ht hst hy hl =>
    cases l with
    | nil => simp [inI] at hv
    | cons z l =>
     have h1 := Can.ge hl z rfl v hv
     have h2 := hy z rfl
     exact le_le (le_of_lt (ltV_trans hst h2)) h1
theorem Can.above {s t : S24} {l : List S65} (hy : ∀ y ∈ l.head?, ltV t y.f0) (hl : Can l) {v : S24} (hv : inI l v = true) : ltV t v := by
 cases l with
 | nil => simp [inI] at hv
 | cons z l => exact lt_le (hy z rfl) (hl.ge z rfl v hv)
theorem Can.first {x : S65} {l : List S65} (h : Can (x :: l)) : validS x.f0 = true ∧ inI (x :: l) x.f0 = true := by
 cases h with
 | last s hs => exact ⟨hs, by rw [inI_cons, (oneI_iff _ _).2 ⟨ltV_irrefl _, .inl rfl⟩]; rfl⟩
 | cons s t l hs ht hst hy hl => exact ⟨hs, by rw [inI_cons, (oneI_iff _ _).2 ⟨ltV_irrefl _, .inr hst⟩]; rfl⟩
theorem Can.unique : ∀ {l m : List S65}, Can l → Can m → (∀ v, validS v = true → inI l v = inI m v) → l = m
 | [], [], _, _, _ => rfl
 | [], y :: m, _, hm, h => by
  have := h _ hm.first.1
  rw [hm.first.2] at this
  simp [inI] at this
 | x :: l, [], hl, _, h => by
  have := h _ hl.first.1
  rw [hl.first.2] at this
  simp [inI] at this
 | x :: l, y :: m, hl, hm, h => by
  have e0 : x.f0 = y.f0 := by
   refine le_anti ?_ ?_
   ·exact hl.ge x rfl _ ((h _ hm.first.1).trans hm.first.2)
   ·exact hm.ge y rfl _ ((h _ hl.first.1).symm.trans hl.first.2)
  cases hl with
  | last s hs =>
   cases hm with
   | last s' hs' => have e0 : s = s' := e0; rw [e0]
   | cons s' t m hs' ht hst hy hm =>
    have e0 : s = s' := e0
    subst e0
    have h1 := h t ht
    rw [inI_cons, inI_cons, (oneI_iff _ _).2 ⟨le_of_lt hst, .inl rfl⟩] at h1
    have h2 : oneI ⟨s, t, false⟩ t = false := by
     rw [Bool.eq_false_iff]
     intro c
     rcases ((oneI_iff _ _).1 c).2 with c | c
     ·cases c
     ·exact ltV_irrefl _ c
    rw [h2] at h1
    have h3 : inI m t = true := by simpa using h1.symm
    exact absurd (Can.above (s := s) hy hm h3) (ltV_irrefl _)
  | cons s t l hs ht hst hy hl =>
   cases hm with
   | last s' hs' =>
    have e0 : s = s' := e0
    subst e0
    have h1 := h t ht
    rw [inI_cons, inI_cons, (oneI_iff ⟨s, zS, true⟩ _).2 ⟨le_of_lt hst, .inl rfl⟩] at h1
    have h2 : oneI ⟨s, t, false⟩ t = false := by
     rw [Bool.eq_false_iff]
     intro c
     rcases ((oneI_iff _ _).1 c).2 with c | c
     ·cases c
     ·exact ltV_irrefl _ c
    rw [h2] at h1
    have h3 : inI l t = true := by simpa using h1
    exact absurd (Can.above (s := s) hy hl h3) (ltV_irrefl _)
   | cons s' t' m hs' ht' hst' hy' hm =>
    have e0 : s = s' := e0
    subst e0
    have key : ∀ {t t' : S24} {l m : List S65}, validS t = true → ltV s t → (∀ y ∈ l.head?, ltV t y.f0) → Can l → (∀ v, validS v = true → inI (⟨s, t, false⟩ :: l) v = inI (⟨s, t', false⟩ :: m) v) → ¬ ltV t t' := by
     intro t t' l m ht hst hy hl h c
     have h1 := h t ht
     rw [inI_cons, inI_cons, (oneI_iff ⟨s, t', false⟩ _).2 ⟨le_of_lt hst, .inr c⟩] at h1
     have h2 : oneI ⟨s, t, false⟩ t = false := by
      rw [Bool.eq_false_iff]
      intro c
      rcases ((oneI_iff _ _).1 c).2 with c | c
      ·cases c
      ·exact ltV_irrefl _ c
     rw [h2] at h1
     have h3 : inI l t = true := by simpa using h1
     exact ltV_irrefl _ (Can.above (s := s) hy hl h3)
    have e1 : t = t' := le_anti (key ht' hst' hy' hm fun v hv => (h v hv).symm) (key ht hst hy hl h)
    subst e1
    have : l = m := by
     refine Can.unique hl hm fun v hv => ?_
     by_cases c : ltV t v
     ·have h1 := h v hv
      rw [inI_cons, inI_cons] at h1
      have h2 : oneI ⟨s, t, false⟩ v = false := by
       rw [Bool.eq_false_iff]
       intro d
       rcases ((oneI_iff _ _).1 d).2 with d | d
       ·cases d
       ·exact ltV_asymm c d
      rw [h2] at h1
      simpa using h1
     ·have a : inI l v = false := by
       rw [Bool.eq_false_iff]
       exact fun d => c (Can.above (s := s) hy hl d)
      have b : inI m v = false := by
       rw [Bool.eq_false_iff]
       exact fun d => c (Can.above (s := s) hy' hm d)
      rw [a, b]
    rw [this]
mutual
def sw (g : S24 → Bool) : List S24 → List S65
 | [] => []
 | p :: ps => if g p then swO g p ps else sw g ps
def swO (g : S24 → Bool) (s : S24) : List S24 → List S65
 | [] => [⟨s, zS, true⟩]
 | p :: ps => if g p then swO g s ps else ⟨s, p, false⟩ :: sw g ps
end
theorem sw_can (g : S24 → Bool) : ∀ (ps : List S24), ps.Pairwise ltV → (∀ p ∈ ps, validS p = true) → (Can (sw g ps) ∧ (∀ y ∈ (sw g ps).head?, y.f0 ∈ ps)) ∧ ∀ s, validS s = true → (∀ p ∈ ps, ltV s p) → Can (swO g s ps) ∧ (∀ y ∈ (swO g s ps).head?, y.f0 = s)
 | [], _, _ => ⟨⟨by unfold sw; exact .nil, by unfold sw; simp⟩, fun s hs _ => ⟨by unfold swO; exact .last s hs, by unfold swO; simp⟩⟩
 | p :: ps, h, hv => by
  obtain ⟨hp, h⟩ := List.pairwise_cons.1 h
  obtain ⟨⟨c1, d1⟩, o1⟩ := sw_can g ps h (fun q hq => hv q (List.mem_cons_of_mem _ hq))
  have hvp := hv p (by simp)
  refine ⟨?_, fun s hs hlt => ?_⟩
  ·unfold sw
   split
   ·obtain ⟨c2, d2⟩ := o1 p hvp hp
    exact ⟨c2, fun y hy => by rw [d2 y hy]; simp⟩
   ·exact ⟨c1, fun y hy => List.mem_cons_of_mem _ (d1 y hy)⟩
  ·unfold swO
   split
   ·exact o1 s hs fun q hq => hlt q (List.mem_cons_of_mem _ hq)
   ·exact ⟨.cons _ _ _ hs hvp (hlt p (by simp)) (fun y hy => hp _ (d1 y hy)) c1, by simp⟩
def at_ (g : S24 → Bool) (d : Bool) : List S24 → S24 → Bool
 | [], _ => d
 | p :: ps, v => if cmpV v p < 0 then d else at_ g (g p) ps v
theorem at_low (g : S24 → Bool) (d : Bool) (ps : List S24) (v : S24) (h : ∀ p ∈ ps, ltV v p) : at_ g d ps v = d := by
 cases ps with
 | nil => rfl
 | cons p ps => unfold at_; rw [if_pos (cmpV_lt.2 (h p (by simp)))]
theorem sw_mem (g : S24 → Bool) (v : S24) : ∀ (ps : List S24), ps.Pairwise ltV → inI (sw g ps) v = at_ g false ps v ∧ ∀ s, (∀ p ∈ ps, ltV s p) → inI (swO g s ps) v = (decide (¬ cmpV v s < 0) && at_ g true ps v)
 | [], _ => ⟨by unfold sw at_; rfl, fun s _ => by
   unfold swO at_
   rw [inI_cons, Bool.eq_iff_iff, Bool.or_eq_true, oneI_iff]
   simp [cmpV_lt, inI]⟩
 | p :: ps, h => by
  obtain ⟨hp, h⟩ := List.pairwise_cons.1 h
  obtain ⟨c1, o1⟩ := sw_mem g v ps h
  refine ⟨?_, fun s hlt => ?_⟩
  ·unfold sw at_
   by_cases hg : g p = true
   ·rw [if_pos hg, o1 p hp, hg]
    by_cases hc : cmpV v p < 0
    ·simp [hc]
    ·simp [hc]
   ·rw [if_neg hg, c1, Bool.eq_false_iff.2 hg]
    by_cases hc : cmpV v p < 0
    ·rw [if_pos hc, at_low _ _ _ _ fun q hq => ltV_trans (cmpV_lt.1 hc) (hp q hq)]
    ·rw [if_neg hc]
  ·have hsp := hlt p (by simp)
   have hls : ∀ q ∈ ps, ltV s q := fun q hq => hlt q (List.mem_cons_of_mem _ hq)
   unfold swO at_
   by_cases hg : g p = true
   ·rw [if_pos hg, o1 s hls, hg]
    by_cases hc : cmpV v p < 0
    ·rw [if_pos hc, at_low _ _ _ _ fun q hq => ltV_trans (cmpV_lt.1 hc) (hp q hq)]
    ·rw [if_neg hc]
   ·rw [if_neg hg, inI_cons, c1, Bool.eq_false_iff.2 hg]
    by_cases hc : cmpV v p < 0
    ·rw [if_pos hc, at_low _ _ _ _ fun q hq => ltV_trans (cmpV_lt.1 hc) (hp q hq), Bool.or_false, Bool.and_true, Bool.eq_iff_iff, oneI_iff]
     simp [cmpV_lt, cmpV_lt.1 hc]
    ·rw [if_neg hc]
     have hs : ¬ cmpV v s < 0 := fun c => hc (cmpV_lt.2 (ltV_trans (cmpV_lt.1 c) hsp))
     have : oneI ⟨s, p, false⟩ v = false := by
      rw [Bool.eq_false_iff]
      intro d
      rcases ((oneI_iff _ _).1 d).2 with d | d
      ·cases d
      ·exact hc (cmpV_lt.2 d)
     rw [this]
     simp [hs]
def Chg (g : S24 → Bool) (ps : List S24) : Prop := ∀ u v, ¬ ltV v u → (∀ p ∈ ps, ¬ (ltV u p ∧ ¬ ltV v p)) → g u = g v
theorem at_chg (g : S24 → Bool) (v : S24) : ∀ (ps : List S24) (p : S24), (p :: ps).Pairwise ltV → (∀ u, ¬ ltV u p → ¬ ltV v u → (∀ q ∈ ps, ¬ (ltV u q ∧ ¬ ltV v q)) → g u = g v) → ¬ ltV v p → at_ g (g p) ps v = g v
 | [], p, _, H, hv => H p (ltV_irrefl _) hv (by simp)
 | q :: qs, p, h, H, hv => by
  obtain ⟨hp, h⟩ := List.pairwise_cons.1 h
  have hq := (List.pairwise_cons.1 h).1
  unfold at_
  by_cases hc : cmpV v q < 0
  ·rw [if_pos hc]
   refine H p (ltV_irrefl _) hv fun q' hq' hn => hn.2 ?_
   rcases List.mem_cons.1 hq' with e | e
   ·exact e ▸ cmpV_lt.1 hc
   ·exact ltV_trans (cmpV_lt.1 hc) (hq _ e)
  ·rw [if_neg hc]
   refine at_chg g v qs q h (fun u hu huv hn => H u (le_le (le_of_lt (hp q (by simp))) hu) huv fun q' hq' hn' => ?_) fun c => hc (cmpV_lt.2 c)
   rcases List.mem_cons.1 hq' with e | e
   ·exact hu (e ▸ hn'.1)
   ·exact hn q' e hn'
theorem at_all (g : S24 → Bool) (d : Bool) (ps : List S24) (h : ps.Pairwise ltV) (H : Chg g ps) (v : S24) (hv : ∀ p ∈ ps.head?, ¬ ltV v p) (hne : ps ≠ []) : at_ g d ps v = g v := by
 cases ps with
 | nil => exact absurd rfl hne
 | cons p ps =>
  have hp := hv p rfl
  unfold at_
  rw [if_neg (fun c => hp (cmpV_lt.1 c))]
  refine at_chg g v ps p h (fun u hu huv hn => H u v huv fun q hq hn' => ?_) hp
  rcases List.mem_cons.1 hq with e | e
  ·exact hu (e ▸ hn'.1)
  ·exact hn q e hn'
def endsI (l : List S65) : List S24 := l.flatMap fun x => if x.f2 = true then [x.f0] else [x.f0, x.f1]
theorem endsI_cons (x : S65) (l : List S65) : endsI (x :: l) = (if x.f2 = true then [x.f0] else [x.f0, x.f1]) ++ endsI l := by unfold endsI; rw [List.flatMap_cons]
theorem len_ends : ∀ l : List S65, l.length ≤ (endsI l).length
 | [] => by simp
 | x :: l => by
  have := len_ends l
  rw [endsI_cons, List.length_append, List.length_cons]
  split <;> simp <;> omega
theorem chg_one (x : S65) : Chg (oneI x) (if x.f2 = true then [x.f0] else [x.f0, x.f1]) := by
 intro u v huv hn
 have h0 := hn x.f0 (by split <;> simp)
 rw [Bool.eq_iff_iff, oneI_iff, oneI_iff]
 have a : ltV u x.f0 ↔ ltV v x.f0 := ⟨fun c => Classical.byContradiction fun d => h0 ⟨c, d⟩, fun c => le_lt huv c⟩
 by_cases h2 : x.f2 = true
 ·simp [h2, a]
 ·have h1 := hn x.f1 (by rw [if_neg h2]; simp)
  have b : ltV u x.f1 ↔ ltV v x.f1 := ⟨fun c => Classical.byContradiction fun d => h1 ⟨c, d⟩, fun c => le_lt huv c⟩
  simp [a, b]
theorem Chg.mono {g : S24 → Bool} {ps qs : List S24} (h : Chg g ps) (k : ∀ p ∈ ps, p ∈ qs) : Chg g qs := fun u v huv hn => h u v huv fun p hp => hn p (k p hp)
theorem chg_in : ∀ l : List S65, Chg (inI l) (endsI l)
 | [] => fun _ _ _ _ => rfl
 | x :: l => fun u v huv hn => by
  rw [inI_cons, inI_cons, chg_one x u v huv fun p hp => hn p (by rw [endsI_cons]; exact List.mem_append_left _ hp), chg_in l u v huv fun p hp => hn p (by rw [endsI_cons]; exact List.mem_append_right _ hp)]
theorem chg_kp (kp : Bool → Bool → Bool) (a b : List S65) : Chg (fun v => kp (inI a v) (inI b v)) (endsI a ++ endsI b) := fun u v huv hn => by
 show kp _ _ = kp _ _
 rw [chg_in a u v huv fun p hp => hn p (List.mem_append_left _ hp), chg_in b u v huv fun p hp => hn p (List.mem_append_right _ hp)]
theorem sw_ends (g : S24 → Bool) : ∀ (ps : List S24), (endsI (sw g ps)).length ≤ ps.length ∧ ∀ s, (endsI (swO g s ps)).length ≤ ps.length + 1
 | [] => ⟨by unfold sw; simp [endsI], fun s => by unfold swO; simp [endsI]⟩
 | p :: ps => by
  obtain ⟨c1, o1⟩ := sw_ends g ps
  refine ⟨?_, fun s => ?_⟩
  ·unfold sw
   split
   ·exact o1 p
   ·simp; omega
  ·unfold swO
   split
   ·have := o1 s; simp; omega
   ·rw [endsI_cons, List.length_append]
    simp
    omega
theorem Can.ends : ∀ {l : List S65}, Can l → ∀ p ∈ endsI l, validS p = true
 | _, .nil, p, hp => by simp [endsI] at hp
 | _, .last s hs, p, hp => by
  simp [endsI] at hp
  exact hp ▸ hs
 | _, .cons s t l hs ht _ _ hl, p, hp => by
  rw [endsI_cons] at hp
  simp at hp
  rcases hp with e | e | e
  ·exact e ▸ hs
  ·exact e ▸ ht
  ·exact Can.ends hl p e
def leastS : S24 := ⟨1, 0, ⟨#[]⟩⟩
theorem least_le {v : S24} (h : validS v = true) : ¬ ltV v leastS := by
 have hk := validV_kind (x := v) h
 rintro (c | ⟨c, d⟩)
 ·have c : v.f0 < 1 := c
  omega
 ·have c : v.f0 = 1 := c
  rcases validV_cases h with e | e | e | e
  ·rcases d with d | ⟨_, d⟩
   ·have d : v.f1 < 0 := d
    omega
   ·have d : v.f2.toList < (⟨#[]⟩ : ByteArray).toList := d
    rw [toListE] at d
    exact absurd d (by simp)
  ·omega
  ·omega
  ·omega
theorem least_valid : validS leastS = true := validV_low (a := 1) (b := 0) (.inl ⟨.inl rfl, rfl⟩)
structure IsOp (kp : Bool → Bool → Bool) (a b r : List S65) : Prop where
 can : Can r
 mem : ∀ v, validS v = true → inI r v = kp (inI a v) (inI b v)
 len : (endsI r).length ≤ 1 + (endsI a).length + (endsI b).length
theorem IsOp.of_least (kp : Bool → Bool → Bool) {a b : List S65} {ps : List S24} (hv : ∀ p ∈ ps, validS p = true) (hs : ps.Pairwise ltV) (hm : ∀ p, p ∈ ps ↔ p ∈ leastS :: (endsI a ++ endsI b)) (hl : ps.length ≤ 1 + (endsI a).length + (endsI b).length) :
  IsOp kp a b (sw (fun v => kp (inI a v) (inI b v)) ps) where
 can := (sw_can _ ps hs hv).1.1
 mem := fun v h => by
  rw [(sw_mem _ v ps hs).1]
  refine at_all _ _ ps hs ((chg_kp kp a b).mono fun p hp => (hm p).2 (List.mem_cons_of_mem _ hp)) v ?_ (List.ne_nil_of_mem ((hm leastS).2 (by simp)))
  cases ps with
  | nil => simp
  | cons p ps =>
   intro q hq
   simp at hq
   subst hq
   have hle : ¬ ltV leastS p := by
    rcases List.mem_cons.1 ((hm leastS).2 (by simp)) with e | e
    ·exact e ▸ ltV_irrefl _
    ·exact le_of_lt ((List.pairwise_cons.1 hs).1 _ e)
   exact le_le hle (least_le h)
 len := Nat.le_trans (sw_ends _ ps).1 hl
theorem inI_low {l : List S65} {v : S24} (h : ∀ p ∈ endsI l, ltV v p) : inI l v = false := by
 rw [Bool.eq_false_iff]
 intro c
 obtain ⟨x, hx, hv⟩ := List.any_eq_true.1 c
 refine ((oneI_iff x v).1 hv).1 (h _ ?_)
 unfold endsI
 rw [List.mem_flatMap]
 exact ⟨x, hx, by split <;> simp⟩
theorem IsOp.of_none (kp : Bool → Bool → Bool) (hk : kp false false = false) {a b : List S65} {ps : List S24} (hv : ∀ p ∈ ps, validS p = true) (hs : ps.Pairwise ltV) (hm : ∀ p, p ∈ ps ↔ p ∈ endsI a ++ endsI b) (hl : ps.length ≤ (endsI a).length + (endsI b).length) :
  IsOp kp a b (sw (fun v => kp (inI a v) (inI b v)) ps) ∧ (endsI (sw (fun v => kp (inI a v) (inI b v)) ps)).length ≤ (endsI a).length + (endsI b).length := by
 have h2 := Nat.le_trans (sw_ends (fun v => kp (inI a v) (inI b v)) ps).1 hl
 refine ⟨⟨(sw_can _ ps hs hv).1.1, fun v h => ?_, by omega⟩, h2⟩
 rw [(sw_mem _ v ps hs).1]
 by_cases c : ∀ p ∈ ps, ltV v p
 ·rw [at_low _ _ _ _ c, inI_low fun p hp => c p ((hm p).2 (List.mem_append_left _ hp)), inI_low fun p hp => c p ((hm p).2 (List.mem_append_right _ hp)), hk]
 ·cases ps with
  | nil => simp at c
  | cons p ps =>
   refine at_all _ _ _ hs ((chg_kp kp a b).mono fun p hp => (hm p).2 hp) v ?_ (by simp)
   intro q hq
   simp at hq
   subst hq
   intro d
   refine c fun q hq => ?_
   rcases List.mem_cons.1 hq with e | e
   ·exact e ▸ d
   ·exact ltV_trans d ((List.pairwise_cons.1 hs).1 _ e)
end Go.Proofs.Ytpjcdacnhalclaa.Q
