/- A part of the proof of the law that the last part names: facts of the functions that the law calls. No condition beyond those that stand in them. -/
import Derived.Test.YtpjcdacnhalclaaM13x3
import Derived.Test.YtpjcdacnhalclaaM13x5
import Derived.WalkLawsBesides
import Derived.Shelf.SlSortCmp.WholeK
import Derived.Shelf.SlSortCmp.Whole1
import Derived.Test.YtpjcdacnhalclaaM13x7
import Derived.Laws.CopyOwn
import Derived.Lib.SlBuf
import Derived.Test.YtpjcdacnhalclaaM13x10
import Derived.Test.YtpjcdacnhalclaaM13x8
import Derived.Test.YtpjcdacnhalclaaM13x6
import Derived.Test.YtpjcdacnhalclaaM13x9
import Derived.Lib.Bytes
namespace Go.Proofs.Ytpjcdacnhalclaa.Q
open Go.RowKit Go.Proofs.YtpjcdacnhalclaaW.PrintWords Go.Proofs.YtpjcdacnhalclaaW.PrintLast Go.Proofs.YtpjcdacnhalclaaW.PrintMore
attribute [local go_sem] max2_int min2_int max_two min_two max_three min_three max_four min_four
set_option linter.unusedVariables false
set_option linter.unusedSimpArgs false
/-- A state of type 75 at block g of W; what its slices lead to came in by w0. -/
def IsS75 (w0 W : World) (g : Nat) (f0 : List Int) (f1 : Int) : Prop := ∃ A0 c0, W.heap[g]? = some (.cells #[.slice A0 f0.length c0, .int .i64 f1] 75 (0, 0)) ∧ w0.heap.size ≤ g ∧ Kd.C (Kd.int .u8) w0 A0 f0.length f0
theorem IsS75.grown {w0 W : World} {g : Nat} {f0 : List Int} {f1 : Int} {W1 : World} {row : Option Nat} (h : IsS75 w0 W g f0 f1) (hw : W.grownBy W1 row) (hne : some g ≠ row) : IsS75 w0 W1 g f0 f1 := by
 obtain ⟨A0, c0, hb, hg, hr0⟩ := h
 exact ⟨A0, c0, blk_grown hb hw hne, hg, hr0⟩
theorem IsS75.kept {w0 W : World} {g : Nat} {f0 : List Int} {f1 : Int} {W1 : World} {S : Nat → Prop} (h : IsS75 w0 W g f0 f1) (hk : Kept W W1 S) (hne : ¬ S g) : IsS75 w0 W1 g f0 f1 := by
 obtain ⟨A0, c0, hb, hg, hr0⟩ := h
 exact ⟨A0, c0, blk_kept hb hk hne, hg, hr0⟩
theorem IsS75.below {w0 W : World} {g : Nat} {f0 : List Int} {f1 : Int} {W1 : World} (h : IsS75 w0 W g f0 f1) (hw : Below W.heap.size W W1) : IsS75 w0 W1 g f0 f1 := h.grown (grown_of_below hw none) (by simp)
theorem IsS75.alloc {w0 W : World} {g : Nat} {f0 : List Int} {f1 : Int} (h : IsS75 w0 W g f0 f1) (o : Obj) : IsS75 w0 (W.alloc o) g f0 f1 := h.below (below_alloc (Below.refl _ _) o)
theorem IsS75.drewN {w0 W : World} {g : Nat} {f0 : List Int} {f1 : Int} (h : IsS75 w0 W g f0 f1) (m : Nat) : IsS75 w0 (W.drewN m) g f0 f1 := h
theorem IsS75.drew {w0 W : World} {g : Nat} {f0 : List Int} {f1 : Int} (h : IsS75 w0 W g f0 f1) : IsS75 w0 W.drew g f0 f1 := h
theorem IsS75.apart {w0 W : World} {g : Nat} {f0 : List Int} {f1 : Int} {α : Type} {d : Kd α} {e : Nat} {base : Nat} {ok : Nat → Prop} {v : Value} {xs : List α} (h : IsS75 w0 W g f0 f1) (ho : d.R e W base ok v xs) (ht : ∀ q, q ∈ e :: d.E → q ≠ 75) : d.R e W base (fun k => ok k ∧ k ≠ g) v xs := by
 obtain ⟨A0, c0, hb, hg, hr0⟩ := h
 exact Kd.R_types ho hb ht
theorem IsS75.lt {w0 W : World} {g : Nat} {f0 : List Int} {f1 : Int} (h : IsS75 w0 W g f0 f1) : g < W.heap.size := by
 obtain ⟨A0, c0, hb, hg, hr0⟩ := h
 exact blk_lt hb
theorem IsS75.ge {w0 W : World} {g : Nat} {f0 : List Int} {f1 : Int} (h : IsS75 w0 W g f0 f1) : w0.heap.size ≤ g := by
 obtain ⟨A0, c0, hb, hg, hr0⟩ := h
 exact hg
end Go.Proofs.Ytpjcdacnhalclaa.Q
namespace Go.Proofs.Ytpjcdacnhalclaa.Q
open Go.RowKit Go.Proofs.YtpjcdacnhalclaaW.PrintWords Go.Proofs.YtpjcdacnhalclaaW.PrintLast Go.Proofs.YtpjcdacnhalclaaW.PrintMore
attribute [local go_sem] max2_int min2_int max_two min_two max_three min_three max_four min_four
set_option linter.unusedVariables false
set_option linter.unusedSimpArgs false
def partsyncref01_Compare.f (a0_0 : Int) (a0_1 : Int) (a0_2 : ByteArray) (a1_0 : Int) (a1_1 : Int) (a1_2 : ByteArray) : Option (Int) := if a0_0 < a1_0 then (some (-1)) else (if a0_0 > a1_0 then (some 1) else (if a0_1 < a1_1 then (some (-1)) else (if a0_1 > a1_1 then (some 1) else (if (Op.bytesLess a0_2.toList a1_2.toList) = true then (some (-1)) else (if (a0_2.toList == a1_2.toList) = true then (some 0) else (some 1))))))
end Go.Proofs.Ytpjcdacnhalclaa.Q
namespace Go.Proofs.Ytpjcdacnhalclaa.Q
open Go.RowKit Go.Proofs.YtpjcdacnhalclaaW.PrintWords Go.Proofs.YtpjcdacnhalclaaW.PrintLast Go.Proofs.YtpjcdacnhalclaaW.PrintMore
attribute [local go_sem] max2_int min2_int max_two min_two max_three min_three max_four min_four
set_option linter.unusedVariables false
set_option linter.unusedSimpArgs false
def partsyncref01_Valid.j0 : Nat → Int → Bool → Int → Int → ByteArray → Option (Bool)
 | 0, _, _, _, _, _ => none
 | k + 1, x4, x5, x254000, x254001, x254002 => if x5 = true then (if x254001 = 0 then (some (x254002.toList == ([] : List UInt8))) else (some false)) else (if x4 = 3 then (if x254001 = 0 then (some (x254002.toList == ([] : List UInt8))) else (if x254001 = 1 then (some (x254002.toList == ([] : List UInt8))) else (some false))) else (if x4 = 4 then (some (x254002.toList == ([] : List UInt8))) else (if x4 = 5 then (if x254001 = 0 then (some (decide ((x254002.size : Int) ≤ 64))) else (some false)) else (some false))))
def partsyncref01_Valid.f (k : Nat) (a0_0 : Int) (a0_1 : Int) (a0_2 : ByteArray) : Option (Bool) := if a0_0 = 1 then (partsyncref01_Valid.j0 k a0_0 (a0_0 == 1) a0_0 a0_1 a0_2) else (partsyncref01_Valid.j0 k a0_0 (a0_0 == 2) a0_0 a0_1 a0_2)
end Go.Proofs.Ytpjcdacnhalclaa.Q
namespace Go.Proofs.Ytpjcdacnhalclaa.Q
open Go.RowKit Go.Proofs.YtpjcdacnhalclaaW.PrintWords Go.Proofs.YtpjcdacnhalclaaW.PrintLast Go.Proofs.YtpjcdacnhalclaaW.PrintMore
attribute [local go_sem] max2_int min2_int max_two min_two max_three min_three max_four min_four
set_option linter.unusedVariables false
set_option linter.unusedSimpArgs false
def partsyncref03_Between.j0 : Nat → Bool → Int → Int → ByteArray → Int → Int → ByteArray → Option ((List (S65)) × Int)
 | 0, _, _, _, _, _, _, _ => none
 | k + 1, x13, x348000, x348001, x348002, x349000, x349001, x349002 => if x13 = true then (some (([] : List (S65)), 10)) else ((partsyncref01_Compare.f x348000 x348001 x348002 x349000 x349001 x349002).bind fun t351 => (if t351 ≥ 0 then (some (([] : List (S65)), 0)) else (some ((([(⟨(⟨x348000, x348001, x348002⟩ : S24), (⟨x349000, x349001, x349002⟩ : S24), false⟩ : S65)] : List (S65))), 0))))
def partsyncref03_Between.f (k : Nat) (a0_0 : Int) (a0_1 : Int) (a0_2 : ByteArray) (a1_0 : Int) (a1_1 : Int) (a1_2 : ByteArray) : Option ((List (S65)) × Int) := (partsyncref01_Valid.f k a0_0 a0_1 a0_2).bind fun t349 => (if t349 = true then ((partsyncref01_Valid.f k a1_0 a1_1 a1_2).bind fun t350 => (partsyncref03_Between.j0 k (!t350) a0_0 a0_1 a0_2 a1_0 a1_1 a1_2)) else (partsyncref03_Between.j0 k true a0_0 a0_1 a0_2 a1_0 a1_1 a1_2))
end Go.Proofs.Ytpjcdacnhalclaa.Q
namespace Go.Proofs.Ytpjcdacnhalclaa.Q
open Go.RowKit Go.Proofs.YtpjcdacnhalclaaW.PrintWords Go.Proofs.YtpjcdacnhalclaaW.PrintLast Go.Proofs.YtpjcdacnhalclaaW.PrintMore
attribute [local go_sem] max2_int min2_int max_two min_two max_three min_three max_four min_four
set_option linter.unusedVariables false
set_option linter.unusedSimpArgs false
def partsyncref01_Next.l0 : Nat → Int → Int → Int → ByteArray → Option (Int × Int × ByteArray × Bool)
 | 0, _, _, _, _ => none
 | k + 1, x4, x302000, x302001, x302002 => if x4 > 0 then (if 0 ≤ (wrap64 (x4 - 1)) then (if (wrap64 (x4 - 1)) < (x302002.size : Int) then (if (bt x302002 (wrap64 (x4 - 1))) = 255 then (partsyncref01_Next.l0 k (wrap64 (x4 - 1)) x302000 x302001 x302002) else (if x4 = 0 then (some (0, 0, (⟨#[]⟩ : ByteArray), false)) else (if (wrap64 (x4 - 1)) ≤ (x302002.size : Int) then ((some (([((bt x302002 (wrap64 (x4 - 1))) + 1) % 256] : List Int) : List Int)).bind fun y304 => (if (x302002.extract 0 ((wrap64 (x4 - 1)) : Int).toNat).size + (strOfNums y304).size ≤ 9223372036854775807 then (some (5, 0, (x302002.extract 0 ((wrap64 (x4 - 1)) : Int).toNat) ++ (strOfNums y304), true)) else (none))) else (none)))) else (none)) else (none)) else (if x4 = 0 then (some (0, 0, (⟨#[]⟩ : ByteArray), false)) else (if 0 ≤ (wrap64 (x4 - 1)) then (if (wrap64 (x4 - 1)) ≤ (x302002.size : Int) then (if (wrap64 (x4 - 1)) < (x302002.size : Int) then ((some (([((bt x302002 (wrap64 (x4 - 1))) + 1) % 256] : List Int) : List Int)).bind fun y307 => (if (x302002.extract 0 ((wrap64 (x4 - 1)) : Int).toNat).size + (strOfNums y307).size ≤ 9223372036854775807 then (some (5, 0, (x302002.extract 0 ((wrap64 (x4 - 1)) : Int).toNat) ++ (strOfNums y307), true)) else (none))) else (none)) else (none)) else (none)))
def partsyncref01_Next.f (k : Nat) (a0_0 : Int) (a0_1 : Int) (a0_2 : ByteArray) : Option (Int × Int × ByteArray × Bool) := (partsyncref01_Valid.f k a0_0 a0_1 a0_2).bind fun t303 => (if t303 = true then (if a0_0 = 1 then (some (2, 0, (⟨#[]⟩ : ByteArray), true)) else (if a0_0 = 2 then (some (3, 0, (⟨#[]⟩ : ByteArray), true)) else (if a0_0 = 3 then (if a0_1 = 0 then (some (3, 1, (⟨#[]⟩ : ByteArray), true)) else (some (4, (-9223372036854775808), (⟨#[]⟩ : ByteArray), true))) else (if a0_0 = 4 then (if a0_1 < 9223372036854775807 then (some (4, wrap64 (a0_1 + 1), (⟨#[]⟩ : ByteArray), true)) else (some (5, 0, (⟨#[]⟩ : ByteArray), true))) else (if (a0_2.size : Int) < 64 then (if a0_2.size + 1 ≤ 9223372036854775807 then (some (5, 0, a0_2 ++ (⟨#[0]⟩ : ByteArray), true)) else (none)) else (partsyncref01_Next.l0 k (a0_2.size : Int) a0_0 a0_1 a0_2)))))) else (some (0, 0, (⟨#[]⟩ : ByteArray), false)))
end Go.Proofs.Ytpjcdacnhalclaa.Q
namespace Go.Proofs.Ytpjcdacnhalclaa.Q
open Go.RowKit Go.Proofs.YtpjcdacnhalclaaW.PrintWords Go.Proofs.YtpjcdacnhalclaaW.PrintLast Go.Proofs.YtpjcdacnhalclaaW.PrintMore
attribute [local go_sem] max2_int min2_int max_two min_two max_three min_three max_four min_four
set_option linter.unusedVariables false
set_option linter.unusedSimpArgs false
def partsyncref03_One.f (k : Nat) (a0_0 : Int) (a0_1 : Int) (a0_2 : ByteArray) : Option ((List (S65)) × Int) := (partsyncref01_Valid.f k a0_0 a0_1 a0_2).bind fun t356 => (if t356 = true then ((partsyncref01_Next.f k a0_0 a0_1 a0_2).bind fun bt357 => (some ((([(⟨(⟨a0_0, a0_1, a0_2⟩ : S24), (⟨bt357.1, bt357.2.1, bt357.2.2.1⟩ : S24), !bt357.2.2.2⟩ : S65)] : List (S65))), 0))) else (some (([] : List (S65)), 10)))
end Go.Proofs.Ytpjcdacnhalclaa.Q
namespace Go.Proofs.Ytpjcdacnhalclaa.Q
open Go.RowKit Go.Proofs.YtpjcdacnhalclaaW.PrintWords Go.Proofs.YtpjcdacnhalclaaW.PrintLast Go.Proofs.YtpjcdacnhalclaaW.PrintMore
attribute [local go_sem] max2_int min2_int max_two min_two max_three min_three max_four min_four
set_option linter.unusedVariables false
set_option linter.unusedSimpArgs false
theorem partsyncref01_Compare.some_ (x y : S24) : partsyncref01_Compare.f x.f0 x.f1 x.f2 y.f0 y.f1 y.f2 = some (cmpV x y) := by
  unfold partsyncref01_Compare.f
  rcases cmpV_cases x y with ⟨h, e⟩ | ⟨h, e⟩ | ⟨h, e⟩
  · rw [e]
    rcases h with h | ⟨e1, h | ⟨e2, h⟩⟩
    · rw [if_pos h]
    · rw [if_neg (by omega), if_neg (by omega), if_pos h]
    · rw [if_neg (by omega), if_neg (by omega), if_neg (by omega), if_neg (by omega), if_pos (by rw [bytesLess_eq]; exact decide_eq_true h)]
  · subst h
    rw [e, if_neg (by omega), if_neg (by omega), if_neg (by omega), if_neg (by omega), if_neg (by rw [bytesLess_eq]; exact fun k => List.lt_irrefl _ (of_decide_eq_true k)), if_pos (by simp)]
  · rw [e]
    rcases h with h | ⟨e1, h | ⟨e2, h⟩⟩
    · rw [if_neg (by omega), if_pos h]
    · rw [if_neg (by omega), if_neg (by omega), if_neg (by omega), if_pos h]
    · rw [if_neg (by omega), if_neg (by omega), if_neg (by omega), if_neg (by omega), if_neg (by rw [bytesLess_eq]; exact fun k => List.lt_asymm h (of_decide_eq_true k)), if_neg (by
        intro k
        rw [beq_iff_eq] at k
        rw [k] at h
        exact List.lt_irrefl _ h)]
end Go.Proofs.Ytpjcdacnhalclaa.Q
namespace Go.Proofs.Ytpjcdacnhalclaa.Q
open Go.RowKit Go.Proofs.YtpjcdacnhalclaaW.PrintWords Go.Proofs.YtpjcdacnhalclaaW.PrintLast Go.Proofs.YtpjcdacnhalclaaW.PrintMore
attribute [local go_sem] max2_int min2_int max_two min_two max_three min_three max_four min_four
set_option linter.unusedVariables false
set_option linter.unusedSimpArgs false
theorem eqA65 (d : Nat) (w : World) (x0 y0 : Int) (x1 y1 : Int) (x2 y2 : ByteArray) (x3 y3 : Int) (x4 y4 : Int) (x5 y5 : ByteArray) (x6 y6 : Bool) :
  (Op.equalIn (d + 3) 65 (.agg #[.int .i64 x0, .int .i64 x1, .string x2, .int .i64 x3, .int .i64 x4, .string x5, .bool x6]) (.agg #[.int .i64 y0, .int .i64 y1, .string y2, .int .i64 y3, .int .i64 y4, .string y5, .bool y6])).run Try.prog w = .ok ((x0 == y0 && (x1 == y1 && (x2.toList == y2.toList))) && ((x3 == y3 && (x4 == y4 && (x5.toList == y5.toList))) && (x6 == y6))) w := by
 refine eqA_of Try.underlying65 (by kernel_rfl) ?_
 refine eqf_cons (by rfl) (by go_simp) (by go_simp) (eqA24 (d + 0) w _ _ _ _ _ _) ?_
 refine eqf_cons (by rfl) (by go_simp) (by go_simp) (eqA24 (d + 0) w _ _ _ _ _ _) ?_
 exact eqf_last (by rfl) (by go_simp; rfl) (by go_simp; rfl) (by go_simp)
end Go.Proofs.Ytpjcdacnhalclaa.Q
namespace Go.Proofs.Ytpjcdacnhalclaa.Q
open Go.RowKit Go.Proofs.YtpjcdacnhalclaaW.PrintWords Go.Proofs.YtpjcdacnhalclaaW.PrintLast Go.Proofs.YtpjcdacnhalclaaW.PrintMore
attribute [local go_sem] max2_int min2_int max_two min_two max_three min_three max_four min_four
set_option linter.unusedVariables false
set_option linter.unusedSimpArgs false
def value_First.j0 : Nat → Int → Int → Bool → Option (Int × Int × ByteArray × Bool)
 | 0, _, _, _ => none
 | k + 1, x0, x4, x5 => if x5 = true then (some (x0, 0, (⟨#[]⟩ : ByteArray), true)) else (if x4 = 4 then (some (x0, (-9223372036854775808), (⟨#[]⟩ : ByteArray), true)) else (some (0, 0, (⟨#[]⟩ : ByteArray), false)))
def value_First.f (k : Nat) (a0 : Int) : Option (Int × Int × ByteArray × Bool) := if a0 = 1 then (value_First.j0 k a0 a0 (a0 == 1)) else (if a0 = 2 then (value_First.j0 k a0 a0 (a0 == 2)) else (if a0 = 3 then (value_First.j0 k a0 a0 (a0 == 3)) else (value_First.j0 k a0 a0 (a0 == 5))))
theorem value_First.mono_l : ∀ k, (∀ y0 y1 y2, LeO (value_First.j0 k y0 y1 y2) (value_First.j0 (k + 1) y0 y1 y2))
 | 0 => fun _ _ _ r h => by simp [value_First.j0] at h
 | k + 1 => by
  have ih0 := value_First.mono_l k
  ·intro y0 y1 y2
   unfold value_First.j0
   repeat' first
   | (with_reducible exact ih0 _ _ _)
   | (with_reducible exact LeO.refl _)
   | (with_reducible exact LeO.none _)
   | (with_reducible refine LeO.ite ?_ ?_)
   | (with_reducible refine LeO.bind ?_ (fun _ => ?_))
   | exact ih0 _ _ _
   | exact LeO.none _
   | refine LeO.ite ?_ ?_
   | refine LeO.bind ?_ (fun _ => ?_)
theorem value_First.mono : ∀ a0 k, LeO (value_First.f k a0) (value_First.f (k + 1) a0) := by
 intro a0 k
 have ih0 := value_First.mono_l k
 unfold value_First.f
 repeat' first
   | (with_reducible exact ih0 _ _ _)
   | (with_reducible exact LeO.refl _)
   | (with_reducible exact LeO.none _)
   | (with_reducible refine LeO.ite ?_ ?_)
   | (with_reducible refine LeO.bind ?_ (fun _ => ?_))
   | exact ih0 _ _ _
   | exact LeO.none _
   | refine LeO.ite ?_ ?_
   | refine LeO.bind ?_ (fun _ => ?_)
end Go.Proofs.Ytpjcdacnhalclaa.Q
namespace Go.Proofs.Ytpjcdacnhalclaa.Q
open Go.RowKit Go.Proofs.YtpjcdacnhalclaaW.PrintWords Go.Proofs.YtpjcdacnhalclaaW.PrintLast Go.Proofs.YtpjcdacnhalclaaW.PrintMore
attribute [local go_sem] max2_int min2_int max_two min_two max_three min_three max_four min_four
set_option linter.unusedVariables false
set_option linter.unusedSimpArgs false
def value_Next.l0 : Nat → Int → Int → Int → ByteArray → Option (Int × Int × ByteArray × Bool)
 | 0, _, _, _, _ => none
 | k + 1, x4, x127000, x127001, x127002 => if x4 > 0 then (if 0 ≤ (wrap64 (x4 - 1)) then (if (wrap64 (x4 - 1)) < (x127002.size : Int) then (if (bt x127002 (wrap64 (x4 - 1))) = 255 then (value_Next.l0 k (wrap64 (x4 - 1)) x127000 x127001 x127002) else (if x4 = 0 then (some (0, 0, (⟨#[]⟩ : ByteArray), false)) else (if (wrap64 (x4 - 1)) ≤ (x127002.size : Int) then ((some (([((bt x127002 (wrap64 (x4 - 1))) + 1) % 256] : List Int) : List Int)).bind fun y145 => (if (x127002.extract 0 ((wrap64 (x4 - 1)) : Int).toNat).size + (strOfNums y145).size ≤ 9223372036854775807 then (some (5, 0, (x127002.extract 0 ((wrap64 (x4 - 1)) : Int).toNat) ++ (strOfNums y145), true)) else (none))) else (none)))) else (none)) else (none)) else (if x4 = 0 then (some (0, 0, (⟨#[]⟩ : ByteArray), false)) else (if 0 ≤ (wrap64 (x4 - 1)) then (if (wrap64 (x4 - 1)) ≤ (x127002.size : Int) then (if (wrap64 (x4 - 1)) < (x127002.size : Int) then ((some (([((bt x127002 (wrap64 (x4 - 1))) + 1) % 256] : List Int) : List Int)).bind fun y148 => (if (x127002.extract 0 ((wrap64 (x4 - 1)) : Int).toNat).size + (strOfNums y148).size ≤ 9223372036854775807 then (some (5, 0, (x127002.extract 0 ((wrap64 (x4 - 1)) : Int).toNat) ++ (strOfNums y148), true)) else (none))) else (none)) else (none)) else (none)))
def value_Next.f (k : Nat) (a0_0 : Int) (a0_1 : Int) (a0_2 : ByteArray) : Option (Int × Int × ByteArray × Bool) := (value_Valid.f k a0_0 a0_1 a0_2).bind fun t128 => (if t128 = true then (if a0_0 = 1 then ((value_First.f k 2).bind fun bt129 => (some (bt129.1, bt129.2.1, bt129.2.2.1, bt129.2.2.2))) else (if a0_0 = 2 then ((value_First.f k 3).bind fun bt133 => (some (bt133.1, bt133.2.1, bt133.2.2.1, bt133.2.2.2))) else (if a0_0 = 3 then (if a0_1 = 0 then (some (3, 1, (⟨#[]⟩ : ByteArray), true)) else ((value_First.f k 4).bind fun bt137 => (some (bt137.1, bt137.2.1, bt137.2.2.1, bt137.2.2.2)))) else (if a0_0 = 4 then (if a0_1 = 9223372036854775807 then ((value_First.f k 5).bind fun bt141 => (some (bt141.1, bt141.2.1, bt141.2.2.1, bt141.2.2.2))) else (some (4, wrap64 (a0_1 + 1), (⟨#[]⟩ : ByteArray), true))) else (if (a0_2.size : Int) < 64 then (if a0_2.size + 1 ≤ 9223372036854775807 then (some (5, 0, a0_2 ++ (⟨#[0]⟩ : ByteArray), true)) else (none)) else (value_Next.l0 k (a0_2.size : Int) a0_0 a0_1 a0_2)))))) else (some (0, 0, (⟨#[]⟩ : ByteArray), false)))
theorem value_Next.mono_l : ∀ k, (∀ y0 y1 y2 y3, LeO (value_Next.l0 k y0 y1 y2 y3) (value_Next.l0 (k + 1) y0 y1 y2 y3))
 | 0 => fun _ _ _ _ r h => by simp [value_Next.l0] at h
 | k + 1 => by
  have ih0 := value_Next.mono_l k
  ·intro y0 y1 y2 y3
   unfold value_Next.l0
   repeat' first
   | (with_reducible exact ih0 _ _ _ _)
   | (with_reducible exact value_First.mono _ _)
   | (with_reducible exact value_Valid.mono _ _ _ _)
   | (with_reducible exact LeO.refl _)
   | (with_reducible exact LeO.none _)
   | (with_reducible refine LeO.ite ?_ ?_)
   | (with_reducible refine LeO.bind ?_ (fun _ => ?_))
   | exact ih0 _ _ _ _
   | exact value_First.mono _ _
   | exact value_Valid.mono _ _ _ _
   | exact LeO.none _
   | refine LeO.ite ?_ ?_
   | refine LeO.bind ?_ (fun _ => ?_)
end Go.Proofs.Ytpjcdacnhalclaa.Q
namespace Go.Proofs.Ytpjcdacnhalclaa.Q
open Go.RowKit Go.Proofs.YtpjcdacnhalclaaW.PrintWords Go.Proofs.YtpjcdacnhalclaaW.PrintLast Go.Proofs.YtpjcdacnhalclaaW.PrintMore
attribute [local go_sem] max2_int min2_int max_two min_two max_three min_three max_four min_four
set_option linter.unusedVariables false
set_option linter.unusedSimpArgs false
def interval_One.f (k : Nat) (a0_0 : Int) (a0_1 : Int) (a0_2 : ByteArray) : Option ((List (S65)) × Int) := (value_Valid.f k a0_0 a0_1 a0_2).bind fun t677 => (if t677 = true then ((value_Next.f k a0_0 a0_1 a0_2).bind fun bt678 => (if bt678.2.2.2 = true then (some ((([(⟨(⟨a0_0, a0_1, a0_2⟩ : S24), (⟨bt678.1, bt678.2.1, bt678.2.2.1⟩ : S24), false⟩ : S65)] : List (S65))), 0)) else (some ((([(⟨(⟨a0_0, a0_1, a0_2⟩ : S24), (⟨0, 0, (⟨#[]⟩ : ByteArray)⟩ : S24), true⟩ : S65)] : List (S65))), 0)))) else (some (([] : List (S65)), 10)))
end Go.Proofs.Ytpjcdacnhalclaa.Q
namespace Go.Proofs.Ytpjcdacnhalclaa.Q
open Go.RowKit Go.Proofs.YtpjcdacnhalclaaW.PrintWords Go.Proofs.YtpjcdacnhalclaaW.PrintLast Go.Proofs.YtpjcdacnhalclaaW.PrintMore
attribute [local go_sem] max2_int min2_int max_two min_two max_three min_three max_four min_four
set_option linter.unusedVariables false
set_option linter.unusedSimpArgs false
def validV (a b : Int) (c : ByteArray) : Bool := if a = 1 ∨ a = 2 then (b == 0 && (c.toList == ([] : List UInt8))) else if a = 3 then ((b == 0 || b == 1) && (c.toList == ([] : List UInt8))) else if a = 4 then (c.toList == ([] : List UInt8)) else if a = 5 then (b == 0 && decide ((c.size : Int) ≤ 64)) else false
theorem value_Valid.some_ (k : Nat) (a b : Int) (c : ByteArray) : value_Valid.f (k + 1) a b c = some (validV a b c) := by
  unfold value_Valid.f validV
  by_cases h1 : a = 1
  · subst h1; simp [value_Valid.j0]
  · rw [if_neg h1]
    by_cases h2 : a = 2
    · subst h2; simp [value_Valid.j0]
    · have h2b : (a == 2) = false := beq_eq_false_iff_ne.2 h2
      simp only [value_Valid.j0, h2b, h1, h2, or_self, if_false]
      by_cases h3 : a = 3
      · subst h3
        by_cases hb : b = 0
        · simp [hb]
        · by_cases hb1 : b = 1
          · simp [hb1]
          · simp [hb, hb1]
      · by_cases h4 : a = 4
        · subst h4; simp
        · by_cases h5 : a = 5
          · subst h5
            by_cases hb : b = 0
            · simp [hb]
            · simp [hb]
          · simp [h3, h4, h5]
theorem partsyncref01_Valid.some_ (k : Nat) (a b : Int) (c : ByteArray) : partsyncref01_Valid.f (k + 1) a b c = some (validV a b c) := by
  unfold partsyncref01_Valid.f validV
  by_cases h1 : a = 1
  · subst h1
    by_cases hb : b = 0
    · simp [partsyncref01_Valid.j0, hb]
    · simp [partsyncref01_Valid.j0, hb]
  · rw [if_neg h1]
    by_cases h2 : a = 2
    · subst h2
      by_cases hb : b = 0
      · simp [partsyncref01_Valid.j0, hb]
      · simp [partsyncref01_Valid.j0, hb]
    · have h2b : (a == 2) = false := beq_eq_false_iff_ne.2 h2
      simp only [partsyncref01_Valid.j0, h2b, h1, h2, or_self, if_false]
      by_cases h3 : a = 3
      · subst h3
        by_cases hb : b = 0
        · simp [hb]
        · by_cases hb1 : b = 1
          · simp [hb1]
          · simp [hb, hb1]
      · by_cases h4 : a = 4
        · subst h4; simp
        · by_cases h5 : a = 5
          · subst h5
            by_cases hb : b = 0
            · simp [hb]
            · simp [hb]
          · simp [h3, h4, h5]
theorem ev_of_succ {α : Type} {g : Nat → Option α} {r : α} (h : ∀ k, g (k + 1) = some r) : Ev g r := ⟨1, fun k hk => by obtain ⟨j, rfl⟩ : ∃ j, k = j + 1 := ⟨k - 1, by omega⟩; exact h j⟩
theorem value_Valid.ev (a b : Int) (c : ByteArray) : Ev (fun k => value_Valid.f k a b c) (validV a b c) := ev_of_succ fun k => value_Valid.some_ k a b c
theorem partsyncref01_Valid.ev (a b : Int) (c : ByteArray) : Ev (fun k => partsyncref01_Valid.f k a b c) (validV a b c) := ev_of_succ fun k => partsyncref01_Valid.some_ k a b c
def firstV (a : Int) : Int × Int × ByteArray × Bool := if a = 1 ∨ a = 2 ∨ a = 3 ∨ a = 5 then (a, 0, ⟨#[]⟩, true) else if a = 4 then (a, -9223372036854775808, ⟨#[]⟩, true) else (0, 0, ⟨#[]⟩, false)
theorem value_First.some_ (k : Nat) (a : Int) : value_First.f (k + 1) a = some (firstV a) := by
  unfold value_First.f firstV
  by_cases h1 : a = 1
  · subst h1; simp [value_First.j0]
  · by_cases h2 : a = 2
    · subst h2; simp [value_First.j0]
    · by_cases h3 : a = 3
      · subst h3; simp [value_First.j0]
      · by_cases h5 : a = 5
        · subst h5; simp [value_First.j0]
        · have h5b : (a == 5) = false := beq_eq_false_iff_ne.2 h5
          by_cases h4 : a = 4
          · subst h4; simp [value_First.j0]
          · simp [value_First.j0, h1, h2, h3, h4, h5, h5b]
theorem value_First.ev (a : Int) : Ev (fun k => value_First.f k a) (firstV a) := ev_of_succ fun k => value_First.some_ k a
structure StOk (l : List Int) (i : Int) : Prop where
  byte : ∀ x ∈ l, 0 ≤ x ∧ x ≤ 255
  len : l.length ≤ 4096
  lo : 0 ≤ i
  hi : i ≤ l.length
theorem size_push_ (x : ByteArray) (b : UInt8) : (x ++ (⟨#[b]⟩ : ByteArray)).size = x.size + 1 := by rw [ByteArray.size_append]; rfl
theorem toListE : (⟨#[]⟩ : ByteArray).toList = [] := by rw [Go.Lib.toList_data]
end Go.Proofs.Ytpjcdacnhalclaa.Q
namespace Go.Proofs.Ytpjcdacnhalclaa.Q
open Go.RowKit Go.Proofs.YtpjcdacnhalclaaW.PrintWords Go.Proofs.YtpjcdacnhalclaaW.PrintLast Go.Proofs.YtpjcdacnhalclaaW.PrintMore
attribute [local go_sem] max2_int min2_int max_two min_two max_three min_three max_four min_four
set_option linter.unusedVariables false
set_option linter.unusedSimpArgs false
theorem rd_T65_nat (x : List S65) (i : Nat) (h : i < x.length) : rd_T65 x (i : Int) = x[i] := by
  unfold rd_T65
  rw [List.getD_eq_getElem?_getD, Int.toNat_natCast, List.getElem?_eq_getElem h]
  rfl
def validS (x : S24) : Bool := validV x.f0 x.f1 x.f2
/-- v is in the interval. -/
def oneI (x : S65) (v : S24) : Bool := decide (cmpV x.f0 v ≤ 0) && (x.f2 || decide (cmpV v x.f1 < 0))
/-- v is in one of the intervals. -/
def inI (l : List S65) (v : S24) : Bool := l.any fun x => oneI x v
theorem interval_contains.at_ (l : List S65) (hl : l.length < 4611686018427387904) (v : S24) : ∀ (m i : Nat), l.length - i = m → i ≤ l.length → Ev (fun k => interval_contains.l0 k l l.length i v.f0 v.f1 v.f2) (inI (l.drop i) v) := by
  intro m
  induction m with
  | zero =>
    intro i hm hi
    have : l.drop i = [] := List.drop_eq_nil_iff.2 (by omega)
    rw [this]
    exact Ev.step (f := fun _ => some false) (fun k => by rw [interval_contains.l0, if_neg (by omega)]) (Ev.now _)
  | succ m ih =>
    intro i hm hi
    have hil : i < l.length := by omega
    have hw : wrap64 ((i : Int) + 1) = ((i + 1 : Nat) : Int) := wrap64_succ (by omega)
    have hd : inI (l.drop i) v = (oneI l[i] v || inI (l.drop (i + 1)) v) := by rw [List.drop_eq_getElem_cons hil]; rfl
    have ih' := ih (i + 1) (by omega) (by omega)
    rw [hd]
    have hst : ∀ k, interval_contains.l0 (k + 1) l l.length i v.f0 v.f1 v.f2 = if cmpV l[i].f0 v ≤ 0 then (if l[i].f2 = true then some true else if cmpV v l[i].f1 < 0 then some true else interval_contains.l0 k l l.length ((i + 1 : Nat) : Int) v.f0 v.f1 v.f2) else interval_contains.l0 k l l.length ((i + 1 : Nat) : Int) v.f0 v.f1 v.f2 := by
      intro k
      rw [interval_contains.l0, if_pos (by omega), if_pos (by omega), if_pos (by omega), rd_T65_nat l i hil, hw]
      simp only [value_Compare.some_, Option.bind_some]
    refine Ev.step hst ?_
    unfold oneI
    by_cases h1 : cmpV l[i].f0 v ≤ 0
    · by_cases h2 : l[i].f2 = true
      · simp only [h1, h2, if_true, decide_true, Bool.true_or, Bool.and_self]
        exact Ev.now _
      · have h2 := Bool.eq_false_iff.2 h2
        by_cases h3 : cmpV v l[i].f1 < 0
        · simp only [h1, h2, h3, if_true, decide_true, Bool.false_or, Bool.and_self, Bool.true_or, Bool.false_eq_true, if_false]
          exact Ev.now _
        · simp only [h1, h2, h3, if_true, decide_true, decide_false, Bool.false_or, Bool.and_false, Bool.false_eq_true, if_false]
          exact ih'
    · simp only [h1, if_false, decide_false, Bool.false_and, Bool.false_or]
      exact ih'
theorem interval_contains.ev (l : List S65) (hl : l.length < 4611686018427387904) (v : S24) : Ev (fun k => interval_contains.f k l v.f0 v.f1 v.f2) (inI l v) := by
  have := interval_contains.at_ l hl v l.length 0 rfl (Nat.zero_le _)
  exact this
/-- What an interval before others must be. -/
def headOk (x : S65) (rest : List S65) : Bool := validS x.f0 && (if x.f2 = true then rest.isEmpty && (x.f1.f0 == 0 && (x.f1.f1 == 0 && (x.f1.f2.toList == ([] : List UInt8)))) else validS x.f1 && decide (cmpV x.f0 x.f1 < 0))
def gapOk (x : S65) : List S65 → Bool
  | [] => true
  | y :: _ => decide (cmpV x.f1 y.f0 < 0)
/-- Canonical, but for its length. -/
def ordI : List S65 → Bool
  | [] => true
  | x :: rest => headOk x rest && (if x.f2 = true then true else gapOk x rest) && ordI rest
end Go.Proofs.Ytpjcdacnhalclaa.Q
namespace Go.Proofs.Ytpjcdacnhalclaa.Q
open Go.RowKit Go.Proofs.YtpjcdacnhalclaaW.PrintWords Go.Proofs.YtpjcdacnhalclaaW.PrintLast Go.Proofs.YtpjcdacnhalclaaW.PrintMore
attribute [local go_sem] max2_int min2_int max_two min_two max_three min_three max_four min_four
set_option linter.unusedVariables false
set_option linter.unusedSimpArgs false
theorem lt_succ0 : ∀ c q : List UInt8, c < q → q < c ++ [0] → False
  | [], [], h, _ => absurd h (by simp)
  | [], y :: ys, _, h => by
    rw [List.nil_append, List.cons_lt_cons_iff] at h
    rcases h with h | ⟨_, h⟩
    · have := UInt8.lt_iff_toNat_lt.1 h
      have e0 : (0 : UInt8).toNat = 0 := rfl
      omega
    · exact absurd h (List.not_lt_nil _)
  | x :: c, [], h, _ => absurd h (List.not_lt_nil _)
  | x :: c, y :: q, h, k => by
    rw [List.cons_append, List.cons_lt_cons_iff] at k
    rw [List.cons_lt_cons_iff] at h
    rcases h with h | ⟨e, h⟩
    · have h1 := UInt8.lt_iff_toNat_lt.1 h
      rcases k with k | ⟨e', k⟩
      · have h2 := UInt8.lt_iff_toNat_lt.1 k
        omega
      · subst e'; omega
    · subst e
      rcases k with k | ⟨_, k⟩
      · exact absurd (UInt8.lt_iff_toNat_lt.1 k) (Nat.lt_irrefl _)
      · exact lt_succ0 c q h k
theorem lt_rep : ∀ (m : Nat) (q : List UInt8), q.length ≤ m → List.replicate m 255 < q → False
  | m, [], _, h => List.not_lt_nil _ h
  | 0, _ :: _, hl, _ => by simp at hl
  | m + 1, y :: q, hl, h => by
    rw [List.replicate_succ, List.cons_lt_cons_iff] at h
    rcases h with h | ⟨_, h⟩
    · have h1 := UInt8.lt_iff_toNat_lt.1 h
      have h2 := y.toNat_lt
      have e : (255 : UInt8).toNat = 255 := rfl
      omega
    · exact lt_rep m q (by simpa using hl) h
theorem toNat_succ {v : UInt8} (h : v ≠ 255) : (v + 1).toNat = v.toNat + 1 := by
  have h1 : v.toNat ≠ 255 := fun e => h (UInt8.toNat_inj.1 e)
  have h2 := v.toNat_lt
  rw [UInt8.toNat_add]
  have e : (1 : UInt8).toNat = 1 := rfl
  omega
theorem lt_stop (v : UInt8) (hv : v ≠ 255) (m : Nat) : ∀ (p q : List UInt8), q.length ≤ p.length + (m + 1) → p ++ v :: List.replicate m 255 < q → q < p ++ [v + 1] → False
  | p, [], _, h, _ => List.not_lt_nil _ h
  | [], y :: q, hl, h, k => by
    rw [List.nil_append, List.cons_lt_cons_iff] at h k
    have hs := toNat_succ hv
    rcases k with k | ⟨_, k⟩
    · have h2 := UInt8.lt_iff_toNat_lt.1 k
      rcases h with h | ⟨_, h⟩
      · have h1 := UInt8.lt_iff_toNat_lt.1 h
        omega
      · exact lt_rep m q (by simp only [List.length_cons, List.length_nil] at hl; omega) h
    · exact List.not_lt_nil _ k
  | x :: p, y :: q, hl, h, k => by
    rw [List.cons_append, List.cons_lt_cons_iff] at h k
    rcases h with h | ⟨e, h⟩
    · have h1 := UInt8.lt_iff_toNat_lt.1 h
      rcases k with k | ⟨e', k⟩
      · have h2 := UInt8.lt_iff_toNat_lt.1 k
        omega
      · subst e'; omega
    · subst e
      rcases k with k | ⟨_, k⟩
      · exact absurd (UInt8.lt_iff_toNat_lt.1 k) (Nat.lt_irrefl _)
      · exact lt_stop v hv m p q (by simp only [List.length_cons] at hl; omega) h k
theorem lt_app (p : List UInt8) (a b : List UInt8) (h : a < b) : p ++ a < p ++ b := by
  induction p with
  | nil => exact h
  | cons x p ih => exact List.cons_lt_cons_iff.2 (.inr ⟨rfl, ih⟩)
theorem lt_snoc (c : List UInt8) : c < c ++ [0] := by
  have := lt_app c [] [0] (by decide)
  rwa [List.append_nil] at this
theorem bt_data (c : ByteArray) (n : Nat) (h : n < c.size) : bt c (n : Int) = ((c.toList[n]'(by rw [Go.Lib.toList_data]; exact h)).toNat : Int) := by
  have hh : ((n : Int)).toNat < c.size := by simpa using h
  rw [← bt_at c n hh]
  simp only [Go.Lib.toList_data]
  rfl
theorem toList_len (c : ByteArray) : c.toList.length = c.size := by rw [Go.Lib.toList_data]; rfl
theorem value_Next.l0_is (a b : Int) (c : ByteArray) (hc : c.size < 4611686018427387904) : ∀ (n k : Nat), n ≤ c.size → n < k → c.toList.drop n = List.replicate (c.size - n) 255 →
    (value_Next.l0 k n a b c = some (0, 0, ⟨#[]⟩, false) ∧ c.toList = List.replicate c.size 255) ∨
    ∃ p v m t, c.toList = p ++ v :: List.replicate m 255 ∧ v ≠ 255 ∧ ByteArray.toList t = p ++ [v + 1] ∧ value_Next.l0 k n a b c = some (5, 0, t, true) := by
  intro n
  induction n with
  | zero =>
    intro k _ hk hd
    obtain ⟨k, rfl⟩ : ∃ j, k = j + 1 := ⟨k - 1, by omega⟩
    left
    refine ⟨?_, by simpa using hd⟩
    rw [value_Next.l0]
    rw [if_neg (by omega), if_pos (by omega)]
  | succ n ih =>
    intro k hn hk hd
    obtain ⟨k, rfl⟩ : ∃ j, k = j + 1 := ⟨k - 1, by omega⟩
    have hw : wrap64 (((n + 1 : Nat) : Int) - 1) = (n : Int) := by unfold wrap64; omega
    have hl : n < c.toList.length := by rw [toList_len]; omega
    have hdn : c.toList.drop n = c.toList[n] :: c.toList.drop (n + 1) := List.drop_eq_getElem_cons hl
    have hb := bt_data c n (by omega)
    rw [value_Next.l0, hw, if_pos (by omega), if_pos (by omega), if_pos (by omega)]
    by_cases hv : c.toList[n] = 255
    · have e255 : (255 : UInt8).toNat = 255 := rfl
      rw [if_pos (by rw [hb, hv, e255]; rfl)]
      refine ih k (by omega) (by omega) ?_
      rw [hdn, hv, hd, show c.size - n = (c.size - (n + 1)) + 1 by omega, List.replicate_succ]
    · have hv' : ¬ bt c (n : Int) = 255 := by
        rw [hb]
        intro e
        exact hv (UInt8.toNat_inj.1 (show _ = (255 : UInt8).toNat from by have e255 : (255 : UInt8).toNat = 255 := rfl; omega))
      rw [if_neg hv', if_neg (by omega), if_pos (by omega)]
      right
      have hsz : (c.extract 0 ((n : Int)).toNat).size = n := by rw [ByteArray.size_extract]; simp; omega
      have hst : (strOfNums [((bt c (n : Int)) + 1) % 256]).size = 1 := rfl
      refine ⟨c.toList.take n, c.toList[n], c.size - (n + 1), c.extract 0 ((n : Int)).toNat ++ strOfNums [((bt c (n : Int)) + 1) % 256], ?_, hv, ?_, ?_⟩
      · rw [← hd, ← hdn, List.take_append_drop]
      · have h1 : (c.extract 0 ((n : Int)).toNat ++ strOfNums [((bt c (n : Int)) + 1) % 256]).toList = (c.extract 0 ((n : Int)).toNat).toList ++ (strOfNums [((bt c (n : Int)) + 1) % 256]).toList := by
          simp only [Go.Lib.toList_data, ByteArray.data_append, Array.toList_append]
        rw [h1, Go.Lib.strOfNums_toList]
        congr 1
        · simp only [Go.Lib.toList_data, ByteArray.data_extract, Array.toList_extract]
          simp
        · rw [hb]
          show [UInt8.ofNat _] = _
          congr 1
          apply UInt8.toNat_inj.1
          rw [toNat_succ hv, UInt8.toNat_ofNat']
          have h2 := (c.toList[n]).toNat_lt
          have h3 : (c.toList[n]).toNat ≠ 255 := fun e => hv (UInt8.toNat_inj.1 e)
          omega
      · simp only [Option.bind_some]
        rw [if_pos (by omega)]
theorem partsyncref01_Next.l0_same : ∀ (k : Nat) (n a b : Int) (c : ByteArray), partsyncref01_Next.l0 k n a b c = value_Next.l0 k n a b c
  | 0, _, _, _, _ => rfl
  | k + 1, n, a, b, c => by
    rw [partsyncref01_Next.l0, value_Next.l0]
    simp only [partsyncref01_Next.l0_same k]
/-- What the value behind a value is. -/
structure NextOk (x y : S24) : Prop where
  valid : validV y.f0 y.f1 y.f2 = true
  lo : -9223372036854775808 ≤ y.f1
  hi : y.f1 ≤ 9223372036854775807
  up : ltV x y
  none : ∀ q : S24, validV q.f0 q.f1 q.f2 = true → -9223372036854775808 ≤ q.f1 → q.f1 ≤ 9223372036854775807 → ltV x q → ltV q y → False
theorem validV_kind {x : S24} (h : validV x.f0 x.f1 x.f2 = true) : 1 ≤ x.f0 ∧ x.f0 ≤ 5 := by
  unfold validV at h
  by_cases h1 : x.f0 = 1 ∨ x.f0 = 2
  · omega
  · rw [if_neg h1] at h
    by_cases h3 : x.f0 = 3
    · omega
    · rw [if_neg h3] at h
      by_cases h4 : x.f0 = 4
      · omega
      · rw [if_neg h4] at h
        by_cases h5 : x.f0 = 5
        · omega
        · rw [if_neg h5] at h; exact absurd h (by decide)
theorem nil_of_toList {c : ByteArray} (h : c.toList = []) : c = ⟨#[]⟩ := by
  rw [Go.Lib.toList_data] at h
  cases c with | mk d => cases d with | mk l => cases h; rfl
theorem validV_cases {a b : Int} {c : ByteArray} (h : validV a b c = true) : ((a = 1 ∨ a = 2) ∧ b = 0 ∧ c = ⟨#[]⟩) ∨ (a = 3 ∧ (b = 0 ∨ b = 1) ∧ c = ⟨#[]⟩) ∨ (a = 4 ∧ c = ⟨#[]⟩) ∨ (a = 5 ∧ b = 0 ∧ c.size ≤ 64) := by
  unfold validV at h
  by_cases h1 : a = 1 ∨ a = 2
  · rw [if_pos h1] at h
    simp only [Bool.and_eq_true, beq_iff_eq] at h
    exact .inl ⟨h1, h.1, nil_of_toList h.2⟩
  · rw [if_neg h1] at h
    by_cases h3 : a = 3
    · rw [if_pos h3] at h
      simp only [Bool.and_eq_true, Bool.or_eq_true, beq_iff_eq] at h
      exact .inr (.inl ⟨h3, h.1, nil_of_toList h.2⟩)
    · rw [if_neg h3] at h
      by_cases h4 : a = 4
      · rw [if_pos h4] at h
        simp only [beq_iff_eq] at h
        exact .inr (.inr (.inl ⟨h4, nil_of_toList h⟩))
      · rw [if_neg h4] at h
        by_cases h5 : a = 5
        · rw [if_pos h5] at h
          simp only [Bool.and_eq_true, beq_iff_eq, decide_eq_true_eq] at h
          exact .inr (.inr (.inr ⟨h5, h.1, by omega⟩))
        · rw [if_neg h5] at h; exact absurd h (by decide)
theorem validV_low {a b : Int} (h : ((a = 1 ∨ a = 2) ∧ b = 0) ∨ (a = 3 ∧ (b = 0 ∨ b = 1)) ∨ a = 4 ∨ (a = 5 ∧ b = 0)) : validV a b ⟨#[]⟩ = true := by
  unfold validV
  rw [toListE]
  rcases h with ⟨h1 | h1, h2⟩ | ⟨h1, h2 | h2⟩ | h1 | ⟨h1, h2⟩ <;> subst h1 <;> (try subst h2) <;> first | (simp; done) | (simp; decide)
theorem validV_text {c : ByteArray} (h : c.size ≤ 64) : validV 5 0 c = true := by
  unfold validV
  simp; omega
theorem ltV_top {q y : S24} (hy : y.f2 = ⟨#[]⟩) (h : ltV q y) : q.f0 < y.f0 ∨ (q.f0 = y.f0 ∧ q.f1 < y.f1) := by
  rcases h with h | ⟨e, h | ⟨e', h⟩⟩
  · exact .inl h
  · exact .inr ⟨e, h⟩
  · rw [hy, toListE] at h
    exact absurd h (List.not_lt_nil _)
/-- The value behind one that is no text. -/
theorem NextOk.low {x y : S24} (hx : x.f0 ≤ 4) (hy : y.f2 = ⟨#[]⟩) (hv : validV y.f0 y.f1 y.f2 = true) (lo : -9223372036854775808 ≤ y.f1) (hi : y.f1 ≤ 9223372036854775807) (up : x.f0 < y.f0 ∨ (x.f0 = y.f0 ∧ x.f1 < y.f1))
    (no : ∀ a b : Int, (((a = 1 ∨ a = 2) ∧ b = 0) ∨ (a = 3 ∧ (b = 0 ∨ b = 1)) ∨ a = 4 ∨ (a = 5 ∧ b = 0)) → -9223372036854775808 ≤ b → b ≤ 9223372036854775807 → (x.f0 < a ∨ (x.f0 = a ∧ x.f1 < b)) → (a < y.f0 ∨ (a = y.f0 ∧ b < y.f1)) → False) : NextOk x y where
  valid := hv
  lo := lo
  hi := hi
  up := by rcases up with h | ⟨e, h⟩; exact .inl h; exact .inr ⟨e, .inl h⟩
  none := by
    intro q hq l h h1 h2
    have h2 := ltV_top hy h2
    rcases validV_cases hq with hc | hc | hc | hc
    · exact no q.f0 q.f1 (.inl ⟨hc.1, hc.2.1⟩) l h (ltV_top hc.2.2 h1) h2
    · exact no q.f0 q.f1 (.inr (.inl ⟨hc.1, hc.2.1⟩)) l h (ltV_top hc.2.2 h1) h2
    · exact no q.f0 q.f1 (.inr (.inr (.inl hc.1))) l h (ltV_top hc.2 h1) h2
    · exact no q.f0 q.f1 (.inr (.inr (.inr ⟨hc.1, hc.2.1⟩))) l h (.inl (by omega)) h2
theorem NextOk.text {c d : ByteArray} (hd : d.size ≤ 64) (up : c.toList < d.toList) (no : ∀ q : List UInt8, q.length ≤ 64 → c.toList < q → q < d.toList → False) : NextOk ⟨5, 0, c⟩ ⟨5, 0, d⟩ where
  valid := validV_text hd
  lo := by show (-9223372036854775808 : Int) ≤ 0; omega
  hi := by show (0 : Int) ≤ _; omega
  up := .inr ⟨rfl, .inr ⟨rfl, up⟩⟩
  none := by
    intro q hq l h h1 h2
    rcases h1 with h1 | ⟨e, h1⟩
    · have h3 := validV_kind hq
      have : (5 : Int) < q.f0 := h1
      omega
    · have e : (5 : Int) = q.f0 := e
      rcases validV_cases hq with hc | hc | hc | hc
      · omega
      · omega
      · omega
      · rcases h1 with h1 | ⟨_, h1⟩
        · have : (0 : Int) < q.f1 := h1
          omega
        · rcases h2 with h2 | ⟨_, h2⟩
          · have : q.f0 < (5 : Int) := h2
            omega
          · rcases h2 with h2 | ⟨_, h2⟩
            · have : q.f1 < (0 : Int) := h2
              omega
            · exact no q.f2.toList (by rw [toList_len]; exact hc.2.2) h1 h2
theorem firstEv (g : Int) {a b : Int} {c : ByteArray} {d : Bool} (h : firstV g = (a, b, c, d)) : Ev (fun k => (value_First.f k g).bind fun bt => some (bt.1, bt.2.1, bt.2.2.1, bt.2.2.2)) (a, b, c, d) := by
  refine Ev.bind (value_First.ev g) ?_
  rw [h]
  exact Ev.now _
theorem value_Next.ok (x : S24) (hv : validV x.f0 x.f1 x.f2 = true) (lo : -9223372036854775808 ≤ x.f1) (hi : x.f1 ≤ 9223372036854775807) :
    (∃ y, NextOk x y ∧ Ev (fun k => value_Next.f k x.f0 x.f1 x.f2) (y.f0, y.f1, y.f2, true) ∧ Ev (fun k => partsyncref01_Next.f k x.f0 x.f1 x.f2) (y.f0, y.f1, y.f2, true)) ∨
    ((x.f0 = 5 ∧ x.f1 = 0 ∧ x.f2.toList = List.replicate 64 255) ∧ Ev (fun k => value_Next.f k x.f0 x.f1 x.f2) (0, 0, ⟨#[]⟩, false) ∧ Ev (fun k => partsyncref01_Next.f k x.f0 x.f1 x.f2) (0, 0, ⟨#[]⟩, false)) := by
  obtain ⟨a, b, c⟩ := x
  dsimp only at hv lo hi ⊢
  have evV : ∀ {f : Nat → Bool → Option (Int × Int × ByteArray × Bool)} {r}, Ev (fun n => f n true) r → Ev (fun k => (value_Valid.f k a b c).bind (f k)) r := fun hf => Ev.bind (value_Valid.ev a b c) (by rw [hv]; exact hf)
  have evR : ∀ {f : Nat → Bool → Option (Int × Int × ByteArray × Bool)} {r}, Ev (fun n => f n true) r → Ev (fun k => (partsyncref01_Valid.f k a b c).bind (f k)) r := fun hf => Ev.bind (partsyncref01_Valid.ev a b c) (by rw [hv]; exact hf)
  rcases validV_cases hv with ⟨h1 | h1, h2, h3⟩ | ⟨h1, h2 | h2, h3⟩ | ⟨h1, h3⟩ | ⟨h1, h2, h3⟩
  · subst h1 h2 h3
    refine .inl ⟨⟨2, 0, ⟨#[]⟩⟩, NextOk.low (by simp) rfl (validV_low (by dsimp only; omega)) (by simp) (by simp) (by simp) (by intro a b; dsimp only; omega), evV ?_, evR ?_⟩
    · exact firstEv 2 rfl
    · exact Ev.now _
  · subst h1 h2 h3
    refine .inl ⟨⟨3, 0, ⟨#[]⟩⟩, NextOk.low (by simp) rfl (validV_low (by dsimp only; omega)) (by simp) (by simp) (by simp) (by intro a b; dsimp only; omega), evV ?_, evR ?_⟩
    · exact firstEv 3 rfl
    · exact Ev.now _
  · subst h1 h2 h3
    refine .inl ⟨⟨3, 1, ⟨#[]⟩⟩, NextOk.low (by simp) rfl (validV_low (by dsimp only; omega)) (by simp) (by simp) (by simp) (by intro a b; dsimp only; omega), evV ?_, evR ?_⟩
    · exact Ev.now _
    · exact Ev.now _
  · subst h1 h2 h3
    refine .inl ⟨⟨4, -9223372036854775808, ⟨#[]⟩⟩, NextOk.low (by simp) rfl (validV_low (by dsimp only; omega)) (by simp) (by simp) (by simp) (by intro a b; dsimp only; omega), evV ?_, evR ?_⟩
    · exact firstEv 4 rfl
    · exact Ev.now _
  · subst h1 h3
    by_cases hm : b = 9223372036854775807
    · subst hm
      refine .inl ⟨⟨5, 0, ⟨#[]⟩⟩, NextOk.low (by simp) rfl (validV_low (by dsimp only; omega)) (by simp) (by simp) (by simp) (by intro a b; dsimp only; omega), evV ?_, evR ?_⟩
      · exact firstEv 5 rfl
      · exact Ev.now _
    · have hw : wrap64 (b + 1) = b + 1 := by unfold wrap64; omega
      refine .inl ⟨⟨4, b + 1, ⟨#[]⟩⟩, NextOk.low (by simp) rfl (validV_low (by dsimp only; omega)) (by dsimp only; omega) (by dsimp only; omega) (by dsimp only; omega) (by intro a b'; dsimp only; omega), evV ?_, evR ?_⟩
      · simp only [hm, hw]
        exact Ev.now _
      · have hm' : b < 9223372036854775807 := by omega
        simp only [hm', hw]
        exact Ev.now _
  · subst h1 h2
    by_cases hs : c.size < 64
    · have e0 : (c ++ (⟨#[0]⟩ : ByteArray)).toList = c.toList ++ [0] := by simp only [Go.Lib.toList_data, ByteArray.data_append, Array.toList_append]
      have hsz := size_push_ c 0
      refine .inl ⟨⟨5, 0, c ++ ⟨#[0]⟩⟩, NextOk.text (by omega) (by rw [e0]; exact lt_snoc _) (by rw [e0]; exact fun q _ h1 h2 => lt_succ0 _ _ h1 h2), evV ?_, evR ?_⟩
      · have c1 : (c.size : Int) < 64 := by omega
        have c2 : c.size + 1 ≤ 9223372036854775807 := by omega
        simp only [c1, c2]
        exact Ev.now _
      · have c1 : (c.size : Int) < 64 := by omega
        have c2 : c.size + 1 ≤ 9223372036854775807 := by omega
        simp only [c1, c2]
        exact Ev.now _
    · have hs64 : c.size = 64 := by omega
      have c1 : ¬ (c.size : Int) < 64 := by omega
      have hlen := toList_len c
      have red : ∀ {r}, (∀ k, c.size < k → value_Next.l0 k (c.size : Int) 5 0 c = some r) → Ev (fun k => value_Next.f k 5 0 c) r ∧ Ev (fun k => partsyncref01_Next.f k 5 0 c) r := by
        intro r hr
        refine ⟨evV ?_, evR ?_⟩
        · simp only [c1]
          exact ⟨c.size + 1, fun k hk => hr k (by omega)⟩
        · simp only [c1, partsyncref01_Next.l0_same]
          exact ⟨c.size + 1, fun k hk => hr k (by omega)⟩
      have hst : c.toList.drop c.size = List.replicate (c.size - c.size) 255 := by
        rw [Nat.sub_self, List.replicate_zero, List.drop_eq_nil_iff, hlen]
        exact Nat.le_refl _
      rcases value_Next.l0_is 5 0 c (by omega) c.size (c.size + 1) (Nat.le_refl _) (by omega) hst with ⟨hr, hl⟩ | ⟨p, v, m, t, hl, hv, ht, hr⟩
      · refine .inr ⟨⟨rfl, rfl, by rw [hl, hs64]⟩, red ?_⟩
        intro k hk
        exact at_rounds (fun k => value_Next.mono_l k _ _ _ _) hk hr
      · have hlp : p.length + (m + 1) = 64 := by
          have := congrArg List.length hl
          rw [hlen, List.length_append, List.length_cons, List.length_replicate] at this
          omega
        refine .inl ⟨⟨5, 0, t⟩, NextOk.text ?_ ?_ ?_, red ?_⟩
        · rw [← toList_len, ht]; simp; omega
        · rw [hl, ht]
          refine lt_app p _ _ (List.cons_lt_cons_iff.2 (.inl ?_))
          apply UInt8.lt_iff_toNat_lt.2
          rw [toNat_succ hv]; omega
        · rw [hl, ht]
          intro q hq h1 h2
          exact lt_stop v hv m p q (by omega) h1 h2
        · intro k hk
          exact at_rounds (fun k => value_Next.mono_l k _ _ _ _) hk hr
end Go.Proofs.Ytpjcdacnhalclaa.Q
