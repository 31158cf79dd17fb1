/- A part of a proof: facts of functions that the law calls; conditions stand in each. -/
import Derived.Test.YtpjcdacnhalclaaV6x2
import Derived.Test.YtpjcdacnhalclaaV6x3
import Derived.WalkKit
import Derived.ProofKit
import Derived.OpenShut
import Derived.ShutString
import Derived.ChangeOld
import Derived.Below
import Derived.SizedLaws
import Derived.Lib.SmallJoins
import Derived.Carry
import Derived.Shelf.SlSortCmp.Whole1
import Derived.Sort.Walk0
import Derived.Lib.Bytes
import Derived.Shelf.SlSortCmp.WholeK
set_option linter.unusedVariables false
set_option linter.unusedSimpArgs false
namespace Go.Proofs.Ytpjcdacnhalclaa.Q
open Go.RowKit Go.Proofs.YtpjcdacnhalclaaW.PrintWords Go.Proofs.YtpjcdacnhalclaaW.PrintLast Go.Proofs.YtpjcdacnhalclaaW.PrintMore
attribute [local go_sem] max2_int min2_int max_two min_two max_three min_three max_four min_four
theorem wf_byte {n : Int} (h : (Lit.int .u8 n).wf = true) : 0 ≤ n ∧ n ≤ 255 := by
 simp [Lit.wf, IntKind.min, IntKind.max, IntKind.bits, IntKind.signed] at h
 omega
theorem own : ownKnob Try.prog.godebug = none := by kernel_rfl
theorem laidOut : laidOutB Try.prog = true := by kernel_rfl
def IsRow (k : IntKind) (w : World) (a : Option Addr) (len cap : Nat) (zs : List Int) : Prop :=
 (a = none ∧ len = 0 ∧ cap = 0 ∧ zs = []) ∨
 ∃ x, a = some x ∧ len ≤ cap ∧ cap ≤ maxLen ∧ zs.length = cap ∧ (∀ i, i < zs.length → w.cell? (x.add i) = some (.int k (zs.getD i 0))) ∧ ∀ n ∈ zs, (Lit.int k n).wf = true
theorem eqA24 (d : Nat) (w : World) (x0 y0 : Int) (x1 y1 : Int) (x2 y2 : ByteArray) :
  (Op.equalIn (d + 2) 24 (.agg #[.int .i64 x0, .int .i64 x1, .string x2]) (.agg #[.int .i64 y0, .int .i64 y1, .string y2])).run Try.prog w = .ok (x0 == y0 && (x1 == y1 && (x2.toList == y2.toList))) w := by
 refine eqA_of Try.underlying24 (by kernel_rfl) ?_
 refine eqf_cons (by rfl) (by go_simp; rfl) (by go_simp; rfl) (by go_simp) ?_
 refine eqf_cons (by rfl) (by go_simp; rfl) (by go_simp; rfl) (by go_simp) ?_
 exact eqf_last (by rfl) (by go_simp; rfl) (by go_simp; rfl) (by go_simp)
end Go.Proofs.Ytpjcdacnhalclaa.Q
namespace Go.Proofs.Ytpjcdacnhalclaa.Q
open Go.RowKit Go.Proofs.YtpjcdacnhalclaaW.PrintWords Go.Proofs.YtpjcdacnhalclaaW.PrintLast Go.Proofs.YtpjcdacnhalclaaW.PrintMore
attribute [local go_sem] max2_int min2_int max_two min_two max_three min_three max_four min_four
attribute [local go_sem high] eqA24
def v_Valid.j0 : Nat → Int → Bool → Int → Int → ByteArray → Option (Bool)
 | 0, _, _, _, _, _ => none
 | k + 1, x4, x5, x123000, x123001, x123002 => if x5 = true then (some (x123001 == 0 && (x123002.toList == ([] : List UInt8)))) else (if x4 = 3 then (if x123001 = 0 then (some (x123002.toList == ([] : List UInt8))) else (if x123001 = 1 then (some (x123002.toList == ([] : List UInt8))) else (some false))) else (if x4 = 4 then (some (x123002.toList == ([] : List UInt8))) else (if x4 = 5 then (if x123001 = 0 then (some (decide ((x123002.size : Int) ≤ 64))) else (some false)) else (some false))))
def v_Valid.f (k : Nat) (a0_0 : Int) (a0_1 : Int) (a0_2 : ByteArray) : Option (Bool) := if a0_0 = 1 then (v_Valid.j0 k a0_0 (a0_0 == 1) a0_0 a0_1 a0_2) else (v_Valid.j0 k a0_0 (a0_0 == 2) a0_0 a0_1 a0_2)
theorem v_Valid.mono_l : ∀ k, (∀ y0 y1 y2 y3 y4, LeO (v_Valid.j0 k y0 y1 y2 y3 y4) (v_Valid.j0 (k + 1) y0 y1 y2 y3 y4))
 | 0 => fun _ _ _ _ _ r h => by simp [v_Valid.j0] at h
 | k + 1 => by
  have ih0 := v_Valid.mono_l k
  ·intro y0 y1 y2 y3 y4
   unfold v_Valid.j0
   repeat' first
   | (with_reducible exact ih0 _ _ _ _ _)
   | (with_reducible exact LeO.refl _)
   | (with_reducible exact LeO.none _)
   | (with_reducible refine LeO.ite ?_ ?_)
   | (with_reducible refine LeO.bind ?_ (fun _ => ?_))
   | exact ih0 _ _ _ _ _
   | exact LeO.none _
   | refine LeO.ite ?_ ?_
   | refine LeO.bind ?_ (fun _ => ?_)
theorem v_Valid.mono : ∀ a0 a1 a2 k, LeO (v_Valid.f k a0 a1 a2) (v_Valid.f (k + 1) a0 a1 a2) := by
 intro a0 a1 a2 k
 have ih0 := v_Valid.mono_l k
 unfold v_Valid.f
 repeat' first
   | (with_reducible exact ih0 _ _ _ _ _)
   | (with_reducible exact LeO.refl _)
   | (with_reducible exact LeO.none _)
   | (with_reducible refine LeO.ite ?_ ?_)
   | (with_reducible refine LeO.bind ?_ (fun _ => ?_))
   | exact ih0 _ _ _ _ _
   | exact LeO.none _
   | refine LeO.ite ?_ ?_
   | refine LeO.bind ?_ (fun _ => ?_)
set_option maxHeartbeats 8000000 in
set_option maxRecDepth 100000 in
theorem v_Valid.calls (k : Nat) (a0_0 : Int) (a0_1 : Int) (a0_2 : ByteArray) (r : Bool) (w : World) (h : v_Valid.f k a0_0 a0_1 a0_2 = some r) :
  Calls Try.prog 21 #[.agg #[.int .i64 a0_0, .int .i64 a0_1, .string a0_2]] w fun e w' => e = .returned (.bool r) ∧ Below w.heap.size w w' := by
 have hu24 := Try.underlying24
 have HB := aK (Below.refl w.heap.size w)
 have H : (if a0_0 = 1 then (v_Valid.j0 k a0_0 (a0_0 == 1) a0_0 a0_1 a0_2) else (v_Valid.j0 k a0_0 (a0_0 == 2) a0_0 a0_1 a0_2)) = some r := h
 clear h
 have HC2 := Aside0.mk H
 clear H
 go_enter Try.func21, Try.ntmps21
 go_upto_if 5 with (first | ((with_reducible refine gate_dst (N := 1) rfl ?_); (try (refine gate_guard (by rfl) ?_; dsimp only)); refine box_event ?hg (N := 1) ?hd (cs := #[.int .i64 a0_0, .int .i64 a0_1, .string a0_2]) (t := 24) ?hr ?_; (case hd => rfl); (case hg => rfl); (case hr => exact hR); intro gb122 hg w3 hbox hb; have n0_ := aK (below_step bO hb); have n1_ := aK (hbox); have n2_ := aK ((by rw [hg]; exact (below_size bO) : w.heap.size ≤ gb122)); have n3_ := aK ((by rw [hg]; exact (below_size bO) : w.heap.size ≤ gb122)); clear HB; have HB := n0_; have BK122 := n1_; have GW122 := n2_; have GE122 := n3_; clear n0_ n1_ n2_ n3_ hb hbox hg; obtain ⟨hcz4_0, hcz4_1, hcz4_2⟩ := z3 BK122.out (.int .i64 a0_0) (.int .i64 a0_1) (.string a0_2); obtain ⟨hfz4_0, hfz4_1, hfz4_2⟩ := f3 BK122.out))
 (try simp only [Act.put, List.setIfInBounds_toArray, List.set_cons_zero, List.set_cons_succ])
 go_cut [5] (fun v5 wc => ∃ (kq : Nat) (x5_1 : Bool), v5 = .bool x5_1 ∧ Aside0 (v_Valid.j0 kq a0_0 x5_1 a0_0 a0_1 a0_2 = some r) ∧ Aside0 (kq ≤ k) ∧ Aside0 (wc.heap[gb122]? = some (.cells #[.int .i64 a0_0, .int .i64 a0_1, .string a0_2] 24 (0, 0))) ∧ Aside0 (Below w.heap.size w wc))
 case first =>
  have H := HC2.out
  clear HC2
  by_cases c5 : a0_0 = 1
  rotate_left
  ·rw [if_neg c5] at H
   have c5b0 : (a0_0 == 1) = false := beq_eq_false_iff_ne.mpr c5
   have c5b1 : (a0_0 != 1) = true := bne_iff_ne.mpr c5
   (first | rw [c5b0] | (simp only [i64_w, i32_w]; rw [c5b0]) | skip)
   have H' := Aside0.mk H
   clear H
   go_wp2
   go_meet
   case rel => exact ⟨_, ((a0_0 == 2)), (by first | rfl | (simp; done) | (simp [*]; done)), H', ⟨by first | omega | exact Nat.le_refl _⟩, ⟨by (with_reducible repeat (first | refine blk_drewN ?_ _ | refine blk_drew ?_ | refine blk_alloc ?_ _)); exact BK122.out⟩, ⟨bS GE122.out⟩⟩
  rw [if_pos c5] at H
  have c5b0 : (a0_0 == 1) = true := beq_iff_eq.mpr c5
  have c5b1 : (a0_0 != 1) = false := bne_eq_false_iff_eq.mpr c5
  clear c5
  (first | rw [c5b0] | (simp only [i64_w, i32_w]; rw [c5b0]) | skip)
  have H' := Aside0.mk H
  clear H
  go_wp2
  go_meet
  case rel => exact ⟨_, ((a0_0 == 1)), (by first | rfl | (simp; done) | (simp [*]; done)), H', ⟨by first | omega | exact Nat.le_refl _⟩, ⟨by (with_reducible repeat (first | refine blk_drewN ?_ _ | refine blk_drew ?_ | refine blk_alloc ?_ _)); exact BK122.out⟩, ⟨bS GE122.out⟩⟩
 case rest =>
  clear HC2
  try clear c2
  try clear p2
  try clear c5
  try clear c5b0
  try clear c5b1
  try clear hcz4_0
  try clear hcz4_1
  try clear hcz4_2
  try clear hfz4_0
  try clear hfz4_1
  try clear hfz4_2
  obtain ⟨kq, x5_1, rfl, HA, HJ1, BK122, HB⟩ := hcut
  cases kq with
  | zero => exact absurd HA.out (by simp [v_Valid.j0])
  | succ kj1 =>
   have H := HA.out
   clear HA
   simp only [v_Valid.j0] at H
   by_cases c6 : x5_1 = true
   rotate_left
   ·replace c6 := Bool.eq_false_iff.mpr c6
    subst c6
    rw [if_neg (show ¬ (false = true) by decide)] at H
    by_cases c8 : a0_0 = 3
    rotate_left
    ·rw [if_neg c8] at H
     have c8b0 : (a0_0 == 3) = false := beq_eq_false_iff_ne.mpr c8
     have c8b1 : (a0_0 != 3) = true := bne_iff_ne.mpr c8
     by_cases c14 : a0_0 = 4
     rotate_left
     ·rw [if_neg c14] at H
      have c14b0 : (a0_0 == 4) = false := beq_eq_false_iff_ne.mpr c14
      have c14b1 : (a0_0 != 4) = true := bne_iff_ne.mpr c14
      by_cases c16 : a0_0 = 5
      rotate_left
      ·rw [if_neg c16] at H
       have c16b0 : (a0_0 == 5) = false := beq_eq_false_iff_ne.mpr c16
       have c16b1 : (a0_0 != 5) = true := bne_iff_ne.mpr c16
       obtain rfl := Option.some.inj H
       go_wp2
       go_ret
       exact ⟨eW, bS GE122.out⟩
      rw [if_pos c16] at H
      have c16b0 : (a0_0 == 5) = true := beq_iff_eq.mpr c16
      have c16b1 : (a0_0 != 5) = false := bne_eq_false_iff_eq.mpr c16
      clear c16
      by_cases c17 : a0_1 = 0
      rotate_left
      ·rw [if_neg c17] at H
       have c17b0 : (a0_1 == 0) = false := beq_eq_false_iff_ne.mpr c17
       have c17b1 : (a0_1 != 0) = true := bne_iff_ne.mpr c17
       obtain rfl := Option.some.inj H
       obtain ⟨hcz19_0, hcz19_1, hcz19_2⟩ := z3 BK122.out (.int .i64 a0_0) (.int .i64 a0_1) (.string a0_2)
       obtain ⟨hfz19_0, hfz19_1, hfz19_2⟩ := f3 BK122.out
       go_wp2
       go_ret
       exact ⟨eW, bS GE122.out⟩
      rw [if_pos c17] at H
      have c17b0 : (a0_1 == 0) = true := beq_iff_eq.mpr c17
      have c17b1 : (a0_1 != 0) = false := bne_eq_false_iff_eq.mpr c17
      clear c17
      obtain rfl := Option.some.inj H
      obtain ⟨hcz18_0, hcz18_1, hcz18_2⟩ := z3 BK122.out (.int .i64 a0_0) (.int .i64 a0_1) (.string a0_2)
      obtain ⟨hfz18_0, hfz18_1, hfz18_2⟩ := f3 BK122.out
      go_wp2
      go_ret
      exact ⟨eW, bS GE122.out⟩
     rw [if_pos c14] at H
     have c14b0 : (a0_0 == 4) = true := beq_iff_eq.mpr c14
     have c14b1 : (a0_0 != 4) = false := bne_eq_false_iff_eq.mpr c14
     clear c14
     obtain rfl := Option.some.inj H
     obtain ⟨hcz15_0, hcz15_1, hcz15_2⟩ := z3 BK122.out (.int .i64 a0_0) (.int .i64 a0_1) (.string a0_2)
     obtain ⟨hfz15_0, hfz15_1, hfz15_2⟩ := f3 BK122.out
     go_wp2
     go_ret
     exact ⟨eW, bS GE122.out⟩
    rw [if_pos c8] at H
    have c8b0 : (a0_0 == 3) = true := beq_iff_eq.mpr c8
    have c8b1 : (a0_0 != 3) = false := bne_eq_false_iff_eq.mpr c8
    clear c8
    by_cases c9 : a0_1 = 0
    rotate_left
    ·rw [if_neg c9] at H
     have c9b0 : (a0_1 == 0) = false := beq_eq_false_iff_ne.mpr c9
     have c9b1 : (a0_1 != 0) = true := bne_iff_ne.mpr c9
     by_cases c11 : a0_1 = 1
     rotate_left
     ·rw [if_neg c11] at H
      have c11b0 : (a0_1 == 1) = false := beq_eq_false_iff_ne.mpr c11
      have c11b1 : (a0_1 != 1) = true := bne_iff_ne.mpr c11
      obtain rfl := Option.some.inj H
      obtain ⟨hcz13_0, hcz13_1, hcz13_2⟩ := z3 BK122.out (.int .i64 a0_0) (.int .i64 a0_1) (.string a0_2)
      obtain ⟨hfz13_0, hfz13_1, hfz13_2⟩ := f3 BK122.out
      go_wp2
      go_ret
      exact ⟨eW, bS GE122.out⟩
     rw [if_pos c11] at H
     have c11b0 : (a0_1 == 1) = true := beq_iff_eq.mpr c11
     have c11b1 : (a0_1 != 1) = false := bne_eq_false_iff_eq.mpr c11
     clear c11
     obtain rfl := Option.some.inj H
     obtain ⟨hcz12_0, hcz12_1, hcz12_2⟩ := z3 BK122.out (.int .i64 a0_0) (.int .i64 a0_1) (.string a0_2)
     obtain ⟨hfz12_0, hfz12_1, hfz12_2⟩ := f3 BK122.out
     go_wp2
     go_ret
     exact ⟨eW, bS GE122.out⟩
    rw [if_pos c9] at H
    have c9b0 : (a0_1 == 0) = true := beq_iff_eq.mpr c9
    have c9b1 : (a0_1 != 0) = false := bne_eq_false_iff_eq.mpr c9
    clear c9
    obtain rfl := Option.some.inj H
    obtain ⟨hcz10_0, hcz10_1, hcz10_2⟩ := z3 BK122.out (.int .i64 a0_0) (.int .i64 a0_1) (.string a0_2)
    obtain ⟨hfz10_0, hfz10_1, hfz10_2⟩ := f3 BK122.out
    go_wp2
    go_ret
    exact ⟨eW, bS GE122.out⟩
   subst c6
   rw [if_pos rfl] at H
   obtain rfl := Option.some.inj H
   obtain ⟨hcz7_0, hcz7_1, hcz7_2⟩ := z3 BK122.out (.int .i64 a0_0) (.int .i64 a0_1) (.string a0_2)
   obtain ⟨hfz7_0, hfz7_1, hfz7_2⟩ := f3 BK122.out
   go_wp2
   go_ret
   exact ⟨eW, bS GE122.out⟩
end Go.Proofs.Ytpjcdacnhalclaa.Q
namespace Go.Proofs.Ytpjcdacnhalclaa.Q
open Go.RowKit Go.Proofs.YtpjcdacnhalclaaW.PrintWords Go.Proofs.YtpjcdacnhalclaaW.PrintLast Go.Proofs.YtpjcdacnhalclaaW.PrintMore
attribute [local go_sem] max2_int min2_int max_two min_two max_three min_three max_four min_four
attribute [local go_sem high] eqA24
structure BG (B : Nat) (w w' : World) : Prop extends Below B w w' where
 drawn : w.drawn ≤ w'.drawn
theorem BG.refl (B : Nat) (w : World) : BG B w w := ⟨Below.refl B w, Nat.le_refl _⟩
theorem BG.trans {B : Nat} {a b c : World} (h : BG B a b) (k : BG B b c) : BG B a c := ⟨h.toBelow.trans k.toBelow, Nat.le_trans h.drawn k.drawn⟩
theorem bg2 (w : World) (o p : Obj) : BG w.heap.size w ((w.alloc o).alloc p) := ⟨((Below.refl _ _).alloc (Nat.le_refl _) _).alloc (by simp) _, Nat.le_refl _⟩
def v_Compare.f (a0_0 : Int) (a0_1 : Int) (a0_2 : ByteArray) (a1_0 : Int) (a1_1 : Int) (a1_2 : ByteArray) : Option (Int) := if (a0_0 == a1_0 && (a0_1 == a1_1 && (a0_2.toList == a1_2.toList))) = true then (some 0) else (if a0_0 = a1_0 then (if a0_1 = a1_1 then (if (Op.bytesLess a0_2.toList a1_2.toList) = true then (some (-1)) else (some 1)) else (if a0_1 < a1_1 then (some (-1)) else (some 1))) else (if a0_0 < a1_0 then (some (-1)) else (some 1)))
set_option maxHeartbeats 400000 in
theorem v_Compare.callsG (a0_0 : Int) (a0_1 : Int) (a0_2 : ByteArray) (a1_0 : Int) (a1_1 : Int) (a1_2 : ByteArray) (r : Int) (w : World) (h : v_Compare.f a0_0 a0_1 a0_2 a1_0 a1_1 a1_2 = some r) :
  Calls Try.prog 25 #[.agg #[.int .i64 a0_0, .int .i64 a0_1, .string a0_2], .agg #[.int .i64 a1_0, .int .i64 a1_1, .string a1_2]] w fun e w' => e = .returned (.int .i64 r) ∧ BG w.heap.size w w' := by
 have hu24 := Try.underlying24
 unfold v_Compare.f at h
 by_cases c3 : (a0_0 == a1_0 && (a0_1 == a1_1 && (a0_2.toList == a1_2.toList))) = true
 rotate_left
 ·rw [if_neg c3] at h
  have c3b : (a0_0 == a1_0 && (a0_1 == a1_1 && (a0_2.toList == a1_2.toList))) = false := by simpa using c3
  by_cases c9 : a0_0 = a1_0
  rotate_left
  ·rw [if_neg c9] at h
   have k1 : (a0_0 != a1_0) = true := bne_iff_ne.mpr c9
   clear c3
   by_cases c11 : a0_0 < a1_0
   rotate_left
   ·rw [if_neg c11] at h; cases h
    go_enter Try.func25, Try.ntmps25
    go_wp2
    go_ret
    exact ⟨rfl, bg2 _ _ _⟩
   rw [if_pos c11] at h; cases h
   go_enter Try.func25, Try.ntmps25
   go_wp2
   go_ret
   exact ⟨rfl, bg2 _ _ _⟩
  rw [if_pos c9] at h
  have k1 : (a0_0 != a1_0) = false := bne_eq_false_iff_eq.mpr c9
  by_cases c10 : a0_1 = a1_1
  rotate_left
  ·rw [if_neg c10] at h
   have k2 : (a0_1 != a1_1) = true := bne_iff_ne.mpr c10
   clear c3 c9
   by_cases c11 : a0_1 < a1_1
   rotate_left
   ·rw [if_neg c11] at h; cases h
    go_enter Try.func25, Try.ntmps25
    go_wp2
    go_ret
    exact ⟨rfl, bg2 _ _ _⟩
   rw [if_pos c11] at h; cases h
   go_enter Try.func25, Try.ntmps25
   go_wp2
   go_ret
   exact ⟨rfl, bg2 _ _ _⟩
  rw [if_pos c10] at h
  have k2 : (a0_1 != a1_1) = false := bne_eq_false_iff_eq.mpr c10
  have k3 : (a0_2.toList == a1_2.toList) = false := by subst c9 c10; simpa using c3b
  clear c3 c9 c10
  cases hb : Op.bytesLess a0_2.toList a1_2.toList
  all_goals
   rw [hb] at h; cases h
   go_enter Try.func25, Try.ntmps25
   go_wp2
   go_ret
   exact ⟨rfl, bg2 _ _ _⟩
 rw [if_pos c3] at h
 cases h
 go_enter Try.func25, Try.ntmps25
 go_wp2
 go_ret
 exact ⟨rfl, bg2 _ _ _⟩
theorem v_Compare.calls (a0_0 : Int) (a0_1 : Int) (a0_2 : ByteArray) (a1_0 : Int) (a1_1 : Int) (a1_2 : ByteArray) (r : Int) (w : World) (h : v_Compare.f a0_0 a0_1 a0_2 a1_0 a1_1 a1_2 = some r) :
  Calls Try.prog 25 #[.agg #[.int .i64 a0_0, .int .i64 a0_1, .string a0_2], .agg #[.int .i64 a1_0, .int .i64 a1_1, .string a1_2]] w fun e w' => e = .returned (.int .i64 r) ∧ Below w.heap.size w w' :=
 (v_Compare.callsG _ _ _ _ _ _ _ w h).mono fun _ _ ⟨he, hb⟩ => ⟨he, hb.toBelow⟩
end Go.Proofs.Ytpjcdacnhalclaa.Q
namespace Go.Proofs.Ytpjcdacnhalclaa.Q
open Go.RowKit Go.Proofs.YtpjcdacnhalclaaW.PrintWords Go.Proofs.YtpjcdacnhalclaaW.PrintLast Go.Proofs.YtpjcdacnhalclaaW.PrintMore
attribute [local go_sem] max2_int min2_int max_two min_two max_three min_three max_four min_four
attribute [local go_sem high] eqA24
mutual
def i_Valid.l0 : Nat → List (S65) → List (S65) → Int → Int → Option (Bool)
 | 0, _, _, _, _ => none
 | k + 1, x0, x8, x9, x10 => if x10 < x9 then (if 0 ≤ x10 then (if x10 < (x8.length : Int) then ((v_Valid.f k ((rd_T65 x8 x10).f0.f0) ((rd_T65 x8 x10).f0.f1) ((rd_T65 x8 x10).f0.f2)).bind fun t494 => (if t494 = true then (if (rd_T65 x8 x10).f2 = true then (if x10 < (wrap64 ((x0.length : Int) - 1)) then (some false) else (if (!(((rd_T65 x8 x10).f1.f0) == 0) || (!(((rd_T65 x8 x10).f1.f1) == 0) || (!((((rd_T65 x8 x10).f1.f2).toList) == ([] : List UInt8))))) = true then (some false) else (i_Valid.l0 k x0 x8 x9 (wrap64 (x10 + 1))))) else ((v_Valid.f k ((rd_T65 x8 x10).f1.f0) ((rd_T65 x8 x10).f1.f1) ((rd_T65 x8 x10).f1.f2)).bind fun t495 => (if t495 = true then ((v_Compare.f ((rd_T65 x8 x10).f0.f0) ((rd_T65 x8 x10).f0.f1) ((rd_T65 x8 x10).f0.f2) ((rd_T65 x8 x10).f1.f0) ((rd_T65 x8 x10).f1.f1) ((rd_T65 x8 x10).f1.f2)).bind fun t496 => (i_Valid.j1 k x0 x10 x8 x9 x10 (decide (t496 ≥ 0)) ((rd_T65 x8 x10).f0.f0) ((rd_T65 x8 x10).f0.f1) ((rd_T65 x8 x10).f0.f2) ((rd_T65 x8 x10).f1.f0) ((rd_T65 x8 x10).f1.f1) ((rd_T65 x8 x10).f1.f2) ((rd_T65 x8 x10).f2))) else (i_Valid.j1 k x0 x10 x8 x9 x10 true ((rd_T65 x8 x10).f0.f0) ((rd_T65 x8 x10).f0.f1) ((rd_T65 x8 x10).f0.f2) ((rd_T65 x8 x10).f1.f0) ((rd_T65 x8 x10).f1.f1) ((rd_T65 x8 x10).f1.f2) ((rd_T65 x8 x10).f2))))) else (some false))) else (none)) else (none)) else (some true)
def i_Valid.j1 : Nat → List (S65) → Int → List (S65) → Int → Int → Bool → Int → Int → ByteArray → Int → Int → ByteArray → Bool → Option (Bool)
 | 0, _, _, _, _, _, _, _, _, _, _, _, _, _ => none
 | k + 1, x0, x3, x8, x9, x10, x43, x494000, x494001, x494002, x494003, x494004, x494005, x494006 => if x43 = true then (some false) else (if x3 < (wrap64 ((x0.length : Int) - 1)) then (if 0 ≤ (wrap64 (x3 + 1)) then (if (wrap64 (x3 + 1)) < (x0.length : Int) then ((v_Compare.f x494003 x494004 x494005 ((rd_T65 x0 (wrap64 (x3 + 1))).f0.f0) ((rd_T65 x0 (wrap64 (x3 + 1))).f0.f1) ((rd_T65 x0 (wrap64 (x3 + 1))).f0.f2)).bind fun t498 => (if t498 ≥ 0 then (some false) else (i_Valid.l0 k x0 x8 x9 (wrap64 (x10 + 1))))) else (none)) else (none)) else (i_Valid.l0 k x0 x8 x9 (wrap64 (x10 + 1))))
end
def i_Valid.f (k : Nat) (l0 : List (S65)) : Option (Bool) := if (l0.length : Int) > 64 then (some false) else (i_Valid.l0 k l0 l0 (l0.length : Int) 0)
theorem i_Valid.mono_l : ∀ k, (∀ y0 y1 y2 y3, LeO (i_Valid.l0 k y0 y1 y2 y3) (i_Valid.l0 (k + 1) y0 y1 y2 y3)) ∧ (∀ y0 y1 y2 y3 y4 y5 y6 y7 y8 y9 y10 y11 y12, LeO (i_Valid.j1 k y0 y1 y2 y3 y4 y5 y6 y7 y8 y9 y10 y11 y12) (i_Valid.j1 (k + 1) y0 y1 y2 y3 y4 y5 y6 y7 y8 y9 y10 y11 y12))
 | 0 => ⟨fun _ _ _ _ r h => by simp [i_Valid.l0] at h, fun _ _ _ _ _ _ _ _ _ _ _ _ _ r h => by simp [i_Valid.j1] at h⟩
 | k + 1 => by
  obtain ⟨ih0, ih1⟩ := i_Valid.mono_l k
  refine ⟨?_, ?_⟩
  ·intro y0 y1 y2 y3
   unfold i_Valid.l0
   repeat' first
   | (with_reducible exact ih0 _ _ _ _)
   | (with_reducible exact ih1 _ _ _ _ _ _ _ _ _ _ _ _ _)
   | (with_reducible exact v_Valid.mono _ _ _ _)
   | (with_reducible exact LeO.refl _)
   | (with_reducible exact LeO.none _)
   | (with_reducible refine LeO.ite ?_ ?_)
   | (with_reducible refine LeO.bind ?_ (fun _ => ?_))
   | exact ih0 _ _ _ _
   | exact ih1 _ _ _ _ _ _ _ _ _ _ _ _ _
   | exact v_Valid.mono _ _ _ _
   | exact LeO.none _
   | refine LeO.ite ?_ ?_
   | refine LeO.bind ?_ (fun _ => ?_)
  ·intro y0 y1 y2 y3 y4 y5 y6 y7 y8 y9 y10 y11 y12
   unfold i_Valid.j1
   repeat' first
   | (with_reducible exact ih0 _ _ _ _)
   | (with_reducible exact ih1 _ _ _ _ _ _ _ _ _ _ _ _ _)
   | (with_reducible exact v_Valid.mono _ _ _ _)
   | (with_reducible exact LeO.refl _)
   | (with_reducible exact LeO.none _)
   | (with_reducible refine LeO.ite ?_ ?_)
   | (with_reducible refine LeO.bind ?_ (fun _ => ?_))
   | exact ih0 _ _ _ _
   | exact ih1 _ _ _ _ _ _ _ _ _ _ _ _ _
   | exact v_Valid.mono _ _ _ _
   | exact LeO.none _
   | refine LeO.ite ?_ ?_
   | refine LeO.bind ?_ (fun _ => ?_)
theorem i_Valid.mono : ∀ a0 k, LeO (i_Valid.f k a0) (i_Valid.f (k + 1) a0) := by
 intro a0 k
 obtain ⟨ih0, ih1⟩ := i_Valid.mono_l k
 unfold i_Valid.f
 repeat' first
   | (with_reducible exact ih0 _ _ _ _)
   | (with_reducible exact ih1 _ _ _ _ _ _ _ _ _ _ _ _ _)
   | (with_reducible exact v_Valid.mono _ _ _ _)
   | (with_reducible exact LeO.refl _)
   | (with_reducible exact LeO.none _)
   | (with_reducible refine LeO.ite ?_ ?_)
   | (with_reducible refine LeO.bind ?_ (fun _ => ?_))
   | exact ih0 _ _ _ _
   | exact ih1 _ _ _ _ _ _ _ _ _ _ _ _ _
   | exact v_Valid.mono _ _ _ _
   | exact LeO.none _
   | refine LeO.ite ?_ ?_
   | refine LeO.bind ?_ (fun _ => ?_)
def i_Valid.T13 : Bool × List (List Nat × List Nat) := (true, [([], []), ([], []), ([1], [1]), ([2], [2]), ([0, 3], [0, 3]), ([4], [4]), ([5], [5]), ([6, 5], [5, 6]), ([5], [5]), ([5], [5]), ([9, 5], [5, 9]), ([8, 10, 5], [5, 8, 10]), ([11, 5], [5, 11]), ([12, 5], [5, 12]), ([7, 13, 5, 5], [5, 7, 13]), ([14, 5], [5, 14]), ([5, 15], [5, 15])])
def i_Valid.B13 : List Nat := [0, 0, 2, 6, 15, 31, 63, 127, 63, 63, 575, 1855, 3903, 7999, 16383, 32767, 65535]
theorem i_Valid.tab13 : rtab .any (opsOf Try.f37 13) = i_Valid.T13 := by kernel_rfl
theorem i_Valid.bits13 : waitsOk i_Valid.T13.2 i_Valid.B13 = true := by kernel_rfl
set_option maxHeartbeats 8000000 in
set_option maxRecDepth 100000 in
theorem i_Valid.calls (k : Nat) (A0 : Option Addr) (c0 : Nat) (l0 : List (S65)) (r : Bool) (w : World) (hr0 : Kd.C k65 w A0 l0.length l0) (hc0 : l0.length ≤ c0) (h : i_Valid.f k l0 = some r) :
  Calls Try.prog 37 #[.slice A0 l0.length c0] w fun e w' => e = .returned (.bool r) ∧ Below w.heap.size w w' := by
 have hu65 := Try.underlying65
 have hu24 := Try.underlying24
 have HR0 := Aside0.mk hr0
 have HC0 := Aside0.mk hc0
 clear hr0 hc0
 have HB := aK (Below.refl w.heap.size w)
 have H : (if (l0.length : Int) > 64 then (some false) else (i_Valid.l0 k l0 l0 (l0.length : Int) 0)) = some r := h
 clear h
 by_cases c2 : (l0.length : Int) > 64
 rotate_left
 ·rw [if_neg c2] at H
  have c2b0 : decide (64 < (l0.length : Int)) = false := decide_eq_false c2
  have c2b1 : decide (64 < l0.length) = false := decide_eq_false (by omega)
  clear c2
  have H' := Aside0.mk H
  clear H
  go_enter Try.func37, Try.ntmps37
  go_wp2
  go_loopg [10] k (fun kq v10 w' => ∃ (x10_1 : Int), v10 = .int .i64 x10_1 ∧ Aside0 (i_Valid.l0 kq l0 l0 (l0.length : Int) x10_1 = some r) ∧ Aside0 (kq ≤ k) ∧ Aside0 (Below w.heap.size w w'))
  case atStart => exact ⟨(0), (by first | rfl | (simp; done) | (simp [*]; done)), H', ⟨Nat.le_refl _⟩, ⟨bO⟩⟩
  case round =>
   clear H'
   try clear c2
   try clear c2b0
   try clear c2b1
   try clear p2
   obtain ⟨x10_1, rfl, HA, HK1, HB⟩ := hrel
   cases gk with
   | zero => exact absurd HA.out (by simp [i_Valid.l0])
   | succ k1 =>
    have H := HA.out
    clear HA
    simp only [i_Valid.l0] at H
    by_cases c3 : x10_1 < (l0.length : Int)
    rotate_left
    ·rw [if_neg c3] at H
     have c3b0 : decide (x10_1 < (l0.length : Int)) = false := decide_eq_false c3
     clear c3
     obtain rfl := Option.some.inj H
     go_wp2
     go_ret
     exact ⟨eW, bO⟩
    rw [if_pos c3] at H
    have c3b0 : decide (x10_1 < (l0.length : Int)) = true := decide_eq_true c3
    clear c3
    by_cases c4 : 0 ≤ x10_1
    rotate_left
    ·rw [if_neg c4] at H
     exact absurd H (by simp)
    rw [if_pos c4] at H
    have c4b0 : decide (0 ≤ x10_1) = true := decide_eq_true c4
    clear c4
    by_cases c5 : x10_1 < (l0.length : Int)
    rotate_left
    ·rw [if_neg c5] at H
     exact absurd H (by simp)
    rw [if_pos c5] at H
    have c5b0 : decide (x10_1 < (l0.length : Int)) = true := decide_eq_true c5
    clear c5
    obtain ⟨t494, A6, H⟩ := oB H
    try dsimp only at H
    by_cases c7 : t494 = true
    rotate_left
    ·replace c7 := Bool.eq_false_iff.mpr c7
     subst c7
     rw [if_neg (show ¬ (false = true) by decide)] at H
     obtain rfl := Option.some.inj H
     have p492 : 0 ≤ (x10_1 : Int) := of_decide_eq_true (aA)
     have q492 : x10_1 < (l0.length : Int) := of_decide_eq_true (aA)
     obtain ⟨ad492, e492, hx492_0, hx492_1, hx492_2, hx492_3, hx492_4, hx492_5, hx492_6⟩ := at_T65 HR0.out x10_1 p492 q492
     cases e492
     replace hx492_0 := hW HB.out hx492_0
     replace hx492_1 := hW HB.out hx492_1
     replace hx492_2 := hW HB.out hx492_2
     replace hx492_3 := hW HB.out hx492_3
     replace hx492_4 := hW HB.out hx492_4
     replace hx492_5 := hW HB.out hx492_5
     replace hx492_6 := hW HB.out hx492_6
     replace p492 := eq_true p492
     replace q492 := eq_true q492
     go_wp2_with (first | ((with_reducible refine gate_dst (N := 4) rfl ?_); refine box_event ?hg (N := 4) ?hd (cs := #[.int .i64 0, .int .i64 0, .string (⟨#[]⟩ : ByteArray), .int .i64 0, .int .i64 0, .string (⟨#[]⟩ : ByteArray), .bool false]) (t := 65) ?hr ?_; (case hd => rfl); (case hg => rfl); (case hr => exact hR); intro gb493 hg w50 hbox hb; have n0_ := aK (below_step bO hb); have n1_ := aK (hbox); have n2_ := aK ((by rw [hg]; exact (below_size bO) : w.heap.size ≤ gb493)); have n3_ := aK ((by rw [hg]; exact (below_size bO) : w.heap.size ≤ gb493)); clear HB; have HB := n0_; have BK493 := n1_; have GW493 := n2_; have GE493 := n3_; clear n0_ n1_ n2_ n3_ hb hbox hg; obtain ⟨hcz51_0, hcz51_1, hcz51_2, hcz51_3, hcz51_4, hcz51_5, hcz51_6⟩ := z7 BK493.out (.int .i64 0) (.int .i64 0) (.string (⟨#[]⟩ : ByteArray)) (.int .i64 0) (.int .i64 0) (.string (⟨#[]⟩ : ByteArray)) (.bool false); obtain ⟨hfz51_0, hfz51_1, hfz51_2, hfz51_3, hfz51_4, hfz51_5, hfz51_6⟩ := f7 BK493.out) | ((with_reducible refine gate_callee (f := 21) rfl ?_); refine gL (some 17) rfl Try.func21 #[.agg #[.int .i64 ((rd_T65 l0 x10_1).f0.f0), .int .i64 ((rd_T65 l0 x10_1).f0.f1), .string ((rd_T65 l0 x10_1).f0.f2)]] rfl ?_; (with_reducible refine (v_Valid.calls k1 ((rd_T65 l0 x10_1).f0.f0) ((rd_T65 l0 x10_1).f0.f1) ((rd_T65 l0 x10_1).f0.f2) false _ A6.out).mono ?_); rintro e w52 ⟨rfl, hb⟩; refine ⟨_, rfl, ?_⟩; have n0_ := aK (blk_below (g := gb493) (o := .cells #[.int .i64 ((rd_T65 l0 x10_1).f0.f0), .int .i64 ((rd_T65 l0 x10_1).f0.f1), .string ((rd_T65 l0 x10_1).f0.f2), .int .i64 ((rd_T65 l0 x10_1).f1.f0), .int .i64 ((rd_T65 l0 x10_1).f1.f1), .string ((rd_T65 l0 x10_1).f1.f2), .bool ((rd_T65 l0 x10_1).f2)] 65 (0, 0)) (by (with_reducible repeat (first | refine blk_drewN ?_ _ | refine blk_drew ?_ | refine blk_alloc ?_ _)); refine blk_put (cs := #[.int .i64 ((rd_T65 l0 x10_1).f0.f0), .int .i64 ((rd_T65 l0 x10_1).f0.f1), .string ((rd_T65 l0 x10_1).f0.f2), .int .i64 ((rd_T65 l0 x10_1).f1.f0), .int .i64 ((rd_T65 l0 x10_1).f1.f1), .string ((rd_T65 l0 x10_1).f1.f2), .bool false]) ?_ 6 _ rfl; (with_reducible repeat (first | refine blk_drewN ?_ _ | refine blk_drew ?_ | refine blk_alloc ?_ _)); refine blk_put (cs := #[.int .i64 ((rd_T65 l0 x10_1).f0.f0), .int .i64 ((rd_T65 l0 x10_1).f0.f1), .string ((rd_T65 l0 x10_1).f0.f2), .int .i64 ((rd_T65 l0 x10_1).f1.f0), .int .i64 ((rd_T65 l0 x10_1).f1.f1), .string (⟨#[]⟩ : ByteArray), .bool false]) ?_ 5 _ rfl; (with_reducible repeat (first | refine blk_drewN ?_ _ | refine blk_drew ?_ | refine blk_alloc ?_ _)); refine blk_put (cs := #[.int .i64 ((rd_T65 l0 x10_1).f0.f0), .int .i64 ((rd_T65 l0 x10_1).f0.f1), .string ((rd_T65 l0 x10_1).f0.f2), .int .i64 ((rd_T65 l0 x10_1).f1.f0), .int .i64 0, .string (⟨#[]⟩ : ByteArray), .bool false]) ?_ 4 _ rfl; (with_reducible repeat (first | refine blk_drewN ?_ _ | refine blk_drew ?_ | refine blk_alloc ?_ _)); refine blk_put (cs := #[.int .i64 ((rd_T65 l0 x10_1).f0.f0), .int .i64 ((rd_T65 l0 x10_1).f0.f1), .string ((rd_T65 l0 x10_1).f0.f2), .int .i64 0, .int .i64 0, .string (⟨#[]⟩ : ByteArray), .bool false]) ?_ 3 _ rfl; (with_reducible repeat (first | refine blk_drewN ?_ _ | refine blk_drew ?_ | refine blk_alloc ?_ _)); refine blk_put (cs := #[.int .i64 ((rd_T65 l0 x10_1).f0.f0), .int .i64 ((rd_T65 l0 x10_1).f0.f1), .string (⟨#[]⟩ : ByteArray), .int .i64 0, .int .i64 0, .string (⟨#[]⟩ : ByteArray), .bool false]) ?_ 2 _ rfl; (with_reducible repeat (first | refine blk_drewN ?_ _ | refine blk_drew ?_ | refine blk_alloc ?_ _)); refine blk_put (cs := #[.int .i64 ((rd_T65 l0 x10_1).f0.f0), .int .i64 0, .string (⟨#[]⟩ : ByteArray), .int .i64 0, .int .i64 0, .string (⟨#[]⟩ : ByteArray), .bool false]) ?_ 1 _ rfl; (with_reducible repeat (first | refine blk_drewN ?_ _ | refine blk_drew ?_ | refine blk_alloc ?_ _)); refine blk_put (cs := #[.int .i64 0, .int .i64 0, .string (⟨#[]⟩ : ByteArray), .int .i64 0, .int .i64 0, .string (⟨#[]⟩ : ByteArray), .bool false]) ?_ 0 _ rfl; (with_reducible repeat (first | refine blk_drewN ?_ _ | refine blk_drew ?_ | refine blk_alloc ?_ _)); exact BK493.out) hb); have n1_ := aK (below_step (bS GE493.out) hb); clear BK493 HB; have BK493 := n0_; have HB := n1_; clear n0_ n1_; (try clear hb)))
     go_ret
     exact ⟨eW, bS GE493.out⟩
    subst c7
    rw [if_pos rfl] at H
    obtain ⟨bq8, hbq8⟩ : ∃ b_ : Bool, b_ = ((rd_T65 l0 x10_1).f2) := ⟨_, rfl⟩
    replace H : (if bq8 = true then (if x10_1 < (wrap64 ((l0.length : Int) - 1)) then (some false) else (if (!(((rd_T65 l0 x10_1).f1.f0) == 0) || (!(((rd_T65 l0 x10_1).f1.f1) == 0) || (!((((rd_T65 l0 x10_1).f1.f2).toList) == ([] : List UInt8))))) = true then (some false) else (i_Valid.l0 k1 l0 l0 (l0.length : Int) (wrap64 (x10_1 + 1))))) else ((v_Valid.f k1 ((rd_T65 l0 x10_1).f1.f0) ((rd_T65 l0 x10_1).f1.f1) ((rd_T65 l0 x10_1).f1.f2)).bind fun t495 => (if t495 = true then ((v_Compare.f ((rd_T65 l0 x10_1).f0.f0) ((rd_T65 l0 x10_1).f0.f1) ((rd_T65 l0 x10_1).f0.f2) ((rd_T65 l0 x10_1).f1.f0) ((rd_T65 l0 x10_1).f1.f1) ((rd_T65 l0 x10_1).f1.f2)).bind fun t496 => (i_Valid.j1 k1 l0 x10_1 l0 (l0.length : Int) x10_1 (decide (t496 ≥ 0)) ((rd_T65 l0 x10_1).f0.f0) ((rd_T65 l0 x10_1).f0.f1) ((rd_T65 l0 x10_1).f0.f2) ((rd_T65 l0 x10_1).f1.f0) ((rd_T65 l0 x10_1).f1.f1) ((rd_T65 l0 x10_1).f1.f2) bq8)) else (i_Valid.j1 k1 l0 x10_1 l0 (l0.length : Int) x10_1 true ((rd_T65 l0 x10_1).f0.f0) ((rd_T65 l0 x10_1).f0.f1) ((rd_T65 l0 x10_1).f0.f2) ((rd_T65 l0 x10_1).f1.f0) ((rd_T65 l0 x10_1).f1.f1) ((rd_T65 l0 x10_1).f1.f2) bq8)))) = some r := by rw [← hbq8] at H; exact H
    have Nbq8 := Aside0.mk hbq8
    clear hbq8
    by_cases c9 : bq8 = true
    rotate_left
    ·replace c9 := Bool.eq_false_iff.mpr c9
     subst c9
     rw [if_neg (show ¬ (false = true) by decide)] at H
     have HC24 := Aside0.mk H
     clear H
     have p492 : 0 ≤ (x10_1 : Int) := of_decide_eq_true (aA)
     have q492 : x10_1 < (l0.length : Int) := of_decide_eq_true (aA)
     obtain ⟨ad492, e492, hx492_0, hx492_1, hx492_2, hx492_3, hx492_4, hx492_5, hx492_6⟩ := at_T65 HR0.out x10_1 p492 q492
     (try rw [← Nbq8.out] at hx492_6)
     cases e492
     replace hx492_0 := hW HB.out hx492_0
     replace hx492_1 := hW HB.out hx492_1
     replace hx492_2 := hW HB.out hx492_2
     replace hx492_3 := hW HB.out hx492_3
     replace hx492_4 := hW HB.out hx492_4
     replace hx492_5 := hW HB.out hx492_5
     replace hx492_6 := hW HB.out hx492_6
     replace p492 := eq_true p492
     replace q492 := eq_true q492
     go_upto_region 11 with (first | ((with_reducible refine gate_dst (N := 4) rfl ?_); refine box_event ?hg (N := 4) ?hd (cs := #[.int .i64 0, .int .i64 0, .string (⟨#[]⟩ : ByteArray), .int .i64 0, .int .i64 0, .string (⟨#[]⟩ : ByteArray), .bool false]) (t := 65) ?hr ?_; (case hd => rfl); (case hg => rfl); (case hr => exact hR); intro gb493 hg w25 hbox hb; have n0_ := aK (below_step bO hb); have n1_ := aK (hbox); have n2_ := aK ((by rw [hg]; exact (below_size bO) : w.heap.size ≤ gb493)); have n3_ := aK ((by rw [hg]; exact (below_size bO) : w.heap.size ≤ gb493)); clear HB; have HB := n0_; have BK493 := n1_; have GW493 := n2_; have GE493 := n3_; clear n0_ n1_ n2_ n3_ hb hbox hg; obtain ⟨hcz26_0, hcz26_1, hcz26_2, hcz26_3, hcz26_4, hcz26_5, hcz26_6⟩ := z7 BK493.out (.int .i64 0) (.int .i64 0) (.string (⟨#[]⟩ : ByteArray)) (.int .i64 0) (.int .i64 0) (.string (⟨#[]⟩ : ByteArray)) (.bool false); obtain ⟨hfz26_0, hfz26_1, hfz26_2, hfz26_3, hfz26_4, hfz26_5, hfz26_6⟩ := f7 BK493.out) | ((with_reducible refine gate_callee (f := 21) rfl ?_); refine gL (some 17) rfl Try.func21 #[.agg #[.int .i64 ((rd_T65 l0 x10_1).f0.f0), .int .i64 ((rd_T65 l0 x10_1).f0.f1), .string ((rd_T65 l0 x10_1).f0.f2)]] rfl ?_; (with_reducible refine (v_Valid.calls k1 ((rd_T65 l0 x10_1).f0.f0) ((rd_T65 l0 x10_1).f0.f1) ((rd_T65 l0 x10_1).f0.f2) true _ A6.out).mono ?_); rintro e w27 ⟨rfl, hb⟩; refine ⟨_, rfl, ?_⟩; have n0_ := aK (blk_below (g := gb493) (o := .cells #[.int .i64 ((rd_T65 l0 x10_1).f0.f0), .int .i64 ((rd_T65 l0 x10_1).f0.f1), .string ((rd_T65 l0 x10_1).f0.f2), .int .i64 ((rd_T65 l0 x10_1).f1.f0), .int .i64 ((rd_T65 l0 x10_1).f1.f1), .string ((rd_T65 l0 x10_1).f1.f2), .bool false] 65 (0, 0)) (by (with_reducible repeat (first | refine blk_drewN ?_ _ | refine blk_drew ?_ | refine blk_alloc ?_ _)); refine blk_put (cs := #[.int .i64 ((rd_T65 l0 x10_1).f0.f0), .int .i64 ((rd_T65 l0 x10_1).f0.f1), .string ((rd_T65 l0 x10_1).f0.f2), .int .i64 ((rd_T65 l0 x10_1).f1.f0), .int .i64 ((rd_T65 l0 x10_1).f1.f1), .string ((rd_T65 l0 x10_1).f1.f2), .bool false]) ?_ 6 _ rfl; (with_reducible repeat (first | refine blk_drewN ?_ _ | refine blk_drew ?_ | refine blk_alloc ?_ _)); refine blk_put (cs := #[.int .i64 ((rd_T65 l0 x10_1).f0.f0), .int .i64 ((rd_T65 l0 x10_1).f0.f1), .string ((rd_T65 l0 x10_1).f0.f2), .int .i64 ((rd_T65 l0 x10_1).f1.f0), .int .i64 ((rd_T65 l0 x10_1).f1.f1), .string (⟨#[]⟩ : ByteArray), .bool false]) ?_ 5 _ rfl; (with_reducible repeat (first | refine blk_drewN ?_ _ | refine blk_drew ?_ | refine blk_alloc ?_ _)); refine blk_put (cs := #[.int .i64 ((rd_T65 l0 x10_1).f0.f0), .int .i64 ((rd_T65 l0 x10_1).f0.f1), .string ((rd_T65 l0 x10_1).f0.f2), .int .i64 ((rd_T65 l0 x10_1).f1.f0), .int .i64 0, .string (⟨#[]⟩ : ByteArray), .bool false]) ?_ 4 _ rfl; (with_reducible repeat (first | refine blk_drewN ?_ _ | refine blk_drew ?_ | refine blk_alloc ?_ _)); refine blk_put (cs := #[.int .i64 ((rd_T65 l0 x10_1).f0.f0), .int .i64 ((rd_T65 l0 x10_1).f0.f1), .string ((rd_T65 l0 x10_1).f0.f2), .int .i64 0, .int .i64 0, .string (⟨#[]⟩ : ByteArray), .bool false]) ?_ 3 _ rfl; (with_reducible repeat (first | refine blk_drewN ?_ _ | refine blk_drew ?_ | refine blk_alloc ?_ _)); refine blk_put (cs := #[.int .i64 ((rd_T65 l0 x10_1).f0.f0), .int .i64 ((rd_T65 l0 x10_1).f0.f1), .string (⟨#[]⟩ : ByteArray), .int .i64 0, .int .i64 0, .string (⟨#[]⟩ : ByteArray), .bool false]) ?_ 2 _ rfl; (with_reducible repeat (first | refine blk_drewN ?_ _ | refine blk_drew ?_ | refine blk_alloc ?_ _)); refine blk_put (cs := #[.int .i64 ((rd_T65 l0 x10_1).f0.f0), .int .i64 0, .string (⟨#[]⟩ : ByteArray), .int .i64 0, .int .i64 0, .string (⟨#[]⟩ : ByteArray), .bool false]) ?_ 1 _ rfl; (with_reducible repeat (first | refine blk_drewN ?_ _ | refine blk_drew ?_ | refine blk_alloc ?_ _)); refine blk_put (cs := #[.int .i64 0, .int .i64 0, .string (⟨#[]⟩ : ByteArray), .int .i64 0, .int .i64 0, .string (⟨#[]⟩ : ByteArray), .bool false]) ?_ 0 _ rfl; (with_reducible repeat (first | refine blk_drewN ?_ _ | refine blk_drew ?_ | refine blk_alloc ?_ _)); exact BK493.out) hb); have n1_ := aK (below_step (bS GE493.out) hb); clear BK493 HB; have BK493 := n0_; have HB := n1_; clear n0_ n1_; (try clear hb); obtain ⟨hcz28_0, hcz28_1, hcz28_2, hcz28_3, hcz28_4, hcz28_5, hcz28_6⟩ := z7 BK493.out (.int .i64 ((rd_T65 l0 x10_1).f0.f0)) (.int .i64 ((rd_T65 l0 x10_1).f0.f1)) (.string ((rd_T65 l0 x10_1).f0.f2)) (.int .i64 ((rd_T65 l0 x10_1).f1.f0)) (.int .i64 ((rd_T65 l0 x10_1).f1.f1)) (.string ((rd_T65 l0 x10_1).f1.f2)) (.bool false); obtain ⟨hfz28_0, hfz28_1, hfz28_2, hfz28_3, hfz28_4, hfz28_5, hfz28_6⟩ := f7 BK493.out))
     (try simp only [Act.put, List.setIfInBounds_toArray, List.set_cons_zero, List.set_cons_succ])
     go_cut [43] (fun v43 wc => ∃ (kq : Nat) (x43_23 : Bool), v43 = .bool x43_23 ∧ Aside0 (i_Valid.j1 kq l0 x10_1 l0 (l0.length : Int) x10_1 x43_23 ((rd_T65 l0 x10_1).f0.f0) ((rd_T65 l0 x10_1).f0.f1) ((rd_T65 l0 x10_1).f0.f2) ((rd_T65 l0 x10_1).f1.f0) ((rd_T65 l0 x10_1).f1.f1) ((rd_T65 l0 x10_1).f1.f2) false = some r) ∧ Aside0 (kq ≤ k1) ∧ Aside0 (wc.heap[gb493]? = some (.cells #[.int .i64 ((rd_T65 l0 x10_1).f0.f0), .int .i64 ((rd_T65 l0 x10_1).f0.f1), .string ((rd_T65 l0 x10_1).f0.f2), .int .i64 ((rd_T65 l0 x10_1).f1.f0), .int .i64 ((rd_T65 l0 x10_1).f1.f1), .string ((rd_T65 l0 x10_1).f1.f2), .bool false] 65 (0, 0))) ∧ Aside0 (Below w.heap.size w wc))
     case first =>
      have H := HC24.out
      clear HC24
      obtain ⟨t495, A29, H⟩ := oB H
      try dsimp only at H
      by_cases c30 : t495 = true
      rotate_left
      ·replace c30 := Bool.eq_false_iff.mpr c30
       subst c30
       rw [if_neg (show ¬ (false = true) by decide)] at H
       have H' := Aside0.mk H
       clear H
       obtain ⟨hcz36_0, hcz36_1, hcz36_2, hcz36_3, hcz36_4, hcz36_5, hcz36_6⟩ := z7 BK493.out (.int .i64 ((rd_T65 l0 x10_1).f0.f0)) (.int .i64 ((rd_T65 l0 x10_1).f0.f1)) (.string ((rd_T65 l0 x10_1).f0.f2)) (.int .i64 ((rd_T65 l0 x10_1).f1.f0)) (.int .i64 ((rd_T65 l0 x10_1).f1.f1)) (.string ((rd_T65 l0 x10_1).f1.f2)) (.bool false)
       obtain ⟨hfz36_0, hfz36_1, hfz36_2, hfz36_3, hfz36_4, hfz36_5, hfz36_6⟩ := f7 BK493.out
       go_wp2_with (first | ((with_reducible refine gate_callee (f := 21) rfl ?_); refine gL (some 34) rfl Try.func21 #[.agg #[.int .i64 ((rd_T65 l0 x10_1).f1.f0), .int .i64 ((rd_T65 l0 x10_1).f1.f1), .string ((rd_T65 l0 x10_1).f1.f2)]] rfl ?_; (with_reducible refine (v_Valid.calls k1 ((rd_T65 l0 x10_1).f1.f0) ((rd_T65 l0 x10_1).f1.f1) ((rd_T65 l0 x10_1).f1.f2) false _ A29.out).mono ?_); rintro e w37 ⟨rfl, hb⟩; refine ⟨_, rfl, ?_⟩; have n0_ := aK (blk_below (bX BK493.out) hb); have n1_ := aK (below_step (bS GE493.out) hb); clear BK493 HB; have BK493 := n0_; have HB := n1_; clear n0_ n1_; (try clear hb)))
       go_meet
       case rel => exact ⟨_, (true), (by first | rfl | (simp; done) | (simp [*]; done)), H', ⟨by have := HK1.out; first | omega | exact Nat.le_refl _⟩, ⟨by (with_reducible repeat (first | refine blk_drewN ?_ _ | refine blk_drew ?_ | refine blk_alloc ?_ _)); exact BK493.out⟩, ⟨bS GE493.out⟩⟩
      subst c30
      rw [if_pos rfl] at H
      obtain ⟨t496, A31, H⟩ := oB H
      try dsimp only at H
      have H' := Aside0.mk H
      clear H
      obtain ⟨hcz32_0, hcz32_1, hcz32_2, hcz32_3, hcz32_4, hcz32_5, hcz32_6⟩ := z7 BK493.out (.int .i64 ((rd_T65 l0 x10_1).f0.f0)) (.int .i64 ((rd_T65 l0 x10_1).f0.f1)) (.string ((rd_T65 l0 x10_1).f0.f2)) (.int .i64 ((rd_T65 l0 x10_1).f1.f0)) (.int .i64 ((rd_T65 l0 x10_1).f1.f1)) (.string ((rd_T65 l0 x10_1).f1.f2)) (.bool false)
      obtain ⟨hfz32_0, hfz32_1, hfz32_2, hfz32_3, hfz32_4, hfz32_5, hfz32_6⟩ := f7 BK493.out
      go_wp2_with (first | ((with_reducible refine gate_callee (f := 21) rfl ?_); refine gL (some 34) rfl Try.func21 #[.agg #[.int .i64 ((rd_T65 l0 x10_1).f1.f0), .int .i64 ((rd_T65 l0 x10_1).f1.f1), .string ((rd_T65 l0 x10_1).f1.f2)]] rfl ?_; (with_reducible refine (v_Valid.calls k1 ((rd_T65 l0 x10_1).f1.f0) ((rd_T65 l0 x10_1).f1.f1) ((rd_T65 l0 x10_1).f1.f2) true _ A29.out).mono ?_); rintro e w33 ⟨rfl, hb⟩; refine ⟨_, rfl, ?_⟩; have n0_ := aK (blk_below (bX BK493.out) hb); have n1_ := aK (below_step (bS GE493.out) hb); clear BK493 HB; have BK493 := n0_; have HB := n1_; clear n0_ n1_; (try clear hb); obtain ⟨hcz34_0, hcz34_1, hcz34_2, hcz34_3, hcz34_4, hcz34_5, hcz34_6⟩ := z7 BK493.out (.int .i64 ((rd_T65 l0 x10_1).f0.f0)) (.int .i64 ((rd_T65 l0 x10_1).f0.f1)) (.string ((rd_T65 l0 x10_1).f0.f2)) (.int .i64 ((rd_T65 l0 x10_1).f1.f0)) (.int .i64 ((rd_T65 l0 x10_1).f1.f1)) (.string ((rd_T65 l0 x10_1).f1.f2)) (.bool false); obtain ⟨hfz34_0, hfz34_1, hfz34_2, hfz34_3, hfz34_4, hfz34_5, hfz34_6⟩ := f7 BK493.out) | (go_at_call 25; (with_reducible refine (v_Compare.calls ((rd_T65 l0 x10_1).f0.f0) ((rd_T65 l0 x10_1).f0.f1) ((rd_T65 l0 x10_1).f0.f2) ((rd_T65 l0 x10_1).f1.f0) ((rd_T65 l0 x10_1).f1.f1) ((rd_T65 l0 x10_1).f1.f2) t496 _ A31.out).mono ?_); rintro e w35 ⟨rfl, hb⟩; have n0_ := aK (blk_below (bX BK493.out) hb); have n1_ := aK (below_step (bS GE493.out) hb); clear BK493 HB; have BK493 := n0_; have HB := n1_; clear n0_ n1_; (try clear hb)))
      go_meet
      case rel => exact ⟨_, (decide (t496 ≥ 0)), (by first | rfl | (simp; done) | (simp [*]; done)), H', ⟨by have := HK1.out; first | omega | exact Nat.le_refl _⟩, ⟨by (with_reducible repeat (first | refine blk_drewN ?_ _ | refine blk_drew ?_ | refine blk_alloc ?_ _)); exact BK493.out⟩, ⟨bS GE493.out⟩⟩
     case rest =>
      clear HC24
      try clear c1
      try clear c2
      try clear c2b0
      try clear c2b1
      try clear p2
      try clear c3
      try clear c3b0
      try clear c4
      try clear c4b0
      try clear p4
      try clear q4
      try clear hx4
      try clear c5
      try clear c5b0
      try clear p6
      try clear c7
      try clear q8
      try clear c9
      try clear c10
      try clear c10b0
      try clear c15
      try clear c15b0
      try clear c21
      try clear c30
      try clear c37
      try clear hcz12_0
      try clear hcz12_1
      try clear hcz12_2
      try clear hcz12_3
      try clear hcz12_4
      try clear hcz12_5
      try clear hcz12_6
      try clear hcz14_0
      try clear hcz14_1
      try clear hcz14_2
      try clear hcz14_3
      try clear hcz14_4
      try clear hcz14_5
      try clear hcz14_6
      try clear hcz17_0
      try clear hcz17_1
      try clear hcz17_2
      try clear hcz17_3
      try clear hcz17_4
      try clear hcz17_5
      try clear hcz17_6
      try clear hcz19_0
      try clear hcz19_1
      try clear hcz19_2
      try clear hcz19_3
      try clear hcz19_4
      try clear hcz19_5
      try clear hcz19_6
      try clear hcz21_0
      try clear hcz21_1
      try clear hcz21_2
      try clear hcz21_3
      try clear hcz21_4
      try clear hcz21_5
      try clear hcz21_6
      try clear hcz23_0
      try clear hcz23_1
      try clear hcz23_2
      try clear hcz23_3
      try clear hcz23_4
      try clear hcz23_5
      try clear hcz23_6
      try clear hcz26_0
      try clear hcz26_1
      try clear hcz26_2
      try clear hcz26_3
      try clear hcz26_4
      try clear hcz26_5
      try clear hcz26_6
      try clear hcz28_0
      try clear hcz28_1
      try clear hcz28_2
      try clear hcz28_3
      try clear hcz28_4
      try clear hcz28_5
      try clear hcz28_6
      try clear hcz32_0
      try clear hcz32_1
      try clear hcz32_2
      try clear hcz32_3
      try clear hcz32_4
      try clear hcz32_5
      try clear hcz32_6
      try clear hcz34_0
      try clear hcz34_1
      try clear hcz34_2
      try clear hcz34_3
      try clear hcz34_4
      try clear hcz34_5
      try clear hcz34_6
      try clear hcz36_0
      try clear hcz36_1
      try clear hcz36_2
      try clear hcz36_3
      try clear hcz36_4
      try clear hcz36_5
      try clear hcz36_6
      try clear hfz12_0
      try clear hfz12_1
      try clear hfz12_2
      try clear hfz12_3
      try clear hfz12_4
      try clear hfz12_5
      try clear hfz12_6
      try clear hfz14_0
      try clear hfz14_1
      try clear hfz14_2
      try clear hfz14_3
      try clear hfz14_4
      try clear hfz14_5
      try clear hfz14_6
      try clear hfz17_0
      try clear hfz17_1
      try clear hfz17_2
      try clear hfz17_3
      try clear hfz17_4
      try clear hfz17_5
      try clear hfz17_6
      try clear hfz19_0
      try clear hfz19_1
      try clear hfz19_2
      try clear hfz19_3
      try clear hfz19_4
      try clear hfz19_5
      try clear hfz19_6
      try clear hfz21_0
      try clear hfz21_1
      try clear hfz21_2
      try clear hfz21_3
      try clear hfz21_4
      try clear hfz21_5
      try clear hfz21_6
      try clear hfz23_0
      try clear hfz23_1
      try clear hfz23_2
      try clear hfz23_3
      try clear hfz23_4
      try clear hfz23_5
      try clear hfz23_6
      try clear hfz26_0
      try clear hfz26_1
      try clear hfz26_2
      try clear hfz26_3
      try clear hfz26_4
      try clear hfz26_5
      try clear hfz26_6
      try clear hfz28_0
      try clear hfz28_1
      try clear hfz28_2
      try clear hfz28_3
      try clear hfz28_4
      try clear hfz28_5
      try clear hfz28_6
      try clear hfz32_0
      try clear hfz32_1
      try clear hfz32_2
      try clear hfz32_3
      try clear hfz32_4
      try clear hfz32_5
      try clear hfz32_6
      try clear hfz34_0
      try clear hfz34_1
      try clear hfz34_2
      try clear hfz34_3
      try clear hfz34_4
      try clear hfz34_5
      try clear hfz34_6
      try clear hfz36_0
      try clear hfz36_1
      try clear hfz36_2
      try clear hfz36_3
      try clear hfz36_4
      try clear hfz36_5
      try clear hfz36_6
      try clear hx492_0
      try clear hx492_1
      try clear hx492_2
      try clear hx492_3
      try clear hx492_4
      try clear hx492_5
      try clear hx492_6
      try clear p2
      try clear p492
      try clear q492
      obtain ⟨kq, x43_23, rfl, HA, HJ23, BK493, HB⟩ := hcut
      cases kq with
      | zero => exact absurd HA.out (by simp [i_Valid.j1])
      | succ kj23 =>
       have H := HA.out
       clear HA
       simp only [i_Valid.j1] at H
       by_cases c38 : x43_23 = true
       rotate_left
       ·replace c38 := Bool.eq_false_iff.mpr c38
        subst c38
        rw [if_neg (show ¬ (false = true) by decide)] at H
        by_cases c39 : x10_1 < (wrap64 ((l0.length : Int) - 1))
        rotate_left
        ·rw [if_neg c39] at H
         have c39b0 : decide (x10_1 < (wrap64 ((l0.length : Int) - 1))) = false := decide_eq_false c39
         clear c39
         have H' := Aside0.mk H
         clear H
         try go_wp2
         have n0_ := aK (blk_drew BK493.out)
         have n1_ := aK (below_drew1 HB.out)
         clear BK493
         clear HB
         have BK493 := n0_
         have HB := n1_
         clear n0_ n1_
         refine start_ (n := 17) (S := fun w' => True) (ds := []) #[false, false, false, false, false, false, false, false, false, false, false, false, false, false, false, false, false] (by kernel_rfl) rfl rfl trivial (fun hHeld => ?_); refine with_tabW i_Valid.tab13 i_Valid.bits13 (fun HT_ HW_ => ?_)
         generalize wc.drew = w49 at BK493 HB hHeld ⊢
         refine pY (i := 0) (N := some 44) (tf 1 16) rfl rfl HT_.out ?_
         refine pY (i := 1) (N := some 45) (tf 2 15) rfl rfl HT_.out ?_
         refine pY (i := 2) (N := some 46) (tf 3 14) rfl rfl HT_.out ?_
         refine pY (i := 3) (N := some 47) (tf 4 13) rfl rfl HT_.out ?_
         refine pY (i := 4) (N := some 48) (tf 5 12) rfl rfl HT_.out ?_
         refine pY (i := 5) (N := some 49) (tf 6 11) rfl rfl HT_.out ?_
         refine pure_ (i := 6) (N := some 50) (v := undef) (a' := ?_) #[true, true, true, true, true, true, true, false, false, false, false, false, false, false, false, false, false] rfl rfl (any_of HT_.out (by kernel_rfl)) (fun _ _ _ h => h) (Or.inr ⟨by rfl, rfl⟩) ?_ ?_
         rotate_left
         ·exact aP
         refine pure_ (i := 7) (N := some 51) (v := undef) (a' := ?_) #[true, true, true, true, true, true, true, true, false, false, false, false, false, false, false, false, false] rfl rfl (any_of HT_.out (by kernel_rfl)) (fun _ _ _ h => h) (Or.inr ⟨by rfl, rfl⟩) ?_ ?_
         rotate_left
         ·exact aP
         refine pure_ (i := 8) (N := some 52) (v := undef) (a' := ?_) #[true, true, true, true, true, true, true, true, true, false, false, false, false, false, false, false, false] rfl rfl (any_of HT_.out (by kernel_rfl)) (fun _ _ _ h => h) (Or.inr ⟨by rfl, rfl⟩) ?_ ?_
         rotate_left
         ·exact aP
         refine pure_ (i := 9) (N := some 53) (v := undef) (a' := ?_) #[true, true, true, true, true, true, true, true, true, true, false, false, false, false, false, false, false] rfl rfl (any_of HT_.out (by kernel_rfl)) (fun _ _ _ h => h) (Or.inr ⟨by rfl, rfl⟩) ?_ ?_
         rotate_left
         ·exact aP
         refine pure_ (i := 10) (N := some 54) (v := undef) (a' := ?_) #[true, true, true, true, true, true, true, true, true, true, true, false, false, false, false, false, false] rfl rfl (any_of HT_.out (by kernel_rfl)) (fun _ _ _ h => h) (Or.inr ⟨by rfl, rfl⟩) ?_ ?_
         rotate_left
         ·exact aP
         refine pure_ (i := 11) (N := some 55) (v := undef) (a' := ?_) #[true, true, true, true, true, true, true, true, true, true, true, true, false, false, false, false, false] rfl rfl (any_of HT_.out (by kernel_rfl)) (fun _ _ _ h => h) (Or.inr ⟨by rfl, rfl⟩) ?_ ?_
         rotate_left
         ·exact aP
         refine pure_ (i := 12) (N := some 56) (v := undef) (a' := ?_) #[true, true, true, true, true, true, true, true, true, true, true, true, true, false, false, false, false] rfl rfl (any_of HT_.out (by kernel_rfl)) (fun _ _ _ h => h) (Or.inr ⟨by rfl, rfl⟩) ?_ ?_
         rotate_left
         ·exact aP
         refine pure_ (i := 13) (N := some 57) (v := undef) (a' := ?_) #[true, true, true, true, true, true, true, true, true, true, true, true, true, true, false, false, false] rfl rfl (any_of HT_.out (by kernel_rfl)) (fun _ _ _ h => h) (Or.inr ⟨by rfl, rfl⟩) ?_ ?_
         rotate_left
         ·exact aP
         refine pure_ (i := 14) (N := some 58) (v := undef) (a' := ?_) #[true, true, true, true, true, true, true, true, true, true, true, true, true, true, true, false, false] rfl rfl (any_of HT_.out (by kernel_rfl)) (fun _ _ _ h => h) (Or.inr ⟨by rfl, rfl⟩) ?_ ?_
         rotate_left
         ·exact aP
         refine pure_ (i := 15) (N := some 59) (v := undef) (a' := ?_) #[true, true, true, true, true, true, true, true, true, true, true, true, true, true, true, true, false] rfl rfl (any_of HT_.out (by kernel_rfl)) (fun _ _ _ h => h) (Or.inr ⟨by rfl, rfl⟩) ?_ ?_
         rotate_left
         ·exact aP
         refine pY (i := 16) (N := some 60) (tf 17 0) rfl rfl HT_.out ?_
         refine done_ (done_of HT_.out (by kernel_rfl)) ?_
         try go_wp2
         go_roundg kj23
         case measure => have := HK1.out; have := HJ23.out; omega
         case rel => exact ⟨(wrap64 (x10_1 + 1)), (by first | rfl | (simp; done) | (simp [*]; done)), H', ⟨by have := HK1.out; have := HJ23.out; omega⟩, ⟨bS GE493.out⟩⟩
        rw [if_pos c39] at H
        have c39b0 : decide (x10_1 < (wrap64 ((l0.length : Int) - 1))) = true := decide_eq_true c39
        clear c39
        obtain ⟨ji40, hji40⟩ : ∃ j_ : Int, (wrap64 (x10_1 + 1)) = j_ := ⟨_, rfl⟩
        replace H : (if 0 ≤ (ji40) then (if (ji40) < (l0.length : Int) then ((v_Compare.f ((rd_T65 l0 x10_1).f1.f0) ((rd_T65 l0 x10_1).f1.f1) ((rd_T65 l0 x10_1).f1.f2) ((rd_T65 l0 (ji40)).f0.f0) ((rd_T65 l0 (ji40)).f0.f1) ((rd_T65 l0 (ji40)).f0.f2)).bind fun t498 => (if t498 ≥ 0 then (some false) else (i_Valid.l0 kj23 l0 l0 (l0.length : Int) ji40))) else (none)) else (none)) = some r := by first | (rw [hji40] at H; exact H) | (simp only [hji40] at H ⊢; exact H)
        have hji40w : (IntKind.i64.wrap (x10_1 + 1)) = ji40 := (i64_w _).trans hji40
        by_cases c41 : 0 ≤ (ji40)
        rotate_left
        ·rw [if_neg c41] at H
         exact absurd H (by simp)
        rw [if_pos c41] at H
        have c41b0 : decide (0 ≤ (ji40)) = true := decide_eq_true c41
        clear c41
        by_cases c42 : (ji40) < (l0.length : Int)
        rotate_left
        ·rw [if_neg c42] at H
         exact absurd H (by simp)
        rw [if_pos c42] at H
        have c42b0 : decide ((ji40) < (l0.length : Int)) = true := decide_eq_true c42
        clear c42
        obtain ⟨t498, A43, H⟩ := oB H
        try dsimp only at H
        by_cases c44 : t498 ≥ 0
        rotate_left
        ·rw [if_neg c44] at H
         have c44b0 : decide (0 ≤ t498) = false := decide_eq_false c44
         clear c44
         have H' := Aside0.mk H
         clear H
         try go_wp2
         have n0_ := aK (blk_drew BK493.out)
         have n1_ := aK (below_drew1 HB.out)
         clear BK493
         clear HB
         have BK493 := n0_
         have HB := n1_
         clear n0_ n1_
         have p497 : 0 ≤ ((ji40) : Int) := of_decide_eq_true (aA)
         have q497 : (ji40) < (l0.length : Int) := of_decide_eq_true (aA)
         obtain ⟨ad497, e497, hx497_0, hx497_1, hx497_2, hx497_3, hx497_4, hx497_5, hx497_6⟩ := at_T65 HR0.out (ji40) p497 q497
         have hw497_6 := hx497_6
         have hw497_5 := hx497_5
         have hw497_4 := hx497_4
         have hw497_3 := hx497_3
         have hw497_2 := hx497_2
         have hw497_1 := hx497_1
         have hw497_0 := hx497_0
         (try rw [← Nbq8.out] at hx497_6)
         obtain rfl : ad492 = ad497 := (by injection e497)
         replace hx497_0 := hW HB.out hx497_0
         replace hx497_1 := hW HB.out hx497_1
         replace hx497_2 := hW HB.out hx497_2
         replace hx497_3 := hW HB.out hx497_3
         replace hx497_4 := hW HB.out hx497_4
         replace hx497_5 := hW HB.out hx497_5
         replace hx497_6 := hW HB.out hx497_6
         replace p497 := eq_true p497
         replace q497 := eq_true q497
         refine start_ (n := 17) (S := fun w' => w'.cell? ⟨gb493, 0, none⟩ = some (.int .i64 ((rd_T65 l0 x10_1).f0.f0)) ∧ w'.cell? ⟨gb493, 1, none⟩ = some (.int .i64 ((rd_T65 l0 x10_1).f0.f1)) ∧ w'.cell? ⟨gb493, 2, none⟩ = some (.string ((rd_T65 l0 x10_1).f0.f2)) ∧ w'.cell? ⟨gb493, 3, none⟩ = some (.int .i64 ((rd_T65 l0 x10_1).f1.f0)) ∧ w'.cell? ⟨gb493, 4, none⟩ = some (.int .i64 ((rd_T65 l0 x10_1).f1.f1)) ∧ w'.cell? ⟨gb493, 5, none⟩ = some (.string ((rd_T65 l0 x10_1).f1.f2)) ∧ w'.cell? ⟨gb493, 6, none⟩ = some (.bool false) ∧ w'.cell? (ad492.add (((ji40)).toNat * 7)) = some (.int .i64 ((rd_T65 l0 (ji40)).f0.f0)) ∧ w'.cell? ⟨(ad492.add (((ji40)).toNat * 7)).block, (ad492.add (((ji40)).toNat * 7)).off + 1, none⟩ = some (.int .i64 ((rd_T65 l0 (ji40)).f0.f1)) ∧ w'.cell? ⟨(ad492.add (((ji40)).toNat * 7)).block, (ad492.add (((ji40)).toNat * 7)).off + 2, none⟩ = some (.string ((rd_T65 l0 (ji40)).f0.f2)) ∧ w'.cell? ⟨(ad492.add (((ji40)).toNat * 7)).block, (ad492.add (((ji40)).toNat * 7)).off + 3, none⟩ = some (.int .i64 ((rd_T65 l0 (ji40)).f1.f0)) ∧ w'.cell? ⟨(ad492.add (((ji40)).toNat * 7)).block, (ad492.add (((ji40)).toNat * 7)).off + 4, none⟩ = some (.int .i64 ((rd_T65 l0 (ji40)).f1.f1)) ∧ w'.cell? ⟨(ad492.add (((ji40)).toNat * 7)).block, (ad492.add (((ji40)).toNat * 7)).off + 5, none⟩ = some (.string ((rd_T65 l0 (ji40)).f1.f2)) ∧ w'.cell? ⟨(ad492.add (((ji40)).toNat * 7)).block, (ad492.add (((ji40)).toNat * 7)).off + 6, none⟩ = some (.bool ((rd_T65 l0 (ji40)).f2))) (ds := []) #[false, false, false, false, false, false, false, false, false, false, false, false, false, false, false, false, false] (by kernel_rfl) rfl rfl ⟨(blk_cell BK493.out 0).trans rfl, (blk_cell BK493.out 1).trans rfl, (blk_cell BK493.out 2).trans rfl, (blk_cell BK493.out 3).trans rfl, (blk_cell BK493.out 4).trans rfl, (blk_cell BK493.out 5).trans rfl, (blk_cell BK493.out 6).trans rfl, ((HB.out.cell (World.block_lt_of_cell? w _ hw497_0)).trans hw497_0), ((HB.out.cell (World.block_lt_of_cell? w _ hw497_1)).trans hw497_1), ((HB.out.cell (World.block_lt_of_cell? w _ hw497_2)).trans hw497_2), ((HB.out.cell (World.block_lt_of_cell? w _ hw497_3)).trans hw497_3), ((HB.out.cell (World.block_lt_of_cell? w _ hw497_4)).trans hw497_4), ((HB.out.cell (World.block_lt_of_cell? w _ hw497_5)).trans hw497_5), ((HB.out.cell (World.block_lt_of_cell? w _ hw497_6)).trans hw497_6)⟩ (fun hHeld => ?_); refine with_tabW i_Valid.tab13 i_Valid.bits13 (fun HT_ HW_ => ?_)
         generalize wc.drew = w47 at BK493 HB hx497_0 hx497_1 hx497_2 hx497_3 hx497_4 hx497_5 hx497_6 hHeld ⊢
         refine pY (i := 0) (N := some 44) (tf 1 16) rfl rfl HT_.out ?_
         refine pY (i := 1) (N := some 45) (tf 2 15) rfl rfl HT_.out ?_
         refine pY (i := 2) (N := some 46) (tf 3 14) rfl rfl HT_.out ?_
         refine pY (i := 3) (N := some 47) (tf 4 13) rfl rfl HT_.out ?_
         refine pY (i := 4) (N := some 48) (tf 5 12) rfl rfl HT_.out ?_
         refine pY (i := 5) (N := some 49) (tf 6 11) rfl rfl HT_.out ?_
         refine pY (i := 6) (N := some 50) (tf 7 10) rfl rfl HT_.out ?_
         refine pY (i := 8) (N := some 52) #[true, true, true, true, true, true, true, false, true, false, false, false, false, false, false, false, false] rfl rfl HT_.out ?_
         refine pY (i := 9) (N := some 53) #[true, true, true, true, true, true, true, false, true, true, false, false, false, false, false, false, false] rfl rfl HT_.out ?_
         refine pY (i := 10) (N := some 54) #[true, true, true, true, true, true, true, false, true, true, true, false, false, false, false, false, false] rfl rfl HT_.out ?_
         refine pY (i := 11) (N := some 55) #[true, true, true, true, true, true, true, false, true, true, true, true, false, false, false, false, false] rfl rfl HT_.out ?_
         refine pY (i := 12) (N := some 56) #[true, true, true, true, true, true, true, false, true, true, true, true, true, false, false, false, false] rfl rfl HT_.out ?_
         refine take_ (i := 7) (N := some 51) (v := ?_) (a' := ?_) #[true, true, true, true, true, true, true, true, true, true, true, true, true, false, false, false, false] rfl rfl (take_ofW HT_.out HW_.out (by kernel_rfl)) (fun _ _ _ h => h) (Or.inl ⟨by rfl, ?_⟩) hHeld ?_ ?_
         rotate_left
         ·rintro w' ⟨s0, s1, s2, s3, s4, s5, s6, s7, s8, s9, s10, s11, s12, s13⟩
          go_simp
          with_reducible rfl
         rotate_left
         ·exact aP
         refine take_ (i := 13) (N := some 57) (v := ?_) (a' := ?_) #[true, true, true, true, true, true, true, true, true, true, true, true, true, true, false, false, false] rfl rfl (take_ofW HT_.out HW_.out (by kernel_rfl)) (fun _ _ _ h => h) (Or.inl ⟨by rfl, ?_⟩) hHeld ?_ ?_
         rotate_left
         ·rintro w' ⟨s0, s1, s2, s3, s4, s5, s6, s7, s8, s9, s10, s11, s12, s13⟩
          go_simp
          with_reducible rfl
         rotate_left
         ·exact aP
         refine one_ (i := 14) (N := some 58) #[true, true, true, true, true, true, true, true, true, true, true, true, true, true, true, false, false] rfl rfl (one_of HT_.out (by kernel_rfl)) (by decide) (fun K hK => ?_)
         refine goes_ Try.func25 (by kernel_rfl) rfl #[.agg #[.int .i64 ((rd_T65 l0 x10_1).f1.f0), .int .i64 ((rd_T65 l0 x10_1).f1.f1), .string ((rd_T65 l0 x10_1).f1.f2)], .agg #[.int .i64 ((rd_T65 l0 (ji40)).f0.f0), .int .i64 ((rd_T65 l0 (ji40)).f0.f1), .string ((rd_T65 l0 (ji40)).f0.f2)]] (by rfl) rfl rfl (by (try simp only [List.map_toArray, List.map_cons, List.map_nil]); first | done | (simp only [hji40]; rfl) | rfl | (simp only [List.length_drop, List.length_take]; rfl)) ?_
         with_reducible refine (v_Compare.calls ((rd_T65 l0 x10_1).f1.f0) ((rd_T65 l0 x10_1).f1.f1) ((rd_T65 l0 x10_1).f1.f2) ((rd_T65 l0 (ji40)).f0.f0) ((rd_T65 l0 (ji40)).f0.f1) ((rd_T65 l0 (ji40)).f0.f2) t498 _ A43.out).mono ?_
         rintro e w48 ⟨rfl, hb⟩
         refine ⟨_, rfl, ?_⟩
         have n0_ := aK (blk_below (bX BK493.out) hb)
         have n1_ := aK (below_step (bS GE493.out) hb)
         clear BK493
         clear HB
         have BK493 := n0_
         have HB := n1_
         clear n0_ n1_
         (try clear hb)
         (try clear hb2)
         (try clear hk)
         (try clear hi)
         refine hK.out _ _ ⟨(blk_cell BK493.out 0).trans rfl, (blk_cell BK493.out 1).trans rfl, (blk_cell BK493.out 2).trans rfl, (blk_cell BK493.out 3).trans rfl, (blk_cell BK493.out 4).trans rfl, (blk_cell BK493.out 5).trans rfl, (blk_cell BK493.out 6).trans rfl, ((HB.out.cell (World.block_lt_of_cell? w _ hw497_0)).trans hw497_0), ((HB.out.cell (World.block_lt_of_cell? w _ hw497_1)).trans hw497_1), ((HB.out.cell (World.block_lt_of_cell? w _ hw497_2)).trans hw497_2), ((HB.out.cell (World.block_lt_of_cell? w _ hw497_3)).trans hw497_3), ((HB.out.cell (World.block_lt_of_cell? w _ hw497_4)).trans hw497_4), ((HB.out.cell (World.block_lt_of_cell? w _ hw497_5)).trans hw497_5), ((HB.out.cell (World.block_lt_of_cell? w _ hw497_6)).trans hw497_6)⟩ (fun hHeld => ?_)
         clear hK K
         refine norm_ (a' := ?_) ?_ ?_
         rotate_left
         ·show Act.put _ (some 58) _ = _
          simp only [Act.put, List.setIfInBounds_toArray, List.set_cons_zero, List.set_cons_succ, i64_w, i32_w]
          rfl
         refine pY (i := 15) (N := some 59) (tf 16 1) rfl rfl HT_.out ?_
         refine pY (i := 16) (N := some 60) (tf 17 0) rfl rfl HT_.out ?_
         refine done_ (done_of HT_.out (by kernel_rfl)) ?_
         try go_wp2
         go_roundg kj23
         case measure => have := HK1.out; have := HJ23.out; omega
         case rel => exact ⟨(ji40), (by first | rfl | (simp; done) | (simp only [← hji40] <;> (first | rfl | simp)) | (simp [*]; done)), H', ⟨by have := HK1.out; have := HJ23.out; omega⟩, ⟨bS GE493.out⟩⟩
        rw [if_pos c44] at H
        have c44b0 : decide (0 ≤ t498) = true := decide_eq_true c44
        clear c44
        obtain rfl := Option.some.inj H
        try go_wp2
        have n0_ := aK (blk_drew BK493.out)
        have n1_ := aK (below_drew1 HB.out)
        clear BK493
        clear HB
        have BK493 := n0_
        have HB := n1_
        clear n0_ n1_
        have p497 : 0 ≤ ((ji40) : Int) := of_decide_eq_true (aA)
        have q497 : (ji40) < (l0.length : Int) := of_decide_eq_true (aA)
        obtain ⟨ad497, e497, hx497_0, hx497_1, hx497_2, hx497_3, hx497_4, hx497_5, hx497_6⟩ := at_T65 HR0.out (ji40) p497 q497
        have hw497_6 := hx497_6
        have hw497_5 := hx497_5
        have hw497_4 := hx497_4
        have hw497_3 := hx497_3
        have hw497_2 := hx497_2
        have hw497_1 := hx497_1
        have hw497_0 := hx497_0
        (try rw [← Nbq8.out] at hx497_6)
        obtain rfl : ad492 = ad497 := (by injection e497)
        replace hx497_0 := hW HB.out hx497_0
        replace hx497_1 := hW HB.out hx497_1
        replace hx497_2 := hW HB.out hx497_2
        replace hx497_3 := hW HB.out hx497_3
        replace hx497_4 := hW HB.out hx497_4
        replace hx497_5 := hW HB.out hx497_5
        replace hx497_6 := hW HB.out hx497_6
        replace p497 := eq_true p497
        replace q497 := eq_true q497
        refine start_ (n := 17) (S := fun w' => w'.cell? ⟨gb493, 0, none⟩ = some (.int .i64 ((rd_T65 l0 x10_1).f0.f0)) ∧ w'.cell? ⟨gb493, 1, none⟩ = some (.int .i64 ((rd_T65 l0 x10_1).f0.f1)) ∧ w'.cell? ⟨gb493, 2, none⟩ = some (.string ((rd_T65 l0 x10_1).f0.f2)) ∧ w'.cell? ⟨gb493, 3, none⟩ = some (.int .i64 ((rd_T65 l0 x10_1).f1.f0)) ∧ w'.cell? ⟨gb493, 4, none⟩ = some (.int .i64 ((rd_T65 l0 x10_1).f1.f1)) ∧ w'.cell? ⟨gb493, 5, none⟩ = some (.string ((rd_T65 l0 x10_1).f1.f2)) ∧ w'.cell? ⟨gb493, 6, none⟩ = some (.bool false) ∧ w'.cell? (ad492.add (((ji40)).toNat * 7)) = some (.int .i64 ((rd_T65 l0 (ji40)).f0.f0)) ∧ w'.cell? ⟨(ad492.add (((ji40)).toNat * 7)).block, (ad492.add (((ji40)).toNat * 7)).off + 1, none⟩ = some (.int .i64 ((rd_T65 l0 (ji40)).f0.f1)) ∧ w'.cell? ⟨(ad492.add (((ji40)).toNat * 7)).block, (ad492.add (((ji40)).toNat * 7)).off + 2, none⟩ = some (.string ((rd_T65 l0 (ji40)).f0.f2)) ∧ w'.cell? ⟨(ad492.add (((ji40)).toNat * 7)).block, (ad492.add (((ji40)).toNat * 7)).off + 3, none⟩ = some (.int .i64 ((rd_T65 l0 (ji40)).f1.f0)) ∧ w'.cell? ⟨(ad492.add (((ji40)).toNat * 7)).block, (ad492.add (((ji40)).toNat * 7)).off + 4, none⟩ = some (.int .i64 ((rd_T65 l0 (ji40)).f1.f1)) ∧ w'.cell? ⟨(ad492.add (((ji40)).toNat * 7)).block, (ad492.add (((ji40)).toNat * 7)).off + 5, none⟩ = some (.string ((rd_T65 l0 (ji40)).f1.f2)) ∧ w'.cell? ⟨(ad492.add (((ji40)).toNat * 7)).block, (ad492.add (((ji40)).toNat * 7)).off + 6, none⟩ = some (.bool ((rd_T65 l0 (ji40)).f2))) (ds := []) #[false, false, false, false, false, false, false, false, false, false, false, false, false, false, false, false, false] (by kernel_rfl) rfl rfl ⟨(blk_cell BK493.out 0).trans rfl, (blk_cell BK493.out 1).trans rfl, (blk_cell BK493.out 2).trans rfl, (blk_cell BK493.out 3).trans rfl, (blk_cell BK493.out 4).trans rfl, (blk_cell BK493.out 5).trans rfl, (blk_cell BK493.out 6).trans rfl, ((HB.out.cell (World.block_lt_of_cell? w _ hw497_0)).trans hw497_0), ((HB.out.cell (World.block_lt_of_cell? w _ hw497_1)).trans hw497_1), ((HB.out.cell (World.block_lt_of_cell? w _ hw497_2)).trans hw497_2), ((HB.out.cell (World.block_lt_of_cell? w _ hw497_3)).trans hw497_3), ((HB.out.cell (World.block_lt_of_cell? w _ hw497_4)).trans hw497_4), ((HB.out.cell (World.block_lt_of_cell? w _ hw497_5)).trans hw497_5), ((HB.out.cell (World.block_lt_of_cell? w _ hw497_6)).trans hw497_6)⟩ (fun hHeld => ?_); refine with_tabW i_Valid.tab13 i_Valid.bits13 (fun HT_ HW_ => ?_)
        generalize wc.drew = w45 at BK493 HB hx497_0 hx497_1 hx497_2 hx497_3 hx497_4 hx497_5 hx497_6 hHeld ⊢
        refine pY (i := 0) (N := some 44) (tf 1 16) rfl rfl HT_.out ?_
        refine pY (i := 1) (N := some 45) (tf 2 15) rfl rfl HT_.out ?_
        refine pY (i := 2) (N := some 46) (tf 3 14) rfl rfl HT_.out ?_
        refine pY (i := 3) (N := some 47) (tf 4 13) rfl rfl HT_.out ?_
        refine pY (i := 4) (N := some 48) (tf 5 12) rfl rfl HT_.out ?_
        refine pY (i := 5) (N := some 49) (tf 6 11) rfl rfl HT_.out ?_
        refine pY (i := 6) (N := some 50) (tf 7 10) rfl rfl HT_.out ?_
        refine pY (i := 8) (N := some 52) #[true, true, true, true, true, true, true, false, true, false, false, false, false, false, false, false, false] rfl rfl HT_.out ?_
        refine pY (i := 9) (N := some 53) #[true, true, true, true, true, true, true, false, true, true, false, false, false, false, false, false, false] rfl rfl HT_.out ?_
        refine pY (i := 10) (N := some 54) #[true, true, true, true, true, true, true, false, true, true, true, false, false, false, false, false, false] rfl rfl HT_.out ?_
        refine pY (i := 11) (N := some 55) #[true, true, true, true, true, true, true, false, true, true, true, true, false, false, false, false, false] rfl rfl HT_.out ?_
        refine pY (i := 12) (N := some 56) #[true, true, true, true, true, true, true, false, true, true, true, true, true, false, false, false, false] rfl rfl HT_.out ?_
        refine take_ (i := 7) (N := some 51) (v := ?_) (a' := ?_) #[true, true, true, true, true, true, true, true, true, true, true, true, true, false, false, false, false] rfl rfl (take_ofW HT_.out HW_.out (by kernel_rfl)) (fun _ _ _ h => h) (Or.inl ⟨by rfl, ?_⟩) hHeld ?_ ?_
        rotate_left
        ·rintro w' ⟨s0, s1, s2, s3, s4, s5, s6, s7, s8, s9, s10, s11, s12, s13⟩
         go_simp
         with_reducible rfl
        rotate_left
        ·exact aP
        refine take_ (i := 13) (N := some 57) (v := ?_) (a' := ?_) #[true, true, true, true, true, true, true, true, true, true, true, true, true, true, false, false, false] rfl rfl (take_ofW HT_.out HW_.out (by kernel_rfl)) (fun _ _ _ h => h) (Or.inl ⟨by rfl, ?_⟩) hHeld ?_ ?_
        rotate_left
        ·rintro w' ⟨s0, s1, s2, s3, s4, s5, s6, s7, s8, s9, s10, s11, s12, s13⟩
         go_simp
         with_reducible rfl
        rotate_left
        ·exact aP
        refine one_ (i := 14) (N := some 58) #[true, true, true, true, true, true, true, true, true, true, true, true, true, true, true, false, false] rfl rfl (one_of HT_.out (by kernel_rfl)) (by decide) (fun K hK => ?_)
        refine goes_ Try.func25 (by kernel_rfl) rfl #[.agg #[.int .i64 ((rd_T65 l0 x10_1).f1.f0), .int .i64 ((rd_T65 l0 x10_1).f1.f1), .string ((rd_T65 l0 x10_1).f1.f2)], .agg #[.int .i64 ((rd_T65 l0 (ji40)).f0.f0), .int .i64 ((rd_T65 l0 (ji40)).f0.f1), .string ((rd_T65 l0 (ji40)).f0.f2)]] (by rfl) rfl rfl (by (try simp only [List.map_toArray, List.map_cons, List.map_nil]); first | done | (simp only [hji40]; rfl) | rfl | (simp only [List.length_drop, List.length_take]; rfl)) ?_
        with_reducible refine (v_Compare.calls ((rd_T65 l0 x10_1).f1.f0) ((rd_T65 l0 x10_1).f1.f1) ((rd_T65 l0 x10_1).f1.f2) ((rd_T65 l0 (ji40)).f0.f0) ((rd_T65 l0 (ji40)).f0.f1) ((rd_T65 l0 (ji40)).f0.f2) t498 _ A43.out).mono ?_
        rintro e w46 ⟨rfl, hb⟩
        refine ⟨_, rfl, ?_⟩
        have n0_ := aK (blk_below (bX BK493.out) hb)
        have n1_ := aK (below_step (bS GE493.out) hb)
        clear BK493
        clear HB
        have BK493 := n0_
        have HB := n1_
        clear n0_ n1_
        (try clear hb)
        (try clear hb2)
        (try clear hk)
        (try clear hi)
        refine hK.out _ _ ⟨(blk_cell BK493.out 0).trans rfl, (blk_cell BK493.out 1).trans rfl, (blk_cell BK493.out 2).trans rfl, (blk_cell BK493.out 3).trans rfl, (blk_cell BK493.out 4).trans rfl, (blk_cell BK493.out 5).trans rfl, (blk_cell BK493.out 6).trans rfl, ((HB.out.cell (World.block_lt_of_cell? w _ hw497_0)).trans hw497_0), ((HB.out.cell (World.block_lt_of_cell? w _ hw497_1)).trans hw497_1), ((HB.out.cell (World.block_lt_of_cell? w _ hw497_2)).trans hw497_2), ((HB.out.cell (World.block_lt_of_cell? w _ hw497_3)).trans hw497_3), ((HB.out.cell (World.block_lt_of_cell? w _ hw497_4)).trans hw497_4), ((HB.out.cell (World.block_lt_of_cell? w _ hw497_5)).trans hw497_5), ((HB.out.cell (World.block_lt_of_cell? w _ hw497_6)).trans hw497_6)⟩ (fun hHeld => ?_)
        clear hK K
        refine norm_ (a' := ?_) ?_ ?_
        rotate_left
        ·show Act.put _ (some 58) _ = _
         simp only [Act.put, List.setIfInBounds_toArray, List.set_cons_zero, List.set_cons_succ, i64_w, i32_w]
         rfl
        refine pY (i := 15) (N := some 59) (tf 16 1) rfl rfl HT_.out ?_
        refine pY (i := 16) (N := some 60) (tf 17 0) rfl rfl HT_.out ?_
        refine done_ (done_of HT_.out (by kernel_rfl)) ?_
        try go_wp2
        go_ret
        exact ⟨by first | rfl | (simp [errW_none, errW_some] <;> rfl) | (simp only [← hji40]; first | rfl | (simp [errW_none, errW_some] <;> rfl)) | (simp [*, errW_none, errW_some] <;> rfl), bS GE493.out⟩
       subst c38
       rw [if_pos rfl] at H
       obtain rfl := Option.some.inj H
       go_wp2
       go_ret
       exact ⟨eW, bS GE493.out⟩
    subst c9
    rw [if_pos rfl] at H
    by_cases c10 : x10_1 < (wrap64 ((l0.length : Int) - 1))
    rotate_left
    ·rw [if_neg c10] at H
     have c10b0 : decide (x10_1 < (wrap64 ((l0.length : Int) - 1))) = false := decide_eq_false c10
     clear c10
     by_cases c15 : (!(((rd_T65 l0 x10_1).f1.f0) == 0) || (!(((rd_T65 l0 x10_1).f1.f1) == 0) || (!((((rd_T65 l0 x10_1).f1.f2).toList) == ([] : List UInt8))))) = true
     rotate_left
     ·rw [if_neg c15] at H
      have c15b0 : (!(((rd_T65 l0 x10_1).f1.f0) == 0) || (!(((rd_T65 l0 x10_1).f1.f1) == 0) || (!((((rd_T65 l0 x10_1).f1.f2).toList) == ([] : List UInt8))))) = false := by simpa using c15
      have c15b7 : (((rd_T65 l0 x10_1).f1.f0) = 0 ∧ ((rd_T65 l0 x10_1).f1.f1) = 0 ∧ ((rd_T65 l0 x10_1).f1.f2).toList = ([] : List UInt8)) = True := eq_true (by simpa using c15b0)
      have c15b8 : (!(((rd_T65 l0 x10_1).f1.f0) == 0) || (!(((rd_T65 l0 x10_1).f1.f1) == 0) || (!(((rd_T65 l0 x10_1).f1.f2).toList.isEmpty)))) = false := by rw [← c15b0]; cases ((rd_T65 l0 x10_1).f1.f2).toList <;> rfl
      clear c15
      have H' := Aside0.mk H
      clear H
      have p492 : 0 ≤ (x10_1 : Int) := of_decide_eq_true (aA)
      have q492 : x10_1 < (l0.length : Int) := of_decide_eq_true (aA)
      obtain ⟨ad492, e492, hx492_0, hx492_1, hx492_2, hx492_3, hx492_4, hx492_5, hx492_6⟩ := at_T65 HR0.out x10_1 p492 q492
      (try rw [← Nbq8.out] at hx492_6)
      cases e492
      replace hx492_0 := hW HB.out hx492_0
      replace hx492_1 := hW HB.out hx492_1
      replace hx492_2 := hW HB.out hx492_2
      replace hx492_3 := hW HB.out hx492_3
      replace hx492_4 := hW HB.out hx492_4
      replace hx492_5 := hW HB.out hx492_5
      replace hx492_6 := hW HB.out hx492_6
      replace p492 := eq_true p492
      replace q492 := eq_true q492
      go_wp2_with (first | ((with_reducible refine gate_dst (N := 4) rfl ?_); refine box_event ?hg (N := 4) ?hd (cs := #[.int .i64 0, .int .i64 0, .string (⟨#[]⟩ : ByteArray), .int .i64 0, .int .i64 0, .string (⟨#[]⟩ : ByteArray), .bool false]) (t := 65) ?hr ?_; (case hd => rfl); (case hg => rfl); (case hr => exact hR); intro gb493 hg w20 hbox hb; have n0_ := aK (below_step bO hb); have n1_ := aK (hbox); have n2_ := aK ((by rw [hg]; exact (below_size bO) : w.heap.size ≤ gb493)); have n3_ := aK ((by rw [hg]; exact (below_size bO) : w.heap.size ≤ gb493)); clear HB; have HB := n0_; have BK493 := n1_; have GW493 := n2_; have GE493 := n3_; clear n0_ n1_ n2_ n3_ hb hbox hg; obtain ⟨hcz21_0, hcz21_1, hcz21_2, hcz21_3, hcz21_4, hcz21_5, hcz21_6⟩ := z7 BK493.out (.int .i64 0) (.int .i64 0) (.string (⟨#[]⟩ : ByteArray)) (.int .i64 0) (.int .i64 0) (.string (⟨#[]⟩ : ByteArray)) (.bool false); obtain ⟨hfz21_0, hfz21_1, hfz21_2, hfz21_3, hfz21_4, hfz21_5, hfz21_6⟩ := f7 BK493.out) | ((with_reducible refine gate_callee (f := 21) rfl ?_); refine gL (some 17) rfl Try.func21 #[.agg #[.int .i64 ((rd_T65 l0 x10_1).f0.f0), .int .i64 ((rd_T65 l0 x10_1).f0.f1), .string ((rd_T65 l0 x10_1).f0.f2)]] rfl ?_; (with_reducible refine (v_Valid.calls k1 ((rd_T65 l0 x10_1).f0.f0) ((rd_T65 l0 x10_1).f0.f1) ((rd_T65 l0 x10_1).f0.f2) true _ A6.out).mono ?_); rintro e w22 ⟨rfl, hb⟩; refine ⟨_, rfl, ?_⟩; have n0_ := aK (blk_below (g := gb493) (o := .cells #[.int .i64 ((rd_T65 l0 x10_1).f0.f0), .int .i64 ((rd_T65 l0 x10_1).f0.f1), .string ((rd_T65 l0 x10_1).f0.f2), .int .i64 ((rd_T65 l0 x10_1).f1.f0), .int .i64 ((rd_T65 l0 x10_1).f1.f1), .string ((rd_T65 l0 x10_1).f1.f2), .bool true] 65 (0, 0)) (by (with_reducible repeat (first | refine blk_drewN ?_ _ | refine blk_drew ?_ | refine blk_alloc ?_ _)); refine blk_put (cs := #[.int .i64 ((rd_T65 l0 x10_1).f0.f0), .int .i64 ((rd_T65 l0 x10_1).f0.f1), .string ((rd_T65 l0 x10_1).f0.f2), .int .i64 ((rd_T65 l0 x10_1).f1.f0), .int .i64 ((rd_T65 l0 x10_1).f1.f1), .string ((rd_T65 l0 x10_1).f1.f2), .bool false]) ?_ 6 _ rfl; (with_reducible repeat (first | refine blk_drewN ?_ _ | refine blk_drew ?_ | refine blk_alloc ?_ _)); refine blk_put (cs := #[.int .i64 ((rd_T65 l0 x10_1).f0.f0), .int .i64 ((rd_T65 l0 x10_1).f0.f1), .string ((rd_T65 l0 x10_1).f0.f2), .int .i64 ((rd_T65 l0 x10_1).f1.f0), .int .i64 ((rd_T65 l0 x10_1).f1.f1), .string (⟨#[]⟩ : ByteArray), .bool false]) ?_ 5 _ rfl; (with_reducible repeat (first | refine blk_drewN ?_ _ | refine blk_drew ?_ | refine blk_alloc ?_ _)); refine blk_put (cs := #[.int .i64 ((rd_T65 l0 x10_1).f0.f0), .int .i64 ((rd_T65 l0 x10_1).f0.f1), .string ((rd_T65 l0 x10_1).f0.f2), .int .i64 ((rd_T65 l0 x10_1).f1.f0), .int .i64 0, .string (⟨#[]⟩ : ByteArray), .bool false]) ?_ 4 _ rfl; (with_reducible repeat (first | refine blk_drewN ?_ _ | refine blk_drew ?_ | refine blk_alloc ?_ _)); refine blk_put (cs := #[.int .i64 ((rd_T65 l0 x10_1).f0.f0), .int .i64 ((rd_T65 l0 x10_1).f0.f1), .string ((rd_T65 l0 x10_1).f0.f2), .int .i64 0, .int .i64 0, .string (⟨#[]⟩ : ByteArray), .bool false]) ?_ 3 _ rfl; (with_reducible repeat (first | refine blk_drewN ?_ _ | refine blk_drew ?_ | refine blk_alloc ?_ _)); refine blk_put (cs := #[.int .i64 ((rd_T65 l0 x10_1).f0.f0), .int .i64 ((rd_T65 l0 x10_1).f0.f1), .string (⟨#[]⟩ : ByteArray), .int .i64 0, .int .i64 0, .string (⟨#[]⟩ : ByteArray), .bool false]) ?_ 2 _ rfl; (with_reducible repeat (first | refine blk_drewN ?_ _ | refine blk_drew ?_ | refine blk_alloc ?_ _)); refine blk_put (cs := #[.int .i64 ((rd_T65 l0 x10_1).f0.f0), .int .i64 0, .string (⟨#[]⟩ : ByteArray), .int .i64 0, .int .i64 0, .string (⟨#[]⟩ : ByteArray), .bool false]) ?_ 1 _ rfl; (with_reducible repeat (first | refine blk_drewN ?_ _ | refine blk_drew ?_ | refine blk_alloc ?_ _)); refine blk_put (cs := #[.int .i64 0, .int .i64 0, .string (⟨#[]⟩ : ByteArray), .int .i64 0, .int .i64 0, .string (⟨#[]⟩ : ByteArray), .bool false]) ?_ 0 _ rfl; (with_reducible repeat (first | refine blk_drewN ?_ _ | refine blk_drew ?_ | refine blk_alloc ?_ _)); exact BK493.out) hb); have n1_ := aK (below_step (bS GE493.out) hb); clear BK493 HB; have BK493 := n0_; have HB := n1_; clear n0_ n1_; (try clear hb); obtain ⟨hcz23_0, hcz23_1, hcz23_2, hcz23_3, hcz23_4, hcz23_5, hcz23_6⟩ := z7 BK493.out (.int .i64 ((rd_T65 l0 x10_1).f0.f0)) (.int .i64 ((rd_T65 l0 x10_1).f0.f1)) (.string ((rd_T65 l0 x10_1).f0.f2)) (.int .i64 ((rd_T65 l0 x10_1).f1.f0)) (.int .i64 ((rd_T65 l0 x10_1).f1.f1)) (.string ((rd_T65 l0 x10_1).f1.f2)) (.bool true); obtain ⟨hfz23_0, hfz23_1, hfz23_2, hfz23_3, hfz23_4, hfz23_5, hfz23_6⟩ := f7 BK493.out))
      go_roundg k1
      case measure => have := HK1.out; omega
      case rel => exact ⟨(wrap64 (x10_1 + 1)), (by first | rfl | (simp; done) | (simp [*]; done)), H', ⟨by have := HK1.out; omega⟩, ⟨bS GE493.out⟩⟩
     rw [if_pos c15] at H
     have c15b0 : (!(((rd_T65 l0 x10_1).f1.f0) == 0) || (!(((rd_T65 l0 x10_1).f1.f1) == 0) || (!((((rd_T65 l0 x10_1).f1.f2).toList) == ([] : List UInt8))))) = true := c15
     have c15b7 : (((rd_T65 l0 x10_1).f1.f0) = 0 ∧ ((rd_T65 l0 x10_1).f1.f1) = 0 ∧ ((rd_T65 l0 x10_1).f1.f2).toList = ([] : List UInt8)) = False := eq_false (fun h_ => by simp [h_.1, h_.2.1, h_.2.2] at c15b0)
     have c15b8 : (!(((rd_T65 l0 x10_1).f1.f0) == 0) || (!(((rd_T65 l0 x10_1).f1.f1) == 0) || (!(((rd_T65 l0 x10_1).f1.f2).toList.isEmpty)))) = true := by rw [← c15b0]; cases ((rd_T65 l0 x10_1).f1.f2).toList <;> rfl
     clear c15
     obtain rfl := Option.some.inj H
     have p492 : 0 ≤ (x10_1 : Int) := of_decide_eq_true (aA)
     have q492 : x10_1 < (l0.length : Int) := of_decide_eq_true (aA)
     obtain ⟨ad492, e492, hx492_0, hx492_1, hx492_2, hx492_3, hx492_4, hx492_5, hx492_6⟩ := at_T65 HR0.out x10_1 p492 q492
     (try rw [← Nbq8.out] at hx492_6)
     cases e492
     replace hx492_0 := hW HB.out hx492_0
     replace hx492_1 := hW HB.out hx492_1
     replace hx492_2 := hW HB.out hx492_2
     replace hx492_3 := hW HB.out hx492_3
     replace hx492_4 := hW HB.out hx492_4
     replace hx492_5 := hW HB.out hx492_5
     replace hx492_6 := hW HB.out hx492_6
     replace p492 := eq_true p492
     replace q492 := eq_true q492
     go_wp2_with (first | ((with_reducible refine gate_dst (N := 4) rfl ?_); refine box_event ?hg (N := 4) ?hd (cs := #[.int .i64 0, .int .i64 0, .string (⟨#[]⟩ : ByteArray), .int .i64 0, .int .i64 0, .string (⟨#[]⟩ : ByteArray), .bool false]) (t := 65) ?hr ?_; (case hd => rfl); (case hg => rfl); (case hr => exact hR); intro gb493 hg w16 hbox hb; have n0_ := aK (below_step bO hb); have n1_ := aK (hbox); have n2_ := aK ((by rw [hg]; exact (below_size bO) : w.heap.size ≤ gb493)); have n3_ := aK ((by rw [hg]; exact (below_size bO) : w.heap.size ≤ gb493)); clear HB; have HB := n0_; have BK493 := n1_; have GW493 := n2_; have GE493 := n3_; clear n0_ n1_ n2_ n3_ hb hbox hg; obtain ⟨hcz17_0, hcz17_1, hcz17_2, hcz17_3, hcz17_4, hcz17_5, hcz17_6⟩ := z7 BK493.out (.int .i64 0) (.int .i64 0) (.string (⟨#[]⟩ : ByteArray)) (.int .i64 0) (.int .i64 0) (.string (⟨#[]⟩ : ByteArray)) (.bool false); obtain ⟨hfz17_0, hfz17_1, hfz17_2, hfz17_3, hfz17_4, hfz17_5, hfz17_6⟩ := f7 BK493.out) | ((with_reducible refine gate_callee (f := 21) rfl ?_); refine gL (some 17) rfl Try.func21 #[.agg #[.int .i64 ((rd_T65 l0 x10_1).f0.f0), .int .i64 ((rd_T65 l0 x10_1).f0.f1), .string ((rd_T65 l0 x10_1).f0.f2)]] rfl ?_; (with_reducible refine (v_Valid.calls k1 ((rd_T65 l0 x10_1).f0.f0) ((rd_T65 l0 x10_1).f0.f1) ((rd_T65 l0 x10_1).f0.f2) true _ A6.out).mono ?_); rintro e w18 ⟨rfl, hb⟩; refine ⟨_, rfl, ?_⟩; have n0_ := aK (blk_below (g := gb493) (o := .cells #[.int .i64 ((rd_T65 l0 x10_1).f0.f0), .int .i64 ((rd_T65 l0 x10_1).f0.f1), .string ((rd_T65 l0 x10_1).f0.f2), .int .i64 ((rd_T65 l0 x10_1).f1.f0), .int .i64 ((rd_T65 l0 x10_1).f1.f1), .string ((rd_T65 l0 x10_1).f1.f2), .bool true] 65 (0, 0)) (by (with_reducible repeat (first | refine blk_drewN ?_ _ | refine blk_drew ?_ | refine blk_alloc ?_ _)); refine blk_put (cs := #[.int .i64 ((rd_T65 l0 x10_1).f0.f0), .int .i64 ((rd_T65 l0 x10_1).f0.f1), .string ((rd_T65 l0 x10_1).f0.f2), .int .i64 ((rd_T65 l0 x10_1).f1.f0), .int .i64 ((rd_T65 l0 x10_1).f1.f1), .string ((rd_T65 l0 x10_1).f1.f2), .bool false]) ?_ 6 _ rfl; (with_reducible repeat (first | refine blk_drewN ?_ _ | refine blk_drew ?_ | refine blk_alloc ?_ _)); refine blk_put (cs := #[.int .i64 ((rd_T65 l0 x10_1).f0.f0), .int .i64 ((rd_T65 l0 x10_1).f0.f1), .string ((rd_T65 l0 x10_1).f0.f2), .int .i64 ((rd_T65 l0 x10_1).f1.f0), .int .i64 ((rd_T65 l0 x10_1).f1.f1), .string (⟨#[]⟩ : ByteArray), .bool false]) ?_ 5 _ rfl; (with_reducible repeat (first | refine blk_drewN ?_ _ | refine blk_drew ?_ | refine blk_alloc ?_ _)); refine blk_put (cs := #[.int .i64 ((rd_T65 l0 x10_1).f0.f0), .int .i64 ((rd_T65 l0 x10_1).f0.f1), .string ((rd_T65 l0 x10_1).f0.f2), .int .i64 ((rd_T65 l0 x10_1).f1.f0), .int .i64 0, .string (⟨#[]⟩ : ByteArray), .bool false]) ?_ 4 _ rfl; (with_reducible repeat (first | refine blk_drewN ?_ _ | refine blk_drew ?_ | refine blk_alloc ?_ _)); refine blk_put (cs := #[.int .i64 ((rd_T65 l0 x10_1).f0.f0), .int .i64 ((rd_T65 l0 x10_1).f0.f1), .string ((rd_T65 l0 x10_1).f0.f2), .int .i64 0, .int .i64 0, .string (⟨#[]⟩ : ByteArray), .bool false]) ?_ 3 _ rfl; (with_reducible repeat (first | refine blk_drewN ?_ _ | refine blk_drew ?_ | refine blk_alloc ?_ _)); refine blk_put (cs := #[.int .i64 ((rd_T65 l0 x10_1).f0.f0), .int .i64 ((rd_T65 l0 x10_1).f0.f1), .string (⟨#[]⟩ : ByteArray), .int .i64 0, .int .i64 0, .string (⟨#[]⟩ : ByteArray), .bool false]) ?_ 2 _ rfl; (with_reducible repeat (first | refine blk_drewN ?_ _ | refine blk_drew ?_ | refine blk_alloc ?_ _)); refine blk_put (cs := #[.int .i64 ((rd_T65 l0 x10_1).f0.f0), .int .i64 0, .string (⟨#[]⟩ : ByteArray), .int .i64 0, .int .i64 0, .string (⟨#[]⟩ : ByteArray), .bool false]) ?_ 1 _ rfl; (with_reducible repeat (first | refine blk_drewN ?_ _ | refine blk_drew ?_ | refine blk_alloc ?_ _)); refine blk_put (cs := #[.int .i64 0, .int .i64 0, .string (⟨#[]⟩ : ByteArray), .int .i64 0, .int .i64 0, .string (⟨#[]⟩ : ByteArray), .bool false]) ?_ 0 _ rfl; (with_reducible repeat (first | refine blk_drewN ?_ _ | refine blk_drew ?_ | refine blk_alloc ?_ _)); exact BK493.out) hb); have n1_ := aK (below_step (bS GE493.out) hb); clear BK493 HB; have BK493 := n0_; have HB := n1_; clear n0_ n1_; (try clear hb); obtain ⟨hcz19_0, hcz19_1, hcz19_2, hcz19_3, hcz19_4, hcz19_5, hcz19_6⟩ := z7 BK493.out (.int .i64 ((rd_T65 l0 x10_1).f0.f0)) (.int .i64 ((rd_T65 l0 x10_1).f0.f1)) (.string ((rd_T65 l0 x10_1).f0.f2)) (.int .i64 ((rd_T65 l0 x10_1).f1.f0)) (.int .i64 ((rd_T65 l0 x10_1).f1.f1)) (.string ((rd_T65 l0 x10_1).f1.f2)) (.bool true); obtain ⟨hfz19_0, hfz19_1, hfz19_2, hfz19_3, hfz19_4, hfz19_5, hfz19_6⟩ := f7 BK493.out))
     go_ret
     exact ⟨eW, bS GE493.out⟩
    rw [if_pos c10] at H
    have c10b0 : decide (x10_1 < (wrap64 ((l0.length : Int) - 1))) = true := decide_eq_true c10
    clear c10
    obtain rfl := Option.some.inj H
    have p492 : 0 ≤ (x10_1 : Int) := of_decide_eq_true (aA)
    have q492 : x10_1 < (l0.length : Int) := of_decide_eq_true (aA)
    obtain ⟨ad492, e492, hx492_0, hx492_1, hx492_2, hx492_3, hx492_4, hx492_5, hx492_6⟩ := at_T65 HR0.out x10_1 p492 q492
    (try rw [← Nbq8.out] at hx492_6)
    cases e492
    replace hx492_0 := hW HB.out hx492_0
    replace hx492_1 := hW HB.out hx492_1
    replace hx492_2 := hW HB.out hx492_2
    replace hx492_3 := hW HB.out hx492_3
    replace hx492_4 := hW HB.out hx492_4
    replace hx492_5 := hW HB.out hx492_5
    replace hx492_6 := hW HB.out hx492_6
    replace p492 := eq_true p492
    replace q492 := eq_true q492
    go_wp2_with (first | ((with_reducible refine gate_dst (N := 4) rfl ?_); refine box_event ?hg (N := 4) ?hd (cs := #[.int .i64 0, .int .i64 0, .string (⟨#[]⟩ : ByteArray), .int .i64 0, .int .i64 0, .string (⟨#[]⟩ : ByteArray), .bool false]) (t := 65) ?hr ?_; (case hd => rfl); (case hg => rfl); (case hr => exact hR); intro gb493 hg w11 hbox hb; have n0_ := aK (below_step bO hb); have n1_ := aK (hbox); have n2_ := aK ((by rw [hg]; exact (below_size bO) : w.heap.size ≤ gb493)); have n3_ := aK ((by rw [hg]; exact (below_size bO) : w.heap.size ≤ gb493)); clear HB; have HB := n0_; have BK493 := n1_; have GW493 := n2_; have GE493 := n3_; clear n0_ n1_ n2_ n3_ hb hbox hg; obtain ⟨hcz12_0, hcz12_1, hcz12_2, hcz12_3, hcz12_4, hcz12_5, hcz12_6⟩ := z7 BK493.out (.int .i64 0) (.int .i64 0) (.string (⟨#[]⟩ : ByteArray)) (.int .i64 0) (.int .i64 0) (.string (⟨#[]⟩ : ByteArray)) (.bool false); obtain ⟨hfz12_0, hfz12_1, hfz12_2, hfz12_3, hfz12_4, hfz12_5, hfz12_6⟩ := f7 BK493.out) | ((with_reducible refine gate_callee (f := 21) rfl ?_); refine gL (some 17) rfl Try.func21 #[.agg #[.int .i64 ((rd_T65 l0 x10_1).f0.f0), .int .i64 ((rd_T65 l0 x10_1).f0.f1), .string ((rd_T65 l0 x10_1).f0.f2)]] rfl ?_; (with_reducible refine (v_Valid.calls k1 ((rd_T65 l0 x10_1).f0.f0) ((rd_T65 l0 x10_1).f0.f1) ((rd_T65 l0 x10_1).f0.f2) true _ A6.out).mono ?_); rintro e w13 ⟨rfl, hb⟩; refine ⟨_, rfl, ?_⟩; have n0_ := aK (blk_below (g := gb493) (o := .cells #[.int .i64 ((rd_T65 l0 x10_1).f0.f0), .int .i64 ((rd_T65 l0 x10_1).f0.f1), .string ((rd_T65 l0 x10_1).f0.f2), .int .i64 ((rd_T65 l0 x10_1).f1.f0), .int .i64 ((rd_T65 l0 x10_1).f1.f1), .string ((rd_T65 l0 x10_1).f1.f2), .bool true] 65 (0, 0)) (by (with_reducible repeat (first | refine blk_drewN ?_ _ | refine blk_drew ?_ | refine blk_alloc ?_ _)); refine blk_put (cs := #[.int .i64 ((rd_T65 l0 x10_1).f0.f0), .int .i64 ((rd_T65 l0 x10_1).f0.f1), .string ((rd_T65 l0 x10_1).f0.f2), .int .i64 ((rd_T65 l0 x10_1).f1.f0), .int .i64 ((rd_T65 l0 x10_1).f1.f1), .string ((rd_T65 l0 x10_1).f1.f2), .bool false]) ?_ 6 _ rfl; (with_reducible repeat (first | refine blk_drewN ?_ _ | refine blk_drew ?_ | refine blk_alloc ?_ _)); refine blk_put (cs := #[.int .i64 ((rd_T65 l0 x10_1).f0.f0), .int .i64 ((rd_T65 l0 x10_1).f0.f1), .string ((rd_T65 l0 x10_1).f0.f2), .int .i64 ((rd_T65 l0 x10_1).f1.f0), .int .i64 ((rd_T65 l0 x10_1).f1.f1), .string (⟨#[]⟩ : ByteArray), .bool false]) ?_ 5 _ rfl; (with_reducible repeat (first | refine blk_drewN ?_ _ | refine blk_drew ?_ | refine blk_alloc ?_ _)); refine blk_put (cs := #[.int .i64 ((rd_T65 l0 x10_1).f0.f0), .int .i64 ((rd_T65 l0 x10_1).f0.f1), .string ((rd_T65 l0 x10_1).f0.f2), .int .i64 ((rd_T65 l0 x10_1).f1.f0), .int .i64 0, .string (⟨#[]⟩ : ByteArray), .bool false]) ?_ 4 _ rfl; (with_reducible repeat (first | refine blk_drewN ?_ _ | refine blk_drew ?_ | refine blk_alloc ?_ _)); refine blk_put (cs := #[.int .i64 ((rd_T65 l0 x10_1).f0.f0), .int .i64 ((rd_T65 l0 x10_1).f0.f1), .string ((rd_T65 l0 x10_1).f0.f2), .int .i64 0, .int .i64 0, .string (⟨#[]⟩ : ByteArray), .bool false]) ?_ 3 _ rfl; (with_reducible repeat (first | refine blk_drewN ?_ _ | refine blk_drew ?_ | refine blk_alloc ?_ _)); refine blk_put (cs := #[.int .i64 ((rd_T65 l0 x10_1).f0.f0), .int .i64 ((rd_T65 l0 x10_1).f0.f1), .string (⟨#[]⟩ : ByteArray), .int .i64 0, .int .i64 0, .string (⟨#[]⟩ : ByteArray), .bool false]) ?_ 2 _ rfl; (with_reducible repeat (first | refine blk_drewN ?_ _ | refine blk_drew ?_ | refine blk_alloc ?_ _)); refine blk_put (cs := #[.int .i64 ((rd_T65 l0 x10_1).f0.f0), .int .i64 0, .string (⟨#[]⟩ : ByteArray), .int .i64 0, .int .i64 0, .string (⟨#[]⟩ : ByteArray), .bool false]) ?_ 1 _ rfl; (with_reducible repeat (first | refine blk_drewN ?_ _ | refine blk_drew ?_ | refine blk_alloc ?_ _)); refine blk_put (cs := #[.int .i64 0, .int .i64 0, .string (⟨#[]⟩ : ByteArray), .int .i64 0, .int .i64 0, .string (⟨#[]⟩ : ByteArray), .bool false]) ?_ 0 _ rfl; (with_reducible repeat (first | refine blk_drewN ?_ _ | refine blk_drew ?_ | refine blk_alloc ?_ _)); exact BK493.out) hb); have n1_ := aK (below_step (bS GE493.out) hb); clear BK493 HB; have BK493 := n0_; have HB := n1_; clear n0_ n1_; (try clear hb); obtain ⟨hcz14_0, hcz14_1, hcz14_2, hcz14_3, hcz14_4, hcz14_5, hcz14_6⟩ := z7 BK493.out (.int .i64 ((rd_T65 l0 x10_1).f0.f0)) (.int .i64 ((rd_T65 l0 x10_1).f0.f1)) (.string ((rd_T65 l0 x10_1).f0.f2)) (.int .i64 ((rd_T65 l0 x10_1).f1.f0)) (.int .i64 ((rd_T65 l0 x10_1).f1.f1)) (.string ((rd_T65 l0 x10_1).f1.f2)) (.bool true); obtain ⟨hfz14_0, hfz14_1, hfz14_2, hfz14_3, hfz14_4, hfz14_5, hfz14_6⟩ := f7 BK493.out))
    go_ret
    exact ⟨eW, bS GE493.out⟩
 rw [if_pos c2] at H
 have c2b0 : decide (64 < (l0.length : Int)) = true := decide_eq_true c2
 have c2b1 : decide (64 < l0.length) = true := decide_eq_true (by omega)
 clear c2
 obtain rfl := Option.some.inj H
 go_enter Try.func37, Try.ntmps37
 go_wp2
 go_ret
 exact ⟨eW, bO⟩
end Go.Proofs.Ytpjcdacnhalclaa.Q
namespace Go.Proofs.Ytpjcdacnhalclaa.Q
open Go.RowKit Go.Proofs.YtpjcdacnhalclaaW.PrintWords Go.Proofs.YtpjcdacnhalclaaW.PrintLast Go.Proofs.YtpjcdacnhalclaaW.PrintMore
attribute [local go_sem] max2_int min2_int max_two min_two max_three min_three max_four min_four
def cells24 (l : List S24) : List Value := l.flatMap fun y => [.int .i64 y.f0, .int .i64 y.f1, .string y.f2]
theorem cells24_length (l : List S24) : (cells24 l).length = l.length * 3 := by
 unfold cells24
 rw [List.length_flatMap]
 simp [List.map_const', List.sum_replicate_nat]
theorem cells24_at : ∀ (l : List S24) (q : Nat) (hq : q < l.length), ((cells24 l).drop (q * 3)).take 3 = [Value.int .i64 (l[q]).f0, .int .i64 (l[q]).f1, .string (l[q]).f2]
 | [], _, hq => by simp at hq
 | a :: l, 0, _ => by simp [cells24]
 | a :: l, q + 1, hq => by
  have := cells24_at l q (by simpa using hq)
  simp only [cells24, List.flatMap_cons, List.getElem_cons_succ] at this ⊢
  rw [show (q + 1) * 3 = 3 + q * 3 from by omega, ← List.drop_drop]
  exact this
mutual
def v_CompareRows.l0 : Nat → List (S24) → List (S24) → Int → Option (Int)
 | 0, _, _, _ => none
 | k + 1, x0, x1, x5 => if x5 < (x0.length : Int) then (v_CompareRows.j1 k x0 x1 x5 (decide (x5 < (x1.length : Int)))) else (v_CompareRows.j1 k x0 x1 x5 false)
def v_CompareRows.j1 : Nat → List (S24) → List (S24) → Int → Bool → Option (Int)
 | 0, _, _, _, _ => none
 | k + 1, x0, x1, x5, x16 => if x16 = true then (if 0 ≤ x5 then (if x5 < (x0.length : Int) then (if x5 < (x1.length : Int) then ((v_Compare.f ((rd_T24 x0 x5).f0) ((rd_T24 x0 x5).f1) ((rd_T24 x0 x5).f2) ((rd_T24 x1 x5).f0) ((rd_T24 x1 x5).f1) ((rd_T24 x1 x5).f2)).bind fun t155 => (if t155 = 0 then (v_CompareRows.l0 k x0 x1 (wrap64 (x5 + 1))) else (some t155))) else (none)) else (none)) else (none)) else (if (x0.length : Int) < (x1.length : Int) then (some (-1)) else (if (x0.length : Int) > (x1.length : Int) then (some 1) else (some 0)))
end
def v_CompareRows.f (k : Nat) (l0 : List (S24)) (l1 : List (S24)) : Option (Int) := v_CompareRows.l0 k l0 l1 0
structure Hdr (w : World) where
 A : Option Addr
 c : Nat
 xs : List S24
 rd : Kd.C k24 w A xs.length xs
 le : xs.length ≤ c
def Hdr.enc {w : World} (h : Hdr w) : Value := .slice h.A h.xs.length h.c
instance (w : World) : Inhabited (Hdr w) := ⟨⟨none, 0, [], Kd.C_nil _ _, Nat.le_refl _⟩⟩
def kH (w : World) : Kd (Hdr w) := Kd.scalar Hdr.enc (fun _ => rfl)
theorem getElem?_one {α : Type} (v : α) (i : Nat) (u : α) (h : [v][i]? = some u) : i = 0 ∧ u = v := by
 cases i with
 | zero => simp at h; exact ⟨rfl, h.symm⟩
 | succ i => simp at h
theorem hdrs_of_C {w : World} {A : Option Addr} {n : Nat} {l : List (List S24)} (h : Kd.C (Kd.slice 24 k24) w A n l) : ∃ d : List (Hdr w), d.map Hdr.xs = l ∧ d.length = l.length ∧ Kd.C (kH w) w A n d := by
 obtain ⟨hl, hm, hr⟩ := h
 by_cases h0 : 0 < n
 ·obtain ⟨ad, rfl, hc⟩ := hr h0
  have hx : ∀ j : Nat, ∀ hj : j < l.length, ∃ x : Hdr w, x.xs = l[j] ∧ w.cell? (ad.add j) = some x.enc := by
   intro j hj
   obtain ⟨c, hcl, ⟨A1, c1, rfl, hle, hrd⟩, hcell⟩ := hc j l[j] (List.getElem?_eq_getElem hj)
   have := hcell 0 _ rfl
   have e : j * (Kd.slice 24 k24).sz + 0 = j := by show j * 1 + 0 = j; omega
   rw [e] at this
   exact ⟨⟨A1, c1, l[j], hrd, hle⟩, rfl, this⟩
  refine ⟨(List.finRange l.length).map (fun j => (hx j.1 j.2).choose), ?_, by simp, ?_, hm, fun _ => ⟨ad, rfl, ?_⟩⟩
  ·apply List.ext_getElem
   ·simp
   ·intro i h1 h2
    simp only [List.getElem_map, List.getElem_finRange]
    exact (hx i (by simpa using h2)).choose_spec.1
  ·simp [hl]
  ·intro j p hj
   obtain ⟨hj1, rfl⟩ := List.getElem?_eq_some_iff.1 hj
   refine ⟨[_], rfl, rfl, fun i u hu => ?_⟩
   obtain ⟨rfl, rfl⟩ := getElem?_one _ _ _ hu
   simp only [List.getElem_map, List.getElem_finRange]
   have := (hx j (by simpa using hj1)).choose_spec.2
   have e : j * (kH w).sz + 0 = j := by show j * 1 + 0 = j; omega
   rw [e]
   exact this
 ·have : l = [] := List.eq_nil_of_length_eq_zero (by omega)
  subst this
  exact ⟨[], rfl, rfl, by simpa using hl, hm, fun h => absurd h h0⟩
theorem hdr_cell {w W : World} {ad : Addr} {n : Nat} {d : List (Hdr w)} (h : Kd.C (kH w) W (some ad) n d) (j : Nat) (hj : j < d.length) : W.cell? (ad.add j) = some (d[j]).enc := by
 obtain ⟨hl, hm, hr⟩ := h
 obtain ⟨ad', he, hc⟩ := hr (by omega)
 injection he with he
 subst he
 obtain ⟨c, hcl, hk, hcell⟩ := hc j _ (List.getElem?_eq_getElem hj)
 cases hk
 have := hcell 0 _ rfl
 have e : j * (kH w).sz + 0 = j := by show j * 1 + 0 = j; omega
 rwa [e] at this
theorem BG.grow {w W : World} (h : BG w.heap.size w W) : ∃ q os, W = Go.Sort.grow (w.drewN q) os := by
 refine ⟨W.drawn - w.drawn, W.heap.extract w.heap.size W.heap.size, ?_⟩
 have hd := h.drawn
 have hh : W.heap = w.heap ++ W.heap.extract w.heap.size W.heap.size := by
  apply Array.ext_getElem?
  intro k
  rcases Nat.lt_or_ge k w.heap.size with hk | hk
  ·rw [Array.getElem?_append_left hk, h.block k hk]
  ·rw [Array.getElem?_append_right hk]
   rcases Nat.lt_or_ge k W.heap.size with hk2 | hk2
   ·rw [Array.getElem?_eq_getElem hk2, Array.getElem?_eq_getElem (by simp; omega)]
    simp only [Array.getElem_extract]
    congr 2
    omega
   ·rw [Array.getElem?_eq_none hk2, Array.getElem?_eq_none (by simp; omega)]
 have ho := h.os
 have ht := h.tape
 have hp := h.output
 obtain ⟨heap, tape, drawn, os, output⟩ := W
 obtain ⟨heap', tape', drawn', os', output'⟩ := w
 simp only at hd hh ho ht hp
 subst ho ht hp
 show _ = (⟨heap' ++ _, _, drawn' + _, _, _⟩ : World)
 congr 1
 show drawn = drawn' + (drawn - drawn')
 omega
def cmpV (x y : S24) : Int := (v_Compare.f x.f0 x.f1 x.f2 y.f0 y.f1 y.f2).getD 0
def cmpL : List S24 → List S24 → Int
 | [], [] => 0
 | [], _ :: _ => -1
 | _ :: _, [] => 1
 | x :: xs, y :: ys => if cmpV x y = 0 then cmpL xs ys else cmpV x y
theorem v_Compare.some_ (x y : S24) : v_Compare.f x.f0 x.f1 x.f2 y.f0 y.f1 y.f2 = some (cmpV x y) := by
 unfold cmpV
 unfold v_Compare.f
 repeat' split
 all_goals rfl
theorem wrap64_succ {i : Nat} (h : i < 9223372036854775807) : wrap64 ((i : Int) + 1) = ((i + 1 : Nat) : Int) := by unfold wrap64; omega
theorem rd_T24_nat (x : List S24) (i : Nat) (h : i < x.length) : rd_T24 x (i : Int) = x[i] := by
 unfold rd_T24
 rw [Int.toNat_natCast, List.getD_eq_getElem?_getD, List.getElem?_eq_getElem h]
 rfl
theorem v_CompareRows.at_ (x y : List S24) (hx : x.length ≤ 9223372036854775807) : ∀ (m i k : Nat), x.length - i = m → i ≤ x.length → i ≤ y.length → 2 * m + 2 ≤ k → v_CompareRows.l0 k x y i = some (cmpL (x.drop i) (y.drop i)) := by
 intro m
 induction m with
 | zero =>
  intro i k hm hi hj hk
  obtain ⟨k, rfl⟩ : ∃ j, k = j + 2 := ⟨k - 2, by omega⟩
  have hd : x.drop i = [] := List.drop_eq_nil_of_le (by omega)
  simp only [v_CompareRows.l0]
  rw [if_neg (by omega)]
  simp only [v_CompareRows.j1]
  rw [if_neg (by decide), hd]
  by_cases h1 : (x.length : Int) < y.length
  ·rw [if_pos h1, List.drop_eq_getElem_cons (by omega)]
   rfl
  ·rw [if_neg h1, if_neg (by omega), List.drop_eq_nil_of_le (by omega)]
   rfl
 | succ m ih =>
  intro i k hm hi hj hk
  obtain ⟨k, rfl⟩ : ∃ j, k = j + 2 := ⟨k - 2, by omega⟩
  have hlt : i < x.length := by omega
  simp only [v_CompareRows.l0]
  rw [if_pos (by omega)]
  simp only [v_CompareRows.j1]
  by_cases h1 : i < y.length
  ·rw [if_pos (by simpa using h1), if_pos (by omega), if_pos (by omega), if_pos (by omega), rd_T24_nat x i hlt, rd_T24_nat y i h1, v_Compare.some_, Option.bind_some, wrap64_succ (by omega), List.drop_eq_getElem_cons hlt, List.drop_eq_getElem_cons h1]
   by_cases hc : cmpV x[i] y[i] = 0
   ·rw [if_pos hc, ih (i + 1) k (by omega) (by omega) (by omega) (by omega)]
    show _ = some (if _ then _ else _)
    rw [if_pos hc]
   ·rw [if_neg hc]
    show _ = some (if _ then _ else _)
    rw [if_neg hc]
  ·rw [if_neg (by simpa using h1), if_neg (by omega), if_pos (by omega), List.drop_eq_getElem_cons hlt, show y.drop i = [] from List.drop_eq_nil_of_le (by omega)]
   rfl
theorem v_CompareRows.some_ (x y : List S24) (hx : x.length ≤ 9223372036854775807) (k : Nat) (hk : 2 * x.length + 2 ≤ k) : v_CompareRows.f k x y = some (cmpL x y) := by
 have := v_CompareRows.at_ x y hx x.length 0 k rfl (Nat.zero_le _) (Nat.zero_le _) hk
 exact this
def ltV (x y : S24) : Prop := x.f0 < y.f0 ∨ (x.f0 = y.f0 ∧ (x.f1 < y.f1 ∨ (x.f1 = y.f1 ∧ x.f2.toList < y.f2.toList)))
theorem S24.ext_ {x y : S24} (h0 : x.f0 = y.f0) (h1 : x.f1 = y.f1) (h2 : x.f2.toList = y.f2.toList) : x = y := by
 obtain ⟨a, b, c⟩ := x
 obtain ⟨a', b', c'⟩ := y
 simp only at h0 h1 h2
 subst h0 h1
 have : c = c' := by
  rw [Go.Lib.toList_data, Go.Lib.toList_data] at h2
  cases c
  cases c'
  congr 1
  exact Array.toList_inj.1 h2
 rw [this]
theorem ltV_irrefl (x : S24) : ¬ ltV x x := by
 rintro (h | ⟨_, h | ⟨_, h⟩⟩)
 ·omega
 ·omega
 ·exact List.lt_irrefl _ h
theorem ltV_trans {x y z : S24} (h : ltV x y) (k : ltV y z) : ltV x z := by
 rcases h with h | ⟨e, h | ⟨e', h⟩⟩
 ·rcases k with k | ⟨f, _⟩
  ·exact .inl (by omega)
  ·exact .inl (by omega)
 ·rcases k with k | ⟨f, k | ⟨f', k⟩⟩
  ·exact .inl (by omega)
  ·exact .inr ⟨by omega, .inl (by omega)⟩
  ·exact .inr ⟨by omega, .inl (by omega)⟩
 ·rcases k with k | ⟨f, k | ⟨f', k⟩⟩
  ·exact .inl (by omega)
  ·exact .inr ⟨by omega, .inl (by omega)⟩
  ·exact .inr ⟨by omega, .inr ⟨by omega, List.lt_trans h k⟩⟩
theorem ltV_asymm {x y : S24} (h : ltV x y) (k : ltV y x) : False := ltV_irrefl _ (ltV_trans h k)
theorem ltV_tri (x y : S24) : ltV x y ∨ x = y ∨ ltV y x := by
 by_cases a : x.f0 < y.f0
 ·exact .inl (.inl a)
 by_cases b : y.f0 < x.f0
 ·exact .inr (.inr (.inl b))
 have e : x.f0 = y.f0 := by omega
 by_cases c : x.f1 < y.f1
 ·exact .inl (.inr ⟨e, .inl c⟩)
 by_cases d : y.f1 < x.f1
 ·exact .inr (.inr (.inr ⟨e.symm, .inl d⟩))
 have f : x.f1 = y.f1 := by omega
 by_cases g : x.f2.toList < y.f2.toList
 ·exact .inl (.inr ⟨e, .inr ⟨f, g⟩⟩)
 by_cases i : y.f2.toList < x.f2.toList
 ·exact .inr (.inr (.inr ⟨e.symm, .inr ⟨f.symm, i⟩⟩))
 ·exact .inr (.inl (S24.ext_ e f (List.le_antisymm (List.not_lt.1 i) (List.not_lt.1 g))))
theorem v_Compare.lt_ {x y : S24} (h : ltV x y) : cmpV x y = -1 := by
 have hne : (x.f0 == y.f0 && (x.f1 == y.f1 && (x.f2.toList == y.f2.toList))) = false := by
  rw [Bool.eq_false_iff]
  intro hh
  simp only [Bool.and_eq_true, beq_iff_eq] at hh
  exact ltV_irrefl x (by have := S24.ext_ hh.1 hh.2.1 hh.2.2; rwa [← this] at h)
 unfold cmpV v_Compare.f
 rw [if_neg (by rw [hne]; decide)]
 rcases h with h | ⟨e, h | ⟨e', h⟩⟩
 ·rw [if_neg (by omega), if_pos h]; rfl
 ·rw [if_pos e, if_neg (by omega), if_pos h]; rfl
 ·rw [if_pos e, if_pos e', if_pos (by rw [bytesLess_eq]; exact decide_eq_true h)]; rfl
theorem v_Compare.gt_ {x y : S24} (h : ltV y x) : cmpV x y = 1 := by
 have hne : (x.f0 == y.f0 && (x.f1 == y.f1 && (x.f2.toList == y.f2.toList))) = false := by
  rw [Bool.eq_false_iff]
  intro hh
  simp only [Bool.and_eq_true, beq_iff_eq] at hh
  exact ltV_irrefl x (by have := S24.ext_ hh.1 hh.2.1 hh.2.2; rwa [← this] at h)
 unfold cmpV v_Compare.f
 rw [if_neg (by rw [hne]; decide)]
 rcases h with h | ⟨e, h | ⟨e', h⟩⟩
 ·rw [if_neg (by omega), if_neg (by omega)]; rfl
 ·rw [if_pos e.symm, if_neg (by omega), if_neg (by omega)]; rfl
 ·rw [if_pos e.symm, if_pos e'.symm, if_neg (by rw [bytesLess_eq]; exact fun k => List.lt_asymm h (of_decide_eq_true k))]; rfl
theorem v_Compare.eq_ (x : S24) : cmpV x x = 0 := by
 unfold cmpV v_Compare.f
 rw [if_pos (by simp)]; rfl
theorem cmpV_cases (x y : S24) : (ltV x y ∧ cmpV x y = -1) ∨ (x = y ∧ cmpV x y = 0) ∨ (ltV y x ∧ cmpV x y = 1) := by
 rcases ltV_tri x y with h | rfl | h
 ·exact .inl ⟨h, v_Compare.lt_ h⟩
 ·exact .inr (.inl ⟨rfl, v_Compare.eq_ x⟩)
 ·exact .inr (.inr ⟨h, v_Compare.gt_ h⟩)
theorem cmpV_zero {x y : S24} : cmpV x y = 0 ↔ x = y := by
 constructor
 ·intro h
  rcases cmpV_cases x y with ⟨_, k⟩ | ⟨k, _⟩ | ⟨_, k⟩
  ·omega
  ·exact k
  ·omega
 ·rintro rfl; exact v_Compare.eq_ x
theorem cmpV_lt {x y : S24} : cmpV x y < 0 ↔ ltV x y := by
 constructor
 ·intro h
  rcases cmpV_cases x y with ⟨k, _⟩ | ⟨_, k⟩ | ⟨_, k⟩
  ·exact k
  ·omega
  ·omega
 ·intro h; rw [v_Compare.lt_ h]; decide
theorem cmpV_neg (x y : S24) : cmpV x y = - cmpV y x := by
 rcases cmpV_cases x y with ⟨h, k⟩ | ⟨rfl, k⟩ | ⟨h, k⟩
 ·rw [k, v_Compare.gt_ h]
 ·rw [k]; rfl
 ·rw [k, v_Compare.lt_ h]; rfl
theorem cmpV_le_trans {x y z : S24} (h : cmpV x y ≤ 0) (k : cmpV y z ≤ 0) : cmpV x z ≤ 0 := by
 rcases cmpV_cases x y with ⟨a, _⟩ | ⟨rfl, _⟩ | ⟨_, a⟩
 ·rcases cmpV_cases y z with ⟨b, _⟩ | ⟨rfl, _⟩ | ⟨_, b⟩
  ·rw [v_Compare.lt_ (ltV_trans a b)]; decide
  ·exact h
  ·omega
 ·exact k
 ·omega
theorem cmpL_cases : ∀ x y : List S24, cmpL x y = -1 ∨ (cmpL x y = 0 ∧ x = y) ∨ cmpL x y = 1
 | [], [] => .inr (.inl ⟨rfl, rfl⟩)
 | [], _ :: _ => .inl rfl
 | _ :: _, [] => .inr (.inr rfl)
 | x :: xs, y :: ys => by
  simp only [cmpL]
  rcases cmpV_cases x y with ⟨_, k⟩ | ⟨rfl, k⟩ | ⟨_, k⟩
  ·rw [if_neg (by omega)]; exact .inl k
  ·rw [if_pos k]
   rcases cmpL_cases xs ys with h | ⟨h, rfl⟩ | h
   ·exact .inl h
   ·exact .inr (.inl ⟨h, rfl⟩)
   ·exact .inr (.inr h)
  ·rw [if_neg (by omega)]; exact .inr (.inr k)
theorem cmpL_self : ∀ x : List S24, cmpL x x = 0
 | [] => rfl
 | x :: xs => by simp only [cmpL]; rw [if_pos (v_Compare.eq_ x), cmpL_self xs]
theorem cmpL_zero {x y : List S24} : cmpL x y = 0 ↔ x = y := by
 constructor
 ·intro h
  rcases cmpL_cases x y with k | ⟨_, k⟩ | k
  ·omega
  ·exact k
  ·omega
 ·rintro rfl; exact cmpL_self x
theorem cmpL_neg : ∀ x y : List S24, cmpL x y = - cmpL y x
 | [], [] => rfl
 | [], _ :: _ => rfl
 | _ :: _, [] => rfl
 | x :: xs, y :: ys => by
  simp only [cmpL]
  have h := cmpV_neg x y
  by_cases k : cmpV x y = 0
  ·rw [if_pos k, if_pos (by omega), cmpL_neg xs ys]
  ·rw [if_neg k, if_neg (by omega), h]
theorem cmpL_le_trans : ∀ {x y z : List S24}, cmpL x y ≤ 0 → cmpL y z ≤ 0 → cmpL x z ≤ 0
 | [], _, [], _, _ => by decide
 | [], _, _ :: _, _, _ => by show (-1 : Int) ≤ 0; decide
 | _ :: _, [], _, h, _ => by exact absurd h (by show ¬ (1 : Int) ≤ 0; decide)
 | _ :: _, _ :: _, [], _, k => by exact absurd k (by show ¬ (1 : Int) ≤ 0; decide)
 | x :: xs, y :: ys, z :: zs, h, k => by
  simp only [cmpL] at h k ⊢
  rcases cmpV_cases x y with ⟨a, ka⟩ | ⟨rfl, ka⟩ | ⟨_, ka⟩
  ·rcases cmpV_cases y z with ⟨b, kb⟩ | ⟨rfl, kb⟩ | ⟨_, kb⟩
   ·rw [if_neg (by rw [v_Compare.lt_ (ltV_trans a b)]; decide), v_Compare.lt_ (ltV_trans a b)]; decide
   ·rw [if_neg (by omega)]; omega
   ·rw [if_neg (by omega)] at k; omega
  ·rw [if_pos ka] at h
   by_cases c : cmpV x z = 0
   ·rw [if_pos c] at k ⊢
    exact cmpL_le_trans h k
   ·rw [if_neg c] at k ⊢
    exact k
  ·rw [if_neg (by omega)] at h; omega
def leL (x y : List S24) : Bool := decide (cmpL x y ≤ 0)
theorem leL_trans (x y z : List S24) (h : leL x y = true) (k : leL y z = true) : leL x z = true := decide_eq_true (cmpL_le_trans (of_decide_eq_true h) (of_decide_eq_true k))
theorem leL_total (x y : List S24) : (leL x y || leL y x) = true := by
 unfold leL
 have := cmpL_neg x y
 rw [Bool.or_eq_true, decide_eq_true_iff, decide_eq_true_iff]
 omega
theorem leL_antisymm {x y : List S24} (h : leL x y = true) (k : leL y x = true) : x = y := by
 unfold leL at h k
 have := cmpL_neg x y
 have h := of_decide_eq_true h
 have k := of_decide_eq_true k
 exact cmpL_zero.1 (by omega)
def ded : Option (List S24) → List (List S24) → List (List S24)
 | _, [] => []
 | none, x :: xs => x :: ded (some x) xs
 | some p, x :: xs => if cmpL p x = 0 then ded (some x) xs else x :: ded (some x) xs
def setOf (l : List (List S24)) : List (List S24) := ded none (l.mergeSort leL)
def lastOf : Option (List S24) → List (List S24) → Option (List S24)
 | o, [] => o
 | _, x :: xs => lastOf (some x) xs
theorem ded_snoc (x : List S24) : ∀ (l : List (List S24)) (o : Option (List S24)), ded o (l ++ [x]) = ded o l ++ (match lastOf o l with | none => [x] | some p => if cmpL p x = 0 then [] else [x])
 | [], none => rfl
 | [], some p => by simp only [List.nil_append, ded, lastOf]
 | y :: ys, none => by simp only [List.cons_append, ded, lastOf, ded_snoc x ys]
 | y :: ys, some p => by
  simp only [List.cons_append, ded, lastOf, ded_snoc x ys]
  split
  ·rfl
  ·rfl
theorem lastOf_snoc (x : List S24) : ∀ (l : List (List S24)) (o : Option (List S24)), lastOf o (l ++ [x]) = some x
 | [], _ => rfl
 | _ :: ys, _ => lastOf_snoc x ys _
theorem sorted_is {l l' : List (List S24)} (hp : l'.Perm l) (hs : l'.Pairwise (fun a b => leL a b = true)) : l' = l.mergeSort leL :=
 (hp.trans (List.mergeSort_perm l leL).symm).eq_of_pairwise (fun _ _ _ _ h k => leL_antisymm h k) hs (List.pairwise_mergeSort leL_trans leL_total l)
def sortVals_ren : Go.Shelf.Ren := ⟨fun | 6 => 99 | 15 => 102 | 14 => 104 | 28 => 113 | 29 => 114 | 20 => 115 | 21 => 116 | 22 => 117 | 23 => 118 | 24 => 119 | 25 => 120 | 26 => 121 | 27 => 122 | 46 => 128 | 47 => 124 | 48 => 125 | 49 => 129 | 50 => 130 | 57 => 132 | n => n, fun | 22 => 31 | 24 => 24 | 25 => 32 | 3 => 3 | 39 => 97 | 0 => 0 | 53 => 108 | 55 => 110 | 4 => 4 | 46 => 101 | 45 => 100 | 50 => 105 | 5 => 5 | 9 => 9 | 66 => 116 | 70 => 120 | 76 => 124 | 77 => 125 | n => n, fun | n => n⟩
theorem sortVals : Go.Proofs.SlLaysF0.n6 Try.prog sortVals_ren := {
 mixed := by kernel_rfl
 f6 := ⟨Try.f99.name, by decide, Try.func99.trans (congrArg some (by kernel_rfl))⟩
 f14 := ⟨Try.f104.name, by decide, Try.func104.trans (congrArg some (by kernel_rfl))⟩
 f15 := Try.func102.trans (congrArg some (by kernel_rfl))
 f20 := ⟨Try.f115.name, by decide, Try.func115.trans (congrArg some (by kernel_rfl))⟩
 f21 := ⟨Try.f116.name, by decide, Try.func116.trans (congrArg some (by kernel_rfl))⟩
 f22 := ⟨Try.f117.name, by decide, Try.func117.trans (congrArg some (by kernel_rfl))⟩
 f23 := ⟨Try.f118.name, by decide, Try.func118.trans (congrArg some (by kernel_rfl))⟩
 f24 := ⟨Try.f119.name, by decide, Try.func119.trans (congrArg some (by kernel_rfl))⟩
 f25 := ⟨Try.f120.name, by decide, Try.func120.trans (congrArg some (by kernel_rfl))⟩
 f26 := ⟨Try.f121.name, by decide, Try.func121.trans (congrArg some (by kernel_rfl))⟩
 f27 := ⟨Try.f122.name, by decide, Try.func122.trans (congrArg some (by kernel_rfl))⟩
 f28 := Try.func113.trans (congrArg some (by kernel_rfl))
 f29 := Try.func114.trans (congrArg some (by kernel_rfl))
 f46 := ⟨Try.f128.name, by decide, Try.func128.trans (congrArg some (by kernel_rfl))⟩
 f47 := Try.func124.trans (congrArg some (by kernel_rfl))
 f48 := Try.func125.trans (congrArg some (by kernel_rfl))
 f49 := ⟨Try.f129.name, by decide, Try.func129.trans (congrArg some (by kernel_rfl))⟩
 f50 := ⟨Try.f130.name, by decide, Try.func130.trans (congrArg some (by kernel_rfl))⟩
 f57 := ⟨Try.f132.name, by decide, Try.func132.trans (congrArg some (by kernel_rfl))⟩
 t0 := Try.underlying0
 a0 := Try.isAgg0
 z0 := Try.sizeOf0
 v0 := Try.zeroValue0
 t3 := Try.underlying3
 a3 := Try.isAgg3
 z3 := Try.sizeOf3
 v3 := Try.zeroValue3
 t4 := Try.underlying4
 a4 := Try.isAgg4
 z4 := Try.sizeOf4
 v4 := Try.zeroValue4
 t5 := Try.underlying5
 a5 := Try.isAgg5
 z5 := Try.sizeOf5
 v5 := Try.zeroValue5
 t9 := Try.underlying9
 a9 := Try.isAgg9
 z9 := Try.sizeOf9
 v9 := Try.zeroValue9
 t22 := Try.underlying31
 a22 := Try.isAgg31
 z22 := Try.sizeOf31
 v22 := Try.zeroValue31
 t25 := Try.underlying32
 a25 := Try.isAgg32
 z25 := Try.sizeOf32
 v25 := Try.zeroValue32
 t39 := Try.underlying97
 a39 := Try.isAgg97
 z39 := Try.sizeOf97
 v39 := Try.zeroValue97
 t45 := Try.underlying100
 a45 := Try.isAgg100
 z45 := Try.sizeOf100
 v45 := Try.zeroValue100
 t46 := Try.underlying101
 a46 := Try.isAgg101
 z46 := Try.sizeOf101
 v46 := Try.zeroValue101
 t50 := Try.underlying105
 a50 := Try.isAgg105
 z50 := Try.sizeOf105
 v50 := Try.zeroValue105
 t53 := Try.underlying108
 a53 := Try.isAgg108
 z53 := Try.sizeOf108
 v53 := Try.zeroValue108
 t55 := Try.underlying110
 a55 := Try.isAgg110
 z55 := Try.sizeOf110
 v55 := Try.zeroValue110
 t66 := Try.underlying116
 a66 := Try.isAgg116
 z66 := Try.sizeOf116
 v66 := Try.zeroValue116
 t70 := Try.underlying120
 a70 := Try.isAgg120
 z70 := Try.sizeOf120
 v70 := Try.zeroValue120
 t76 := Try.underlying124
 a76 := Try.isAgg124
 z76 := Try.sizeOf124
 v76 := Try.zeroValue124
 t77 := Try.underlying125
 a77 := Try.isAgg125
 z77 := Try.sizeOf125
 v77 := Try.zeroValue125 }
end Go.Proofs.Ytpjcdacnhalclaa.Q
