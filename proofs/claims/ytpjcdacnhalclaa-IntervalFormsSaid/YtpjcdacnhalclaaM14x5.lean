/- A part of a proof: facts of functions that the law calls; conditions stand in each. -/
import Derived.Test.YtpjcdacnhalclaaM14x3
import Derived.Test.YtpjcdacnhalclaaM14x4
import Derived.WalkKit
import Derived.ProofKit
import Derived.OpenShut
import Derived.ShutString
import Derived.ChangeOld
import Derived.Below
import Derived.SizedLaws
import Derived.Lib.SmallJoins
import Derived.Carry
set_option linter.unusedVariables false
set_option linter.unusedSimpArgs false
namespace Go.Proofs.Ytpjcdacnhalclaa.Q
open Go.RowKit Go.Proofs.YtpjcdacnhalclaaW.PrintWords Go.Proofs.YtpjcdacnhalclaaW.PrintLast Go.Proofs.YtpjcdacnhalclaaW.PrintMore
attribute [local go_sem] max2_int min2_int max_two min_two max_three min_three max_four min_four
theorem wf_byte {n : Int} (h : (Lit.int .u8 n).wf = true) : 0 ≤ n ∧ n ≤ 255 := by
 simp [Lit.wf, IntKind.min, IntKind.max, IntKind.bits, IntKind.signed] at h
 omega
theorem wf_int {n : Int} (h : (Lit.int .i64 n).wf = true) : -9223372036854775808 ≤ n ∧ n ≤ 9223372036854775807 := by
 simp [Lit.wf, IntKind.min, IntKind.max, IntKind.bits, IntKind.signed] at h
 omega
theorem own : ownKnob Try.prog.godebug = none := by kernel_rfl
theorem laidOut : laidOutB Try.prog = true := by kernel_rfl
def IsRow (k : IntKind) (w : World) (a : Option Addr) (len cap : Nat) (zs : List Int) : Prop :=
 (a = none ∧ len = 0 ∧ cap = 0 ∧ zs = []) ∨
 ∃ x, a = some x ∧ len ≤ cap ∧ cap ≤ maxLen ∧ zs.length = cap ∧ (∀ i, i < zs.length → w.cell? (x.add i) = some (.int k (zs.getD i 0))) ∧ ∀ n ∈ zs, (Lit.int k n).wf = true
theorem eqA24 (d : Nat) (w : World) (x0 y0 : Int) (x1 y1 : Int) (x2 y2 : ByteArray) :
  (Op.equalIn (d + 2) 24 (.agg #[.int .i64 x0, .int .i64 x1, .string x2]) (.agg #[.int .i64 y0, .int .i64 y1, .string y2])).run Try.prog w = .ok (x0 == y0 && (x1 == y1 && (x2.toList == y2.toList))) w := by
 refine eqA_of Try.underlying24 (by kernel_rfl) ?_
 refine eqf_cons (by rfl) (by go_simp; rfl) (by go_simp; rfl) (by go_simp) ?_
 refine eqf_cons (by rfl) (by go_simp; rfl) (by go_simp; rfl) (by go_simp) ?_
 exact eqf_last (by rfl) (by go_simp; rfl) (by go_simp; rfl) (by go_simp)
end Go.Proofs.Ytpjcdacnhalclaa.Q
namespace Go.Proofs.Ytpjcdacnhalclaa.Q
open Go.RowKit Go.Proofs.YtpjcdacnhalclaaW.PrintWords Go.Proofs.YtpjcdacnhalclaaW.PrintLast Go.Proofs.YtpjcdacnhalclaaW.PrintMore
attribute [local go_sem] max2_int min2_int max_two min_two max_three min_three max_four min_four
attribute [local go_sem high] eqA24
def v_Valid.j0 : Nat → Int → Bool → Int → Int → ByteArray → Option (Bool)
 | 0, _, _, _, _, _ => none
 | k + 1, x4, x5, x123000, x123001, x123002 => if x5 = true then (some (x123001 == 0 && (x123002.toList == ([] : List UInt8)))) else (if x4 = 3 then (if x123001 = 0 then (some (x123002.toList == ([] : List UInt8))) else (if x123001 = 1 then (some (x123002.toList == ([] : List UInt8))) else (some false))) else (if x4 = 4 then (some (x123002.toList == ([] : List UInt8))) else (if x4 = 5 then (if x123001 = 0 then (some (decide ((x123002.size : Int) ≤ 64))) else (some false)) else (some false))))
def v_Valid.f (k : Nat) (a0_0 : Int) (a0_1 : Int) (a0_2 : ByteArray) : Option (Bool) := if a0_0 = 1 then (v_Valid.j0 k a0_0 (a0_0 == 1) a0_0 a0_1 a0_2) else (v_Valid.j0 k a0_0 (a0_0 == 2) a0_0 a0_1 a0_2)
theorem v_Valid.mono_l : ∀ k, (∀ y0 y1 y2 y3 y4, LeO (v_Valid.j0 k y0 y1 y2 y3 y4) (v_Valid.j0 (k + 1) y0 y1 y2 y3 y4))
 | 0 => fun _ _ _ _ _ r h => by simp [v_Valid.j0] at h
 | k + 1 => by
  have ih0 := v_Valid.mono_l k
  ·intro y0 y1 y2 y3 y4
   unfold v_Valid.j0
   repeat' first
   | (with_reducible exact ih0 _ _ _ _ _)
   | (with_reducible exact LeO.refl _)
   | (with_reducible exact LeO.none _)
   | (with_reducible refine LeO.ite ?_ ?_)
   | (with_reducible refine LeO.bind ?_ (fun _ => ?_))
   | exact ih0 _ _ _ _ _
   | exact LeO.none _
   | refine LeO.ite ?_ ?_
   | refine LeO.bind ?_ (fun _ => ?_)
theorem v_Valid.mono : ∀ a0 a1 a2 k, LeO (v_Valid.f k a0 a1 a2) (v_Valid.f (k + 1) a0 a1 a2) := by
 intro a0 a1 a2 k
 have ih0 := v_Valid.mono_l k
 unfold v_Valid.f
 repeat' first
   | (with_reducible exact ih0 _ _ _ _ _)
   | (with_reducible exact LeO.refl _)
   | (with_reducible exact LeO.none _)
   | (with_reducible refine LeO.ite ?_ ?_)
   | (with_reducible refine LeO.bind ?_ (fun _ => ?_))
   | exact ih0 _ _ _ _ _
   | exact LeO.none _
   | refine LeO.ite ?_ ?_
   | refine LeO.bind ?_ (fun _ => ?_)
set_option maxHeartbeats 8000000 in
set_option maxRecDepth 100000 in
theorem v_Valid.calls (k : Nat) (a0_0 : Int) (a0_1 : Int) (a0_2 : ByteArray) (r : Bool) (w : World) (h : v_Valid.f k a0_0 a0_1 a0_2 = some r) :
  Calls Try.prog 21 #[.agg #[.int .i64 a0_0, .int .i64 a0_1, .string a0_2]] w fun e w' => e = .returned (.bool r) ∧ Below w.heap.size w w' := by
 have hu24 := Try.underlying24
 have HB := aK (Below.refl w.heap.size w)
 have H : (if a0_0 = 1 then (v_Valid.j0 k a0_0 (a0_0 == 1) a0_0 a0_1 a0_2) else (v_Valid.j0 k a0_0 (a0_0 == 2) a0_0 a0_1 a0_2)) = some r := h
 clear h
 have HC2 := Aside0.mk H
 clear H
 go_enter Try.func21, Try.ntmps21
 go_upto_if 5 with (first | ((with_reducible refine gate_dst (N := 1) rfl ?_); (try (refine gate_guard (by rfl) ?_; dsimp only)); refine box_event ?hg (N := 1) ?hd (cs := #[.int .i64 a0_0, .int .i64 a0_1, .string a0_2]) (t := 24) ?hr ?_; (case hd => rfl); (case hg => rfl); (case hr => exact hR); intro gb122 hg w3 hbox hb; have n0_ := aK (below_step bO hb); have n1_ := aK (hbox); have n2_ := aK ((by rw [hg]; exact (below_size bO) : w.heap.size ≤ gb122)); have n3_ := aK ((by rw [hg]; exact (below_size bO) : w.heap.size ≤ gb122)); clear HB; have HB := n0_; have BK122 := n1_; have GW122 := n2_; have GE122 := n3_; clear n0_ n1_ n2_ n3_ hb hbox hg; obtain ⟨hcz4_0, hcz4_1, hcz4_2⟩ := z3 BK122.out (.int .i64 a0_0) (.int .i64 a0_1) (.string a0_2); obtain ⟨hfz4_0, hfz4_1, hfz4_2⟩ := f3 BK122.out))
 (try simp only [Act.put, List.setIfInBounds_toArray, List.set_cons_zero, List.set_cons_succ])
 go_cut [5] (fun v5 wc => ∃ (kq : Nat) (x5_1 : Bool), v5 = .bool x5_1 ∧ Aside0 (v_Valid.j0 kq a0_0 x5_1 a0_0 a0_1 a0_2 = some r) ∧ Aside0 (kq ≤ k) ∧ Aside0 (wc.heap[gb122]? = some (.cells #[.int .i64 a0_0, .int .i64 a0_1, .string a0_2] 24 (0, 0))) ∧ Aside0 (Below w.heap.size w wc))
 case first =>
  have H := HC2.out
  clear HC2
  by_cases c5 : a0_0 = 1
  rotate_left
  ·rw [if_neg c5] at H
   have c5b0 : (a0_0 == 1) = false := beq_eq_false_iff_ne.mpr c5
   have c5b1 : (a0_0 != 1) = true := bne_iff_ne.mpr c5
   (first | rw [c5b0] | (simp only [i64_w, i32_w]; rw [c5b0]) | skip)
   have H' := Aside0.mk H
   clear H
   go_wp2
   go_meet
   case rel => exact ⟨_, ((a0_0 == 2)), (by first | rfl | (simp; done) | (simp [*]; done)), H', ⟨by first | omega | exact Nat.le_refl _⟩, ⟨bX BK122.out⟩, ⟨bS GE122.out⟩⟩
  rw [if_pos c5] at H
  have c5b0 : (a0_0 == 1) = true := beq_iff_eq.mpr c5
  have c5b1 : (a0_0 != 1) = false := bne_eq_false_iff_eq.mpr c5
  clear c5
  (first | rw [c5b0] | (simp only [i64_w, i32_w]; rw [c5b0]) | skip)
  have H' := Aside0.mk H
  clear H
  go_wp2
  go_meet
  case rel => exact ⟨_, ((a0_0 == 1)), (by first | rfl | (simp; done) | (simp [*]; done)), H', ⟨by first | omega | exact Nat.le_refl _⟩, ⟨bX BK122.out⟩, ⟨bS GE122.out⟩⟩
 case rest =>
  clear HC2
  try clear c2
  try clear p2
  try clear c5
  try clear c5b0
  try clear c5b1
  try clear hcz4_0 hcz4_1 hcz4_2
  try clear hfz4_0 hfz4_1 hfz4_2
  obtain ⟨kq, x5_1, rfl, HA, HJ1, BK122, HB⟩ := hcut
  cases kq with
  | zero => exact absurd HA.out (by simp [v_Valid.j0])
  | succ kj1 =>
   have H := HA.out
   clear HA
   simp only [v_Valid.j0] at H
   by_cases c6 : x5_1 = true
   rotate_left
   ·replace c6 := Bool.eq_false_iff.mpr c6
    subst c6
    rw [if_neg (show ¬ (false = true) by decide)] at H
    by_cases c8 : a0_0 = 3
    rotate_left
    ·rw [if_neg c8] at H
     have c8b0 : (a0_0 == 3) = false := beq_eq_false_iff_ne.mpr c8
     have c8b1 : (a0_0 != 3) = true := bne_iff_ne.mpr c8
     by_cases c14 : a0_0 = 4
     rotate_left
     ·rw [if_neg c14] at H
      have c14b0 : (a0_0 == 4) = false := beq_eq_false_iff_ne.mpr c14
      have c14b1 : (a0_0 != 4) = true := bne_iff_ne.mpr c14
      by_cases c16 : a0_0 = 5
      rotate_left
      ·rw [if_neg c16] at H
       have c16b0 : (a0_0 == 5) = false := beq_eq_false_iff_ne.mpr c16
       have c16b1 : (a0_0 != 5) = true := bne_iff_ne.mpr c16
       obtain rfl := Option.some.inj H
       go_wp2
       go_ret
       exact ⟨eW, bS GE122.out⟩
      rw [if_pos c16] at H
      have c16b0 : (a0_0 == 5) = true := beq_iff_eq.mpr c16
      have c16b1 : (a0_0 != 5) = false := bne_eq_false_iff_eq.mpr c16
      clear c16
      by_cases c17 : a0_1 = 0
      rotate_left
      ·rw [if_neg c17] at H
       have c17b0 : (a0_1 == 0) = false := beq_eq_false_iff_ne.mpr c17
       have c17b1 : (a0_1 != 0) = true := bne_iff_ne.mpr c17
       obtain rfl := Option.some.inj H
       obtain ⟨hcz19_0, hcz19_1, hcz19_2⟩ := z3 BK122.out (.int .i64 a0_0) (.int .i64 a0_1) (.string a0_2)
       obtain ⟨hfz19_0, hfz19_1, hfz19_2⟩ := f3 BK122.out
       go_wp2
       go_ret
       exact ⟨eW, bS GE122.out⟩
      rw [if_pos c17] at H
      have c17b0 : (a0_1 == 0) = true := beq_iff_eq.mpr c17
      have c17b1 : (a0_1 != 0) = false := bne_eq_false_iff_eq.mpr c17
      clear c17
      obtain rfl := Option.some.inj H
      obtain ⟨hcz18_0, hcz18_1, hcz18_2⟩ := z3 BK122.out (.int .i64 a0_0) (.int .i64 a0_1) (.string a0_2)
      obtain ⟨hfz18_0, hfz18_1, hfz18_2⟩ := f3 BK122.out
      go_wp2
      go_ret
      exact ⟨eW, bS GE122.out⟩
     rw [if_pos c14] at H
     have c14b0 : (a0_0 == 4) = true := beq_iff_eq.mpr c14
     have c14b1 : (a0_0 != 4) = false := bne_eq_false_iff_eq.mpr c14
     clear c14
     obtain rfl := Option.some.inj H
     obtain ⟨hcz15_0, hcz15_1, hcz15_2⟩ := z3 BK122.out (.int .i64 a0_0) (.int .i64 a0_1) (.string a0_2)
     obtain ⟨hfz15_0, hfz15_1, hfz15_2⟩ := f3 BK122.out
     go_wp2
     go_ret
     exact ⟨eW, bS GE122.out⟩
    rw [if_pos c8] at H
    have c8b0 : (a0_0 == 3) = true := beq_iff_eq.mpr c8
    have c8b1 : (a0_0 != 3) = false := bne_eq_false_iff_eq.mpr c8
    clear c8
    by_cases c9 : a0_1 = 0
    rotate_left
    ·rw [if_neg c9] at H
     have c9b0 : (a0_1 == 0) = false := beq_eq_false_iff_ne.mpr c9
     have c9b1 : (a0_1 != 0) = true := bne_iff_ne.mpr c9
     by_cases c11 : a0_1 = 1
     rotate_left
     ·rw [if_neg c11] at H
      have c11b0 : (a0_1 == 1) = false := beq_eq_false_iff_ne.mpr c11
      have c11b1 : (a0_1 != 1) = true := bne_iff_ne.mpr c11
      obtain rfl := Option.some.inj H
      obtain ⟨hcz13_0, hcz13_1, hcz13_2⟩ := z3 BK122.out (.int .i64 a0_0) (.int .i64 a0_1) (.string a0_2)
      obtain ⟨hfz13_0, hfz13_1, hfz13_2⟩ := f3 BK122.out
      go_wp2
      go_ret
      exact ⟨eW, bS GE122.out⟩
     rw [if_pos c11] at H
     have c11b0 : (a0_1 == 1) = true := beq_iff_eq.mpr c11
     have c11b1 : (a0_1 != 1) = false := bne_eq_false_iff_eq.mpr c11
     clear c11
     obtain rfl := Option.some.inj H
     obtain ⟨hcz12_0, hcz12_1, hcz12_2⟩ := z3 BK122.out (.int .i64 a0_0) (.int .i64 a0_1) (.string a0_2)
     obtain ⟨hfz12_0, hfz12_1, hfz12_2⟩ := f3 BK122.out
     go_wp2
     go_ret
     exact ⟨eW, bS GE122.out⟩
    rw [if_pos c9] at H
    have c9b0 : (a0_1 == 0) = true := beq_iff_eq.mpr c9
    have c9b1 : (a0_1 != 0) = false := bne_eq_false_iff_eq.mpr c9
    clear c9
    obtain rfl := Option.some.inj H
    obtain ⟨hcz10_0, hcz10_1, hcz10_2⟩ := z3 BK122.out (.int .i64 a0_0) (.int .i64 a0_1) (.string a0_2)
    obtain ⟨hfz10_0, hfz10_1, hfz10_2⟩ := f3 BK122.out
    go_wp2
    go_ret
    exact ⟨eW, bS GE122.out⟩
   subst c6
   rw [if_pos rfl] at H
   obtain rfl := Option.some.inj H
   obtain ⟨hcz7_0, hcz7_1, hcz7_2⟩ := z3 BK122.out (.int .i64 a0_0) (.int .i64 a0_1) (.string a0_2)
   obtain ⟨hfz7_0, hfz7_1, hfz7_2⟩ := f3 BK122.out
   go_wp2
   go_ret
   exact ⟨eW, bS GE122.out⟩
end Go.Proofs.Ytpjcdacnhalclaa.Q
namespace Go.Proofs.Ytpjcdacnhalclaa.Q
open Go.RowKit Go.Proofs.YtpjcdacnhalclaaW.PrintWords Go.Proofs.YtpjcdacnhalclaaW.PrintLast Go.Proofs.YtpjcdacnhalclaaW.PrintMore
attribute [local go_sem] max2_int min2_int max_two min_two max_three min_three max_four min_four
attribute [local go_sem high] eqA24
structure BG (B : Nat) (w w' : World) : Prop extends Below B w w' where
 drawn : w.drawn ≤ w'.drawn
theorem BG.refl (B : Nat) (w : World) : BG B w w := ⟨Below.refl B w, Nat.le_refl _⟩
theorem BG.trans {B : Nat} {a b c : World} (h : BG B a b) (k : BG B b c) : BG B a c := ⟨h.toBelow.trans k.toBelow, Nat.le_trans h.drawn k.drawn⟩
theorem bg2 (w : World) (o p : Obj) : BG w.heap.size w ((w.alloc o).alloc p) := ⟨((Below.refl _ _).alloc (Nat.le_refl _) _).alloc (by simp) _, Nat.le_refl _⟩
def v_Compare.f (a0_0 : Int) (a0_1 : Int) (a0_2 : ByteArray) (a1_0 : Int) (a1_1 : Int) (a1_2 : ByteArray) : Option (Int) := if (a0_0 == a1_0 && (a0_1 == a1_1 && (a0_2.toList == a1_2.toList))) = true then (some 0) else (if a0_0 = a1_0 then (if a0_1 = a1_1 then (if (Op.bytesLess a0_2.toList a1_2.toList) = true then (some (-1)) else (some 1)) else (if a0_1 < a1_1 then (some (-1)) else (some 1))) else (if a0_0 < a1_0 then (some (-1)) else (some 1)))
set_option maxHeartbeats 400000 in
theorem v_Compare.callsG (a0_0 : Int) (a0_1 : Int) (a0_2 : ByteArray) (a1_0 : Int) (a1_1 : Int) (a1_2 : ByteArray) (r : Int) (w : World) (h : v_Compare.f a0_0 a0_1 a0_2 a1_0 a1_1 a1_2 = some r) :
  Calls Try.prog 25 #[.agg #[.int .i64 a0_0, .int .i64 a0_1, .string a0_2], .agg #[.int .i64 a1_0, .int .i64 a1_1, .string a1_2]] w fun e w' => e = .returned (.int .i64 r) ∧ BG w.heap.size w w' := by
 have hu24 := Try.underlying24
 unfold v_Compare.f at h
 by_cases c3 : (a0_0 == a1_0 && (a0_1 == a1_1 && (a0_2.toList == a1_2.toList))) = true
 rotate_left
 ·rw [if_neg c3] at h
  have c3b : (a0_0 == a1_0 && (a0_1 == a1_1 && (a0_2.toList == a1_2.toList))) = false := by simpa using c3
  by_cases c9 : a0_0 = a1_0
  rotate_left
  ·rw [if_neg c9] at h
   have k1 : (a0_0 != a1_0) = true := bne_iff_ne.mpr c9
   clear c3
   by_cases c11 : a0_0 < a1_0
   rotate_left
   ·rw [if_neg c11] at h; cases h
    go_enter Try.func25, Try.ntmps25
    go_wp2
    go_ret
    exact ⟨rfl, bg2 _ _ _⟩
   rw [if_pos c11] at h; cases h
   go_enter Try.func25, Try.ntmps25
   go_wp2
   go_ret
   exact ⟨rfl, bg2 _ _ _⟩
  rw [if_pos c9] at h
  have k1 : (a0_0 != a1_0) = false := bne_eq_false_iff_eq.mpr c9
  by_cases c10 : a0_1 = a1_1
  rotate_left
  ·rw [if_neg c10] at h
   have k2 : (a0_1 != a1_1) = true := bne_iff_ne.mpr c10
   clear c3 c9
   by_cases c11 : a0_1 < a1_1
   rotate_left
   ·rw [if_neg c11] at h; cases h
    go_enter Try.func25, Try.ntmps25
    go_wp2
    go_ret
    exact ⟨rfl, bg2 _ _ _⟩
   rw [if_pos c11] at h; cases h
   go_enter Try.func25, Try.ntmps25
   go_wp2
   go_ret
   exact ⟨rfl, bg2 _ _ _⟩
  rw [if_pos c10] at h
  have k2 : (a0_1 != a1_1) = false := bne_eq_false_iff_eq.mpr c10
  have k3 : (a0_2.toList == a1_2.toList) = false := by subst c9 c10; simpa using c3b
  clear c3 c9 c10
  cases hb : Op.bytesLess a0_2.toList a1_2.toList
  all_goals
   rw [hb] at h; cases h
   go_enter Try.func25, Try.ntmps25
   go_wp2
   go_ret
   exact ⟨rfl, bg2 _ _ _⟩
 rw [if_pos c3] at h
 cases h
 go_enter Try.func25, Try.ntmps25
 go_wp2
 go_ret
 exact ⟨rfl, bg2 _ _ _⟩
theorem v_Compare.calls (a0_0 : Int) (a0_1 : Int) (a0_2 : ByteArray) (a1_0 : Int) (a1_1 : Int) (a1_2 : ByteArray) (r : Int) (w : World) (h : v_Compare.f a0_0 a0_1 a0_2 a1_0 a1_1 a1_2 = some r) :
  Calls Try.prog 25 #[.agg #[.int .i64 a0_0, .int .i64 a0_1, .string a0_2], .agg #[.int .i64 a1_0, .int .i64 a1_1, .string a1_2]] w fun e w' => e = .returned (.int .i64 r) ∧ Below w.heap.size w w' :=
 (v_Compare.callsG _ _ _ _ _ _ _ w h).mono fun _ _ ⟨he, hb⟩ => ⟨he, hb.toBelow⟩
end Go.Proofs.Ytpjcdacnhalclaa.Q
