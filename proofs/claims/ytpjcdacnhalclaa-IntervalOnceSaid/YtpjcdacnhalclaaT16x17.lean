/- A part of the proof of the law that the last part names: facts of the functions that the law calls. No condition beyond those that stand in them. -/
import Derived.Test.YtpjcdacnhalclaaT16x3
import Derived.Test.YtpjcdacnhalclaaT16x7
import Derived.Test.YtpjcdacnhalclaaT16x16
import Derived.Laws.CopyOwn
import Derived.Lib.SlBuf
import Derived.Test.YtpjcdacnhalclaaT16x5
namespace Go.Proofs.Ytpjcdacnhalclaa.Q
open Go.RowKit Go.Proofs.YtpjcdacnhalclaaW.PrintWords Go.Proofs.YtpjcdacnhalclaaW.PrintLast Go.Proofs.YtpjcdacnhalclaaW.PrintMore
attribute [local go_sem] max2_int min2_int max_two min_two max_three min_three max_four min_four
set_option linter.unusedVariables false
set_option linter.unusedSimpArgs false
theorem run_make_rowN {P : Program} (t e : TypeId) (i : TypeInfo) (z : Value) (ht : P.underlying t = some (.slice e)) (hi : P.info? e = some i) (hz : i.zero = some z)
    (kl kc : IntKind) (n c : Nat) (hnc : n ≤ c) (hbytes : i.bytes * c ≤ 281474976710656) (h63 : c ≤ 9223372036854775807) (w : World) :
    (Instr.makeSlice t (.int kl (n : Int)) (.int kc (c : Int))).run P w = .ok (.slice (some ⟨w.heap.size, 0, none⟩) n c) (w.alloc (.cells (madeCells z.cells (c * i.size)) e)) := by
  have hb : (i.bytes : Int) * (c : Int) ≤ 281474976710656 := by
    have h : ((i.bytes * c : Nat) : Int) ≤ 281474976710656 := by omega
    rwa [Int.natCast_mul] at h
  have hr := run_make (P := P) w t e i z ht hi hz kl kc n c (by omega) (by omega) hb (by omega)
  simp only [Int.toNat_natCast] at hr
  exact hr
def okRows (l0 : List (List S24)) : Bool := decide (l0.length < 65536) && l0.all (fun r => decide (r.length < 4398046511104))
theorem madeCells_one (z : Value) (n : Nat) : madeCells #[z] (n * 1) = (List.replicate n z).toArray := by
 apply Array.toList_inj.1
 rw [Nat.mul_one, toList_madeCells_one]
theorem cell_of_heap {w W : World} {g : Nat} (h : W.heap[g]? = w.heap[g]?) (j : Nat) : W.cell? ⟨g, j, none⟩ = w.cell? ⟨g, j, none⟩ := by simp only [World.cell?, h]
theorem lastOf_take (l : List (List S24)) (k : Nat) (h : k < l.length) : lastOf none (l.take (k + 1)) = some l[k] := by
 rw [List.take_succ_eq_append_getElem h]
 exact lastOf_snoc _ _ _
theorem ded_take0 (l : List (List S24)) (h : 0 < l.length) : ded none (l.take (0 + 1)) = ded none (l.take 0) ++ [l[0]] := by
 rw [List.take_succ_eq_append_getElem h]
 rfl
theorem ded_take (l : List (List S24)) (k : Nat) (h : k + 1 < l.length) : ded none (l.take (k + 1 + 1)) = ded none (l.take (k + 1)) ++ (if cmpL l[k] l[k + 1] = 0 then [] else [l[k + 1]]) := by
 rw [List.take_succ_eq_append_getElem h, ded_snoc, lastOf_take l k (by omega)]
theorem ded_len (l : List (List S24)) : ∀ o, (ded o l).length ≤ l.length := by
 induction l with
 | nil => intro o; cases o <;> simp [ded]
 | cons x xs ih =>
  intro o
  cases o with
  | none => simp only [ded, List.length_cons]; have := ih (some x); omega
  | some p =>
   simp only [ded]
   split
   ·have := ih (some x); simp only [List.length_cons]; omega
   ·have := ih (some x); simp only [List.length_cons]; omega
def partsyncref01_Copy.f (l0 : List (S24)) : Option ((List (S24))) := if ([] : List (S24)).length + l0.length < 4398046511104 then (some (([] : List (S24)) ++ l0)) else (none)
set_option maxHeartbeats 8000000 in
set_option maxRecDepth 100000 in
theorem partsyncref01_Copy.calls (A0 : Option Addr) (c0 : Nat) (l0 : List (S24)) (r : List (S24)) (w : World) (hr0 : Kd.C k24 w A0 l0.length l0) (hc0 : l0.length ≤ c0) (h : partsyncref01_Copy.f l0 = some r) :
  Calls Try.prog 89 #[.slice A0 l0.length c0] w fun e w' => ∃ v0_ : Value, e = .returned (v0_) ∧ Kd.R k24 24 w' w.heap.size (fun _ => True) v0_ r ∧ Below w.heap.size w w' := by
 have HR0 := Aside0.mk hr0
 have HC0 := Aside0.mk hc0
 clear hr0 hc0
 have HB := Aside0.mk (Below.refl w.heap.size w)
 have H : (if ([] : List (S24)).length + l0.length < 4398046511104 then (some (([] : List (S24)) ++ l0)) else (none)) = some r := h
 clear h
 by_cases c2 : ([] : List (S24)).length + l0.length < 4398046511104
 rotate_left
 ·rw [if_neg c2] at H
  exact absurd H (by simp)
 rw [if_pos c2] at H
 have LMc2 := Aside0.mk c2
 clear c2
 obtain ⟨y161, hy161⟩ : ∃ y_ : List (S24), y_ = (([] : List (S24)) ++ l0) := ⟨_, rfl⟩
 replace H : (some y161) = some r := by first | (rw [hy161]; with_reducible exact H) | (have H2_ := (Option.bind_some _ _).symm.trans H; rw [hy161]; with_reducible exact H2_) | (have H2_ := (Option.bind_some _ _).symm.trans H; with_reducible exact H2_) | with_reducible exact H | (rw [hy161]; exact H) | exact H
 have Ny161 := Aside0.mk hy161
 clear hy161
 obtain rfl := Option.some.inj H
 go_enter Try.func89, Try.ntmps89
 go_wp2_with (first | ((with_reducible refine gate_builtin (b := .append) (xs := #[(.const (.slice none 0 0)), .tmp 3]) rfl ?_); at_builtin; refine Kd.R_append_rows k24 (w0 := w) w.heap.size rfl (.const (.slice none 0 0)) (.tmp 3) 54 24 (.agg #[(.int .i64 0), (.int .i64 0), (.string ⟨#[]⟩)]) 32 rfl Try.underlying54 info24 rfl (by decide) (by omega) (.slice none 0 0) ([] : List (S24)) l0 _ _ _ (fun _ => True) (fun _ => False) rfl rfl ?aO ?aR (fun _ _ h => h) (fun _ h => h.elim) ?aF ?aB ?aS ?aL ?_; (case aR => exact cX HR0.out); (case aB => exact bO); (case aF => exact (fun _ _ => trivial)); (case aO => exact ((Kd.R_nil _ _ _ _ (fun _ => True)))); (case aS => exact (below_size bO)); (case aL => have := LMc2.out; omega); intro v162 w3 ho hb hg hat; rw [← Ny161.out] at ho; have n0_ := Aside0.mk (hb); have n1_ := Aside0.mk (ho); clear HB; have HB := n0_; have HO163 := n1_; clear n0_ n1_ ho hb hg hat))
 go_ret
 exact ⟨_, eW, by (with_reducible repeat (first | apply Kd.R_alloc | apply Kd.R_drewN | apply Kd.R_drew)); exact HO163.out, bO⟩
def rdH {w0 : World} (xs : List (Hdr w0)) (i : Int) : Hdr w0 := xs.getD i.toNat default
theorem kH_at {w0 w : World} {A : Option Addr} {n : Nat} {xs : List (Hdr w0)} (h : Kd.C (kH w0) w A n xs) (i : Int) (h0 : 0 ≤ i) (h1 : i < n) : ∃ ad, A = some ad ∧ w.cell? (ad.add i.toNat) = some (.slice (rdH xs i).A (rdH xs i).xs.length (rdH xs i).c) :=
  ReadsOf.at_ (enc := Hdr.enc) (d := default) (Kd.reads_of_C (enc := Hdr.enc) (d := (default : Hdr w0)) (h1 := fun _ => rfl) h) i h0 h1
theorem R_room {w0 W : World} (n : Nat) (ok : Nat → Prop) (Z : Array Value) (hZ : Z.size = n) (hn : n ≤ maxLen) (hok : ok W.heap.size) : Kd.R (kH w0) 54 (W.alloc (.cells Z 54)) W.heap.size ok (.slice (some ⟨W.heap.size, 0, none⟩) 0 n) [] := by
  refine ⟨fun k hk => by simp only [Value.ownBlock, Option.some.injEq] at hk; subst hk; exact hok, [], ⟨rfl, .inr ⟨_, _, _, rfl, Nat.le_refl _, heap_alloc_new W _, Nat.zero_le _, hn, ?_, ?_⟩⟩, rfl, fun j p hj => by simp at hj⟩
  · rw [hZ]; exact (Nat.mul_one n).symm
  · simp
end Go.Proofs.Ytpjcdacnhalclaa.Q
