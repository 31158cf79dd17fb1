/- A part of a proof: facts of functions that the law calls; conditions stand in each. -/
import Derived.Test.YtpjcdacnhalclaaM14x3
import Derived.Test.YtpjcdacnhalclaaM14x17
import Derived.Test.YtpjcdacnhalclaaM14x7
import Derived.Test.YtpjcdacnhalclaaM14x16
import Derived.Laws.CopyOwn
import Derived.Lib.SlBuf
set_option linter.unusedVariables false
set_option linter.unusedSimpArgs false
namespace Go.Proofs.Ytpjcdacnhalclaa.Q
open Go.RowKit Go.Proofs.YtpjcdacnhalclaaW.PrintWords Go.Proofs.YtpjcdacnhalclaaW.PrintLast Go.Proofs.YtpjcdacnhalclaaW.PrintMore
attribute [local go_sem] max2_int min2_int max_two min_two max_three min_three max_four min_four
def leH {w0 : World} (x y : Hdr w0) : Bool := leL x.xs y.xs
theorem rdH_zero {w0 : World} (x : Hdr w0) (l : List (Hdr w0)) : rdH (x :: l) 0 = x := rfl
theorem sorted_l0_ev {w0 : World} : ∀ (m : Nat) (a b c : List (Hdr w0)), a.length + b.length = m → c.length + a.length + b.length < 65536 →
  Ev (fun k => r1_sorted.l0 k a b c) (c ++ List.merge a b leH)
 | m, [], b, c, hm, hl => by
  refine Ev.step (f := fun k => r1_sorted.j1 k [] b c false) (fun k => by rw [r1_sorted.l0, if_neg (by simp)]) ?_
  refine Ev.step (f := fun k => some (c ++ b)) (fun k => ?_) (by rw [List.nil_merge]; exact Ev.now _)
  simp only [List.length_nil] at hl
  rw [r1_sorted.j1, if_neg (by decide), if_pos (by simp; omega), Option.bind_some, if_pos (by simp; omega), List.append_nil]
 | m, x :: a, [], c, hm, hl => by
  refine Ev.step (f := fun k => r1_sorted.j1 k (x :: a) [] c false) (fun k => by rw [r1_sorted.l0, if_pos (by simp)]; rfl) ?_
  refine Ev.step (f := fun k => some (c ++ (x :: a))) (fun k => ?_) (by rw [List.merge_right]; exact Ev.now _)
  simp only [List.length_nil, List.length_cons] at hl
  rw [r1_sorted.j1, if_neg (by decide), if_pos (by simp; omega), Option.bind_some, if_pos (by simp; omega), List.append_nil]
 | 0, x :: a, y :: b, c, hm, hl => by simp at hm
 | m + 1, x :: a, y :: b, c, hm, hl => by
  simp only [List.length_cons] at hl hm
  refine Ev.step (f := fun k => r1_sorted.j1 k (x :: a) (y :: b) c true) (fun k => by rw [r1_sorted.l0, if_pos (by simp)]; congr 1; simp) ?_
  refine Ev.step (fun k => by rw [r1_sorted.j1, if_pos rfl, if_pos (by simp), if_pos (by simp)]) ?_
  refine Ev.bind (r1_CompareRows.ev _ _ (Kd.C_max x.rd)) ?_
  rw [rdH_zero, rdH_zero]
  by_cases h : cmpL x.xs y.xs ≤ 0
  ·have hh : leH x y = true := decide_eq_true h
   have ih := sorted_l0_ev m a (y :: b) (c ++ [x]) (by simp only [List.length_cons]; omega) (by simp only [List.length_append, List.length_cons, List.length_nil]; omega)
   rw [List.cons_merge_cons_pos (h := hh)]
   rw [List.append_assoc] at ih
   refine Ev.congr (fun k => ?_) ih
   rw [if_pos h, if_pos (by omega), if_pos (by simp; omega)]
   rfl
  ·have hh : ¬ leH x y = true := fun e => h (of_decide_eq_true e)
   have ih := sorted_l0_ev m (x :: a) b (c ++ [y]) (by simp only [List.length_cons]; omega) (by simp only [List.length_append, List.length_cons, List.length_nil]; omega)
   rw [List.cons_merge_cons_neg (h := hh)]
   rw [List.append_assoc] at ih
   refine Ev.congr (fun k => ?_) ih
   rw [if_neg h, if_pos (by omega), if_pos (by simp; omega)]
   rfl
theorem sorted_f_ev {w0 : World} : ∀ (n : Nat) (d : List (Hdr w0)), d.length = n → d.length < 65536 → ∃ r, Ev (fun k => r1_sorted.f k d) r ∧ r.Perm d ∧ r.Pairwise (fun a b => leH a b = true) := by
 intro n
 induction n using Nat.strongRecOn with
 | _ n ih =>
 intro d hn hl
 by_cases h2 : d.length < 2
 ·refine ⟨d, ?_, List.Perm.refl _, ?_⟩
  ·refine Ev.step (f := fun k => some d) (fun k => ?_) (Ev.now _)
   rw [r1_sorted.f, if_pos (by omega), if_pos (by simp; omega), List.nil_append]
  ·match d, h2 with
   | [], _ => exact List.Pairwise.nil
   | [x], _ => exact List.pairwise_singleton _ _
 ·have hw : wrap64 ((d.length : Int) / 2) = ((d.length / 2 : Nat) : Int) := by unfold wrap64; omega
  obtain ⟨ra, ea, pa, sa⟩ := ih (d.length / 2) (by omega) (d.take (d.length / 2)) (by rw [List.length_take]; omega) (by rw [List.length_take]; omega)
  obtain ⟨rb, eb, pb, sb⟩ := ih (d.length - d.length / 2) (by omega) (d.drop (d.length / 2)) (by rw [List.length_drop]) (by rw [List.length_drop]; omega)
  have la := pa.length_eq
  have lb := pb.length_eq
  rw [List.length_take] at la
  rw [List.length_drop] at lb
  refine ⟨List.merge ra rb leH, ?_, ?_, ?_⟩
  ·refine Ev.step (fun k => by rw [r1_sorted.f, if_neg (by omega), hw, if_pos (by omega), if_pos (by omega), Int.toNat_natCast]) ?_
   refine Ev.bind ea (Ev.bind eb ?_)
   have := sorted_l0_ev (ra.length + rb.length) ra rb [] rfl (by simp only [List.length_nil]; omega)
   rwa [List.nil_append] at this
  ·have h1 := List.merge_perm_append (le := leH) (xs := ra) (ys := rb)
   refine h1.trans ((pa.append pb).trans ?_)
   rw [List.take_append_drop]
  ·exact List.pairwise_merge (fun x y z h k => leL_trans x.xs y.xs z.xs h k) (fun x y => leL_total x.xs y.xs) ra rb sa sb
theorem sorted_ok {w0 : World} (d : List (Hdr w0)) (hl : d.length < 65536) : ∃ k r, r1_sorted.f k d = some r ∧ r.map Hdr.xs = (d.map Hdr.xs).mergeSort leL ∧ r.length = d.length := by
 obtain ⟨r, he, hp, hs⟩ := sorted_f_ev d.length d rfl hl
 obtain ⟨k, hk⟩ := he.rounds
 exact ⟨k, r, hk, sorted_is (hp.map _) (List.pairwise_map.2 hs), hp.length_eq⟩
def r1_Set.f (_ : Nat) (l0 : List (List S24)) : Option (List (List S24)) := if okRows l0 = true then some (setOf l0) else none
theorem ded_last (x : List S24) : ∀ p : List (List S24), ∃ q, ded none (p ++ [x]) = q ++ [x] := by
 intro p
 induction h : p.length generalizing p x with
 | zero =>
  have : p = [] := List.eq_nil_of_length_eq_zero h
  subst this
  exact ⟨[], rfl⟩
 | succ n ih =>
  obtain ⟨p', y, rfl⟩ : ∃ p' y, p = p' ++ [y] := ⟨p.dropLast, p.getLast (by intro e; subst e; simp at h), (List.dropLast_concat_getLast _).symm⟩
  rw [ded_snoc, lastOf_snoc]
  dsimp only
  by_cases hc : cmpL y x = 0
  rotate_left
  ·rw [if_neg hc]
   exact ⟨_, rfl⟩
  obtain ⟨q, hq⟩ := ih y p' (by simpa using h)
  rw [if_pos hc, List.append_nil, hq]
  exact ⟨q, by rw [cmpL_zero.1 hc]⟩
theorem rd_L4_last (q : List (List S24)) (x : List S24) : rd_L4 (q ++ [x]) (q.length : Int) = x := by
 unfold rd_L4
 simp [List.getD_eq_getElem?_getD]
theorem R_hdr_cells {w0 W : World} {base : Nat} {ok : Nat → Prop} {A : Option Addr} {c : Nat} {s : List (Hdr w0)} (h : Kd.R (kH w0) 54 W base ok (.slice A s.length c) s) (j : Nat) (hj : j < s.length) :
  ∃ g, A = some ⟨g, 0, none⟩ ∧ g < W.heap.size ∧ W.cell? ⟨g, j, none⟩ = some (s[j]).enc := by
 obtain ⟨_, _, hC⟩ := Kd.R_reads' h
 obtain ⟨_, inner, ⟨_, ho⟩, _⟩ := h
 rcases ho with ⟨_, hn⟩ | ⟨g, cap, cur, he, hg, hW, _⟩
 ·omega
 ·injection he with e1 _ _
  subst e1
  refine ⟨g, rfl, blk_lt hW, ?_⟩
  have := hdr_cell hC j hj
  rw [show (Addr.add ⟨g, 0, none⟩ j) = ⟨g, j, none⟩ from by cases j <;> simp [Addr.add]] at this
  exact this
theorem succ_ne_zero' (n : Nat) : ((n : Int) + 1 == 0) = false := beq_eq_false_iff_ne.2 (by omega)
theorem i64_in' {n : Nat} (h : n < 65536) : wrap64 (n : Int) = n := by unfold wrap64; omega
theorem cmp_ref {w W : World} {A : Option Addr} {c : Nat} {ys : List S24} (hC : Kd.C k24 W A ys.length ys) (hl : ys.length ≤ c) (hb : Below w.heap.size w W) (x : Hdr w) (z : Int) (hz : cmpL ys x.xs = z) :
  Calls Try.prog 53 #[.slice A ys.length c, .slice x.A x.xs.length x.c] W fun e w' => e = .returned (.int .i64 z) ∧ Below W.heap.size W w' := by
 subst hz
 exact r1_CompareRows.calls (2 * ys.length + 2) A c ys x.A x.c x.xs _ W hC hl (Kd.C_below x.rd hb) x.le (r1_CompareRows.some_ ys x.xs (Kd.C_max hC) _ (Nat.le_refl _))
set_option maxHeartbeats 4000000 in
set_option maxRecDepth 100000 in
theorem r1_Set.callsS (A0 : Option Addr) (c0 : Nat) (l0 : List (List S24)) (w : World) (hr0 : Kd.C (Kd.slice 24 k24) w A0 l0.length l0) (hc0 : l0.length ≤ c0) (hn : l0.length < 65536) (hrow : ∀ r ∈ l0, r.length < 4398046511104) :
  Calls Try.prog 57 #[.slice A0 l0.length c0] w fun e w' => ∃ v0_ : Value, e = .returned (v0_) ∧ Kd.S (Kd.slice 24 k24) 54 w' w.heap.size (fun _ => True) v0_ (setOf l0) ∧ Below w.heap.size w w' := by
 obtain ⟨d, rfl, hdl, hdC⟩ := hdrs_of_C hr0
 rw [List.length_map] at hdC hn hc0 ⊢
 clear hr0 hdl
 obtain ⟨ks, s, hsf, hs, hsl⟩ := sorted_ok d hn
 have HSF := Aside0.mk hsf
 have HS := Aside0.mk hs
 have HSL := Aside0.mk hsl
 have HD := Aside0.mk hdC
 have HN := Aside0.mk hn
 have HROW := Aside0.mk hrow
 have HC := Aside0.mk hc0
 have HB0 := aK (Below.refl w.heap.size w)
 have hsn : s.length < 65536 := by omega
 clear hdC hrow hc0 hsf hs hsl hn
 go_enter Try.func57, Try.ntmps57
 go_wp2_with (first | (go_at_call 90; refine (r1_sorted.calls ks A0 c0 d s w HD.out HC.out HSF.out HB0.out HN.out).mono ?_; rintro e w3 ⟨v7, rfl, hR, hb⟩; have HR := Aside0.mk hR; have HB := Aside0.mk hb; clear hR hb; obtain ⟨A7, c7, e7⟩ := Kd.R_slice HR.out; subst e7))
 have HN2 : Aside0 (s.length = d.length) := HSL
 have HRK : Aside0 (∀ g, A7 = some ⟨g, 0, none⟩ → g < w3.heap.size) := aK (fun g e => Kd.R_lt HR.out g (by rw [e]; rfl))
 have HCL : Aside0 (∀ j (hj : j < s.length), ∃ g, A7 = some ⟨g, 0, none⟩ ∧ g < w3.heap.size ∧ w3.cell? ⟨g, j, none⟩ = some (s[j]).enc) := aK (fun j hj => R_hdr_cells HR.out j hj)
 go_loopg [3, 9] s.length (fun gk v3 v9 wr => ∃ k : Nat, k ≤ s.length ∧ s.length - k ≤ gk ∧ v9 = .int .i64 k ∧ Aside0 (Kd.S (Kd.slice 24 k24) 54 wr w.heap.size (fun b => ∀ g, A7 = some ⟨g, 0, none⟩ → b ≠ g) v3 (ded none ((s.map Hdr.xs).take k))) ∧ Aside0 (∀ g, A7 = some ⟨g, 0, none⟩ → wr.heap[g]? = w3.heap[g]?) ∧ Aside0 (w3.heap.size ≤ wr.heap.size) ∧ Aside0 (Below w.heap.size w wr))
 case atStart => exact ⟨0, Nat.zero_le _, Nat.le_refl _, rfl, ⟨Kd.S_nil _ _ _ _ _⟩, ⟨fun _ _ => rfl⟩, ⟨Nat.le_refl _⟩, HB⟩
 case round =>
  clear HB
  obtain ⟨k, hk, hgk, rfl, HO, HH, HLT, HB⟩ := hrel
  by_cases hlt : k < s.length
  rotate_left
  ·have hkd : k = s.length := by omega
   subst hkd
   go_wp2
   go_ret
   refine ⟨_, rfl, ?_, HB.out⟩
   have e : (s.map Hdr.xs).take s.length = s.map Hdr.xs := List.take_of_length_le (by rw [List.length_map]; exact Nat.le_refl _)
   have h1 := HO.out
   rw [e, HS.out] at h1
   exact Kd.S_mono h1 (fun _ _ => trivial)
  obtain ⟨x, hx⟩ : ∃ x, x = s[k] := ⟨_, rfl⟩
  obtain ⟨g, hA7, hg3, hcell⟩ := HCL.out k hlt
  have hck : wr.cell? ⟨g, k, none⟩ = some (.slice x.A x.xs.length x.c) := by rw [cell_of_heap (HH.out g hA7), hcell, ← hx]; rfl
  have HX := Aside0.mk hx
  have HM : x.xs.length < 4398046511104 := by
   have h1 : x.xs ∈ (s.map Hdr.xs) := List.mem_map.2 ⟨x, by rw [hx]; exact List.getElem_mem _, rfl⟩
   rw [HS.out, List.mem_mergeSort] at h1
   exact HROW.out _ h1
  have HMX := Aside0.mk HM
  have HCP : Aside0 (r1_Copy.f x.xs = some x.xs) := aK (by unfold r1_Copy.f; rw [if_pos (by simp; omega), List.nil_append])
  have HG3 := Aside0.mk hg3
  obtain ⟨O, hO⟩ : ∃ O, O = ded none ((s.map Hdr.xs).take k) := ⟨_, rfl⟩
  rw [← hO] at HO
  have HOL : Aside0 (O.length < 65536) := aK (by rw [hO]; have h1_ := ded_len ((s.map Hdr.xs).take k) none; have h2_ := HN.out; have h3_ := HN2.out; rw [List.length_take, List.length_map] at h1_; omega)
  have HOE := Aside0.mk hO
  have HA7 := Aside0.mk hA7
  subst hA7
  clear hx HM hO hcell hg3
  have HO := aK (Kd.S_mono (ok' := fun b => b ≠ g) HO.out (fun b hb => hb g rfl))
  have HGR : Aside0 (g < wr.heap.size) := aK (Nat.lt_of_lt_of_le HG3.out HLT.out)
  by_cases hk0 : k = 0
  rotate_left
  ·obtain ⟨m, rfl⟩ : ∃ m, k = m + 1 := ⟨k - 1, by omega⟩
   have hms : m < s.length := by omega
   obtain ⟨y, hy⟩ : ∃ y, y = s[m] := ⟨_, rfl⟩
   obtain ⟨q, hq⟩ : ∃ q, O = q ++ [y.xs] := by
    rw [HOE.out, List.take_succ_eq_append_getElem (by rw [List.length_map]; exact hms), List.getElem_map, ← hy]
    exact ded_last _ _
   obtain ⟨nn, hnn⟩ : ∃ nn, nn = q.length := ⟨_, rfl⟩
   have hOl : O.length = nn + 1 := by rw [hq, List.length_append, hnn]; rfl
   obtain ⟨Ao, co, eo⟩ := Kd.S_slice HO.out
   obtain ⟨_, _, hrd⟩ := Kd.S_reads' (eo ▸ HO.out : Kd.S (Kd.slice 24 k24) 54 wr w.heap.size (fun b => b ≠ g) (.slice Ao O.length co) O)
   rw [hOl] at eo
   subst eo
   obtain ⟨ad, Ae, ce, ea, hxe, hle, hCe⟩ := at_L4 hrd (nn : Int) (by omega) (by omega)
   have hl4 : rd_L4 O (nn : Int) = y.xs := by rw [hq, hnn]; exact rd_L4_last q y.xs
   rw [hl4] at hxe hle hCe
   rw [Int.toNat_natCast] at hxe
   subst ea
   have HY := Aside0.mk hy
   have HCE := Aside0.mk hCe
   have HLE := Aside0.mk hle
   obtain ⟨c, hce⟩ : ∃ c, cmpL y.xs x.xs = c := ⟨_, rfl⟩
   have HCC := Aside0.mk hce
   have hnb : nn < 65536 := by have h1_ := HOL.out; omega
   have hwn : wrap64 (nn : Int) = nn := i64_in' hnb
   have hz0 : ((nn : Int) + 1 == 0) = false := succ_ne_zero' nn
   clear hy hce hk0 hq hnn hOl hrd hl4 hCe hle
   by_cases hc0 : c = 0
   rotate_left
   ·have hc1 : (c == 0) = false := beq_eq_false_iff_ne.2 hc0
    have HC0 := Aside0.mk hc0
    clear hc0
    go_wp2_with (first | (go_at_call 53; refine (cmp_ref HCE.out HLE.out HB.out x c HCC.out).mono ?_; rintro e w4 ⟨rfl, hb4⟩; have HOC := aK (Kd.S_below HO.out hb4); have HBC := aK (below_step HB.out hb4); have HGC := aK (Nat.lt_of_lt_of_le HGR.out hb4.size); have HLC := aK (Nat.le_trans HLT.out hb4.size); have HHC : Aside0 (∀ g_, (some (⟨g, 0, none⟩ : Addr)) = some ⟨g_, 0, none⟩ → w4.heap[g_]? = w3.heap[g_]?) := aK (fun g_ e => (hb4.block _ (by injection e with e; injection e with e; rw [← e]; exact HGR.out)).trans (HH.out g_ e)); clear hb4) | (go_at_call 89; refine (r1_Copy.calls x.A x.c x.xs x.xs _ (Kd.C_below x.rd HBC.out) x.le HCP.out).mono ?_; rintro e w5 ⟨v29, rfl, hR5, hb5⟩; have HR5 := aK (Kd.R_mono (Kd.R_bound hR5) (fun k_ hk_ => hk_.2.1)); have HB5 := aK (below_step HBC.out hb5); have HO5 := aK (Kd.S_below (Kd.S_mono (ok' := fun b => b ≠ g ∧ ¬ w4.heap.size ≤ b) (Kd.S_bound HOC.out) (fun k_ hk_ => ⟨hk_.1, Nat.not_le.2 hk_.2.2.1⟩)) hb5); have HSZ5 := Aside0.mk hb5.size; have HBL5 := Aside0.mk hb5; clear hR5 hb5; obtain ⟨A29, c29, e29⟩ := Kd.R_slice HR5.out; subst e29) | ((with_reducible refine gate_builtin (b := .append) (xs := #[.tmp 27, .tmp 30]) rfl ?_); at_builtin; refine Kd.S_append (Kd.slice 24 k24) (w0 := w) w.heap.size rfl (.tmp 27) (.tmp 30) 55 54 (.slice none 0 0) 24 rfl Try.underlying55 info54 rfl (by decide) (by omega) (.slice (some ad) (nn + 1) co) O x.xs [.slice A29 x.xs.length c29] (fun b => b ≠ g) (fun b => w4.heap.size ≤ b) rfl rfl ?aP ?aK ?aF ?aO ?aB ?aS ?aL ?_; (case aP => exact Kd.M_row (Kd.R_lower HR5.out HBC.out.size)); (case aK => intro b hb; exact ⟨by have h1_ := HGC.out; omega, fun e => by have h1_ := Kd.S_lt HOC.out _ e.symm; omega⟩); (case aF => intro b hb; have h1_ := HGC.out; have h2_ := HSZ5.out; omega); (case aO => exact HO5.out); (case aB => exact HB5.out); (case aS => exact HB5.out.size); (case aL => have h1_ := HOL.out; omega); intro v1 w1 ho hb hg hat; have HO1 := Aside0.mk ho; have HB1 := Aside0.mk hb; have HG1 := Aside0.mk hg; clear ho hb hg hat))
    have HH1 : ∀ g_, (some (⟨g, 0, none⟩ : Addr)) = some ⟨g_, 0, none⟩ → w1.heap[g_]? = w3.heap[g_]? := fun g_ e => by
     have hne : some g_ ≠ (.slice (some ad) (nn + 1) co : Value).ownBlock := fun e2 => by
      have h1_ := ((Kd.S_R HO5.out).1 _ e2.symm).1
      injection e with e; injection e with e
      exact h1_ e.symm
     have hg_ : g_ = g := by injection e with e; injection e with e; exact e.symm
     rw [HG1.out.block _ (by rw [hg_]; have h1_ := HGC.out; have h2_ := HSZ5.out; omega) hne, HBL5.out.block _ (by rw [hg_]; exact HGC.out), HHC.out g_ e]
    have HLT1 : w3.heap.size ≤ w1.heap.size := by have h1_ := HLC.out; have h2_ := HSZ5.out; have h3_ := HG1.out.size; omega
    go_roundg (s.length - (m + 2))
    case measure => omega
    case rel =>
     refine ⟨m + 2, by omega, Nat.le_refl _, by go_num, ⟨?_⟩, ⟨HH1⟩, ⟨HLT1⟩, HB1⟩
     have e := ded_take (s.map Hdr.xs) m (by rw [List.length_map]; exact hlt)
     rw [e, ← HOE.out, List.getElem_map, List.getElem_map, ← HX.out, ← HY.out, if_neg (by rw [HCC.out]; exact HC0.out)]
     exact Kd.S_mono HO1.out (fun b hb g_ e_ => by injection e_ with e_; injection e_ with e_; rw [← e_]; exact hb)
   subst hc0
   go_wp2_with (first | (go_at_call 53; refine (cmp_ref HCE.out HLE.out HB.out x 0 HCC.out).mono ?_; rintro e w4 ⟨rfl, hb4⟩; have HOC := aK (Kd.S_below HO.out hb4); have HBC := aK (below_step HB.out hb4); have HLC := aK (Nat.le_trans HLT.out hb4.size); have HHC : Aside0 (∀ g_, (some (⟨g, 0, none⟩ : Addr)) = some ⟨g_, 0, none⟩ → w4.heap[g_]? = w3.heap[g_]?) := aK (fun g_ e => (hb4.block _ (by injection e with e; injection e with e; rw [← e]; exact HGR.out)).trans (HH.out g_ e)); clear hb4))
   go_roundg (s.length - (m + 2))
   case measure => omega
   case rel =>
    refine ⟨m + 2, by omega, Nat.le_refl _, by go_num, ⟨?_⟩, HHC, HLC, HBC⟩
    have e := ded_take (s.map Hdr.xs) m (by rw [List.length_map]; exact hlt)
    rw [e, ← HOE.out, List.getElem_map, List.getElem_map, ← HX.out, ← HY.out, if_pos HCC.out, List.append_nil]
    exact Kd.S_mono HOC.out (fun b hb g_ e_ => by injection e_ with e_; injection e_ with e_; rw [← e_]; exact hb)
  subst hk0
  have hO0 : O = [] := by rw [HOE.out]; rfl
  subst hO0
  obtain ⟨Ao, co, eo⟩ := Kd.S_slice HO.out
  subst eo
  have HOC := HO
  have HBC := HB
  have HGC := HGR
  have HLC := HLT
  have HHC := HH
  go_wp2_with (first | (go_at_call 89; refine (r1_Copy.calls x.A x.c x.xs x.xs _ (Kd.C_below x.rd HBC.out) x.le HCP.out).mono ?_; rintro e w5 ⟨v29, rfl, hR5, hb5⟩; have HR5 := aK (Kd.R_mono (Kd.R_bound hR5) (fun k_ hk_ => hk_.2.1)); have HB5 := aK (below_step HBC.out hb5); have HO5 := aK (Kd.S_below (Kd.S_mono (ok' := fun b => b ≠ g ∧ ¬ wr.heap.size ≤ b) (Kd.S_bound HOC.out) (fun k_ hk_ => ⟨hk_.1, Nat.not_le.2 hk_.2.2.1⟩)) hb5); have HSZ5 := Aside0.mk hb5.size; have HBL5 := Aside0.mk hb5; clear hR5 hb5; obtain ⟨A29, c29, e29⟩ := Kd.R_slice HR5.out; subst e29) | ((with_reducible refine gate_builtin (b := .append) (xs := #[.tmp 27, .tmp 30]) rfl ?_); at_builtin; refine Kd.S_append (Kd.slice 24 k24) (w0 := w) w.heap.size rfl (.tmp 27) (.tmp 30) 55 54 (.slice none 0 0) 24 rfl Try.underlying55 info54 rfl (by decide) (by omega) (.slice Ao 0 co) ([] : List (List S24)) x.xs [.slice A29 x.xs.length c29] (fun b => b ≠ g) (fun b => wr.heap.size ≤ b) rfl rfl ?aP ?aK ?aF ?aO ?aB ?aS ?aL ?_; (case aP => exact Kd.M_row (Kd.R_lower HR5.out HBC.out.size)); (case aK => intro b hb; exact ⟨by have h1_ := HGC.out; omega, fun e => by have h1_ := Kd.S_lt HOC.out _ e.symm; omega⟩); (case aF => intro b hb; have h1_ := HGC.out; have h2_ := HSZ5.out; omega); (case aO => exact HO5.out); (case aB => exact HB5.out); (case aS => exact HB5.out.size); (case aL => show (0 + 1) * 24 ≤ 140737488355328; omega); intro v1 w1 ho hb hg hat; have HO1 := Aside0.mk ho; have HB1 := Aside0.mk hb; have HG1 := Aside0.mk hg; clear ho hb hg hat))
  have HH1 : ∀ g_, (some (⟨g, 0, none⟩ : Addr)) = some ⟨g_, 0, none⟩ → w1.heap[g_]? = w3.heap[g_]? := fun g_ e => by
   have hne : some g_ ≠ (.slice Ao 0 co : Value).ownBlock := fun e2 => by
    have h1_ := ((Kd.S_R HO5.out).1 _ e2.symm).1
    injection e with e; injection e with e
    exact h1_ e.symm
   have hg_ : g_ = g := by injection e with e; injection e with e; exact e.symm
   rw [HG1.out.block _ (by rw [hg_]; have h1_ := HGC.out; have h2_ := HSZ5.out; omega) hne, HBL5.out.block _ (by rw [hg_]; exact HGC.out), HHC.out g_ e]
  have HLT1 : w3.heap.size ≤ w1.heap.size := by have h1_ := HLC.out; have h2_ := HSZ5.out; have h3_ := HG1.out.size; omega
  go_roundg (s.length - 1)
  case measure => omega
  case rel =>
   refine ⟨1, by omega, Nat.le_refl _, rfl, ⟨?_⟩, ⟨HH1⟩, ⟨HLT1⟩, HB1⟩
   have e := ded_take0 (s.map Hdr.xs) (by rw [List.length_map]; exact hlt)
   rw [e, ← HOE.out, List.getElem_map, ← HX.out]
   exact Kd.S_mono HO1.out (fun b hb g_ e_ => by injection e_ with e_; injection e_ with e_; rw [← e_]; exact hb)
theorem r1_Set.calls (k : Nat) (A0 : Option Addr) (c0 : Nat) (l0 : List (List (S24))) (r : List (List (S24))) (w : World) (hr0 : Kd.C (Kd.slice 24 k24) w A0 l0.length l0) (hc0 : l0.length ≤ c0) (h : r1_Set.f k l0 = some r) :
  Calls Try.prog 57 #[.slice A0 l0.length c0] w fun e w' => ∃ v0_ : Value, e = .returned (v0_) ∧ Kd.S (Kd.slice 24 k24) 54 w' w.heap.size (fun _ => True) v0_ r ∧ Below w.heap.size w w' := by
 unfold r1_Set.f at h
 split at h
 ·rename_i hk
  cases h
  unfold okRows at hk
  rw [Bool.and_eq_true, decide_eq_true_iff, List.all_eq_true] at hk
  exact r1_Set.callsS A0 c0 l0 w hr0 hc0 hk.1 (fun r hr => of_decide_eq_true (hk.2 r hr))
 ·cases h
end Go.Proofs.Ytpjcdacnhalclaa.Q
