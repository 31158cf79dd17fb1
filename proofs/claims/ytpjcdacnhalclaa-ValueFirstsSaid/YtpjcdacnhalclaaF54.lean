/- Function F54 of the translation: what its call computes. -/
import Derived.Test.YtpjcdacnhalclaaK0
import Derived.Test.YtpjcdacnhalclaaHdr
import Derived.Test.YtpjcdacnhalclaaOrd
import Derived.Test.YtpjcdacnhalclaaRK
import Derived.Test.YtpjcdacnhalclaaSetRow
import Derived.Laws.CopyOwn
import Derived.Lib.SlBuf
namespace Go.Proofs.Ytpjcdacnhalclaa.Q
open Go.RowKit Go.Proofs.YtpjcdacnhalclaaW.PrintWords Go.Proofs.YtpjcdacnhalclaaW.PrintLast Go.Proofs.YtpjcdacnhalclaaW.PrintMore
attribute [local go_sem] max2_int min2_int max_two min_two max_three min_three max_four min_four
set_option linter.unusedVariables false
set_option linter.unusedSimpArgs false
/-! ### value_Set: function 54 -/
def okRows (l0 : List (List S24)) : Bool := decide (l0.length < 65536) && l0.all (fun r => decide (r.length < 4398046511104))
def value_Set.f (_ : Nat) (l0 : List (List S24)) : Option (List (List S24)) := if okRows l0 = true then some (setOf l0) else none
theorem value_Set.mono : ∀ a0 k, LeO (value_Set.f k a0) (value_Set.f (k + 1) a0) := fun _ _ => LeO.refl _
theorem madeCells_one (z : Value) (n : Nat) : madeCells #[z] (n * 1) = (List.replicate n z).toArray := by
  apply Array.toList_inj.1
  rw [Nat.mul_one, toList_madeCells_one]
theorem cmp_hdrs' {w W : World} (hb : Below w.heap.size w W) (x y : Hdr w) (c : Int) (hc : cmpL x.xs y.xs = c) : Calls Try.prog 52 #[.slice x.A x.xs.length x.c, .slice y.A y.xs.length y.c] W fun e w' => e = .returned (.int .i64 c) ∧ Below W.heap.size W w' := by
  subst hc
  exact (cmp_hdrs hb x y).mono fun _ _ ⟨he, h⟩ => ⟨he, h.toBelow⟩
theorem cell_of_heap {w W : World} {g : Nat} (h : W.heap[g]? = w.heap[g]?) (j : Nat) : W.cell? ⟨g, j, none⟩ = w.cell? ⟨g, j, none⟩ := by simp only [World.cell?, h]
theorem lastOf_take (l : List (List S24)) (k : Nat) (h : k < l.length) : lastOf none (l.take (k + 1)) = some l[k] := by
  rw [List.take_succ_eq_append_getElem h]
  exact lastOf_snoc _ _ _
theorem ded_take0 (l : List (List S24)) (h : 0 < l.length) : ded none (l.take (0 + 1)) = ded none (l.take 0) ++ [l[0]] := by
  rw [List.take_succ_eq_append_getElem h]
  rfl
theorem ded_take (l : List (List S24)) (k : Nat) (h : k + 1 < l.length) : ded none (l.take (k + 1 + 1)) = ded none (l.take (k + 1)) ++ (if cmpL l[k] l[k + 1] = 0 then [] else [l[k + 1]]) := by
  rw [List.take_succ_eq_append_getElem h, ded_snoc, lastOf_take l k (by omega)]
theorem ded_len (l : List (List S24)) : ∀ o, (ded o l).length ≤ l.length := by
  induction l with
  | nil => intro o; cases o <;> simp [ded]
  | cons x xs ih =>
    intro o
    cases o with
    | none => simp only [ded, List.length_cons]; have := ih (some x); omega
    | some p =>
      simp only [ded]
      split
      · have := ih (some x); simp only [List.length_cons]; omega
      · have := ih (some x); simp only [List.length_cons]; omega
def cells24 (l : List S24) : List Value := l.flatMap fun y => [.int .i64 y.f0, .int .i64 y.f1, .string y.f2]
theorem cells24_length (l : List S24) : (cells24 l).length = l.length * 3 := by
  unfold cells24
  rw [List.length_flatMap]
  simp [List.map_const', List.sum_replicate_nat]
theorem cells24_at : ∀ (l : List S24) (q : Nat) (hq : q < l.length), ((cells24 l).drop (q * 3)).take 3 = [Value.int .i64 (l[q]).f0, .int .i64 (l[q]).f1, .string (l[q]).f2]
  | [], _, hq => by simp at hq
  | a :: l, 0, _ => by simp [cells24]
  | a :: l, q + 1, hq => by
    have := cells24_at l q (by simpa using hq)
    simp only [cells24, List.flatMap_cons, List.getElem_cons_succ] at this ⊢
    rw [show (q + 1) * 3 = 3 + q * 3 from by omega, ← List.drop_drop]
    exact this
/-- A row that is copied into memory of the call's own. -/
theorem copyRow {w W : World} (x : Hdr w) (hb : Below w.heap.size w W) (Z : Array Value) (hZ : Z.size = x.xs.length * 3) : ∃ W', (Builtin.copy_ #[54, 54] 3 #[.slice (some ⟨W.heap.size, 0, none⟩) x.xs.length x.xs.length, .slice x.A x.xs.length x.c]).run Try.prog (W.alloc (.cells Z 24)) = .ok (goInt x.xs.length) W' ∧
    Kd.R k24 24 W' W.heap.size (fun b => b = W.heap.size) (.slice (some ⟨W.heap.size, 0, none⟩) x.xs.length x.xs.length) x.xs ∧ Below W.heap.size W W' ∧ W.heap.size < W'.heap.size := by
  have hg := heap_alloc_new W (.cells Z 24)
  have hbw := below_alloc (Below.refl W.heap.size W) (.cells Z 24)
  have hrd := Kd.C_below x.rd (hb.trans (hbw.mono hb.size))
  obtain ⟨hl, hm, hr⟩ := hrd
  have hmax : x.xs.length ≤ maxLen := by unfold maxLen; exact hm
  have own : ∀ W' : World, W'.heap[W.heap.size]? = some (.cells (cells24 x.xs).toArray 24 (0, 0)) →
      Kd.R k24 24 W' W.heap.size (fun b => b = W.heap.size) (.slice (some ⟨W.heap.size, 0, none⟩) x.xs.length x.xs.length) x.xs := by
    intro W' hW'
    have hfl := cells24_length x.xs
    refine ⟨fun k hk => by simpa [Value.ownBlock] using hk.symm, _, ⟨hfl, .inr ⟨_, _, _, rfl, Nat.le_refl _, hW', Nat.le_refl _, hmax, by rw [List.size_toArray]; exact hfl, ?_⟩⟩, hfl, ?_⟩
    · simp only [List.toList_toArray]
      exact List.take_of_length_le (by rw [hfl]; exact Nat.le_refl _)
    · intro j p hj
      obtain ⟨hj1, rfl⟩ := List.getElem?_eq_some_iff.1 hj
      have e := cells24_at x.xs j hj1
      show k24.M W' W.heap.size _ _ (((cells24 x.xs).drop (j * 3)).take 3)
      rw [e]
      exact k24_mkM _ _ _ _
  by_cases h0 : x.xs.length = 0
  · have hx : x.xs = [] := List.eq_nil_of_length_eq_zero h0
    have hZ0 : Z = #[] := by apply Array.eq_empty_of_size_eq_zero; omega
    refine ⟨W.alloc (.cells Z 24), ?_, own _ ?_, hbw, by simp⟩
    · rw [h0]; exact run_copy_K0 _ 54 54 3 24 _ _ _ _ 3 Try.underlying54 (by kernel_rfl)
    · rw [hg, hx, hZ0]; rfl
  · obtain ⟨ad, hA, hc⟩ := hr (by omega)
    have hfl := cells24_length x.xs
    have hcp := run_copy_K (P := Try.prog) _ 54 54 3 24 W.heap.size x.xs.length x.xs.length x.c ad Z 24 (cells24 x.xs) 3 Try.underlying54 (by kernel_rfl) hg hfl (by omega) ?_ ?_
    · exact ⟨_, by rw [hA]; exact hcp, own _ (setRow_heap _ _ _ _ _ _ hg), below_setRow hbw (Nat.le_refl _) _, by simp [World.setRow]⟩
    · intro j v hj
      have hj1 : j < x.xs.length * 3 := by rw [← hfl]; exact (List.getElem?_eq_some_iff.1 hj).1
      obtain ⟨c, hcl, hk, hcell⟩ := hc (j / 3) _ (List.getElem?_eq_getElem (by omega))
      have hc3 := k24_open hk
      have e : ((cells24 x.xs).drop (j / 3 * 3)).take 3 = c := by rw [hc3]; exact cells24_at x.xs (j / 3) (by omega)
      have h := hcell (j % 3) v (by
        rw [← e, List.getElem?_take, if_pos (by omega), List.getElem?_drop, show j / 3 * 3 + j % 3 = j from by omega]
        exact hj)
      have hs : k24.sz = 3 := rfl
      rw [hs, show j / 3 * 3 + j % 3 = j from by omega] at h
      exact h
    · intro v hv
      obtain ⟨y, _, hy⟩ := List.mem_flatMap.1 (show v ∈ x.xs.flatMap _ from hv)
      simp at hy
      rcases hy with rfl | rfl | rfl <;> rfl
set_option maxHeartbeats 1000000 in
set_option maxRecDepth 100000 in
theorem value_Set.callsS (A0 : Option Addr) (c0 : Nat) (l0 : List (List S24)) (w : World) (hr0 : Kd.C (Kd.slice 24 k24) w A0 l0.length l0) (hc0 : l0.length ≤ c0) (hn : l0.length < 65536) (hrow : ∀ r ∈ l0, r.length < 4398046511104) :
    Calls Try.prog 54 #[.slice A0 l0.length c0] w fun e w' => ∃ v0_ : Value, e = .returned (v0_) ∧ Kd.S (Kd.slice 24 k24) 54 w' w.heap.size (fun _ => True) v0_ (setOf l0) ∧ Below w.heap.size w w' := by
  obtain ⟨d, rfl, hdl, hdC⟩ := hdrs_of_C hr0
  rw [List.length_map] at hdC hn hc0 ⊢
  clear hr0 hdl
  obtain ⟨i54, hi54, hz54, hs54, hb54⟩ := info_parts info54
  have hmk : ∀ W : World, (Instr.makeSlice 55 (.int .i64 (d.length : Int)) (.int .i64 (d.length : Int))).run Try.prog W = .ok (.slice (some ⟨W.heap.size, 0, none⟩) d.length d.length) (W.alloc (.cells (List.replicate d.length (.slice none 0 0)).toArray 54)) := by
    intro W
    have h := run_make_rowN (P := Try.prog) 55 54 i54 (.slice none 0 0) Try.underlying55 hi54 hz54 .i64 .i64 d.length d.length (Nat.le_refl _) (by rw [hb54]; omega) (by omega) W
    rw [hs54] at h
    rw [h]
    congr 3
    exact madeCells_one _ _
  clear hi54 hz54 hs54 hb54
  obtain ⟨W2, hcp, hG2, hB2⟩ : ∃ W2 : World, (Builtin.copy_ #[55, 55] 3 #[.slice (some ⟨w.heap.size, 0, none⟩) d.length d.length, .slice A0 d.length c0]).run Try.prog (w.alloc (.cells (List.replicate d.length (.slice none 0 0)).toArray 54)) = .ok (goInt d.length) W2 ∧
      W2.heap[w.heap.size]? = some (.cells (d.map Hdr.enc).toArray 54 (0, 0)) ∧ Below w.heap.size w W2 := by
    have hg := heap_alloc_new w (.cells (List.replicate d.length (.slice none 0 0)).toArray 54)
    have hb := below_alloc (Below.refl w.heap.size w) (.cells (List.replicate d.length (.slice none 0 0)).toArray 54)
    by_cases h0 : d.length = 0
    · have hd : d = [] := List.eq_nil_of_length_eq_zero h0
      subst hd
      exact ⟨_, run_copy_K0 _ 55 55 3 54 _ _ _ _ 1 Try.underlying55 (by kernel_rfl), hg, hb⟩
    · obtain ⟨ad, rfl, _⟩ := hdC.2.2 (by omega)
      have hdC' := Kd.C_below hdC hb
      refine ⟨_, run_copy_K _ 55 55 3 54 w.heap.size d.length d.length c0 ad _ 54 (d.map Hdr.enc) 1 Try.underlying55 (by kernel_rfl) hg (by simp) (by simp) ?_ ?_, setRow_heap _ _ _ _ _ _ hg, ?_⟩
      · intro j v hj
        rw [List.getElem?_map] at hj
        obtain ⟨x, hx, rfl⟩ := Option.map_eq_some_iff.1 hj
        obtain ⟨hj1, rfl⟩ := List.getElem?_eq_some_iff.1 hx
        exact hdr_cell hdC' j hj1
      · intro v hv
        obtain ⟨x, _, rfl⟩ := List.mem_map.1 hv
        rfl
      · exact below_setRow hb (Nat.le_refl _) _
  have HCP := Aside0.mk hcp
  have HG2 := Aside0.mk hG2
  have HB2 := Aside0.mk hB2
  clear hcp hG2 hB2
  have HD := Aside0.mk hdC
  have HN := Aside0.mk hn
  have HROW := Aside0.mk hrow
  have HC := Aside0.mk hc0
  clear hdC hrow hc0
  go_enter Try.func54, Try.ntmps54
  go_wp2_with (first | ((with_reducible refine gate_builtin (b := .copy) (xs := #[.tmp 11, .tmp 12]) rfl ?_); refine Lib.wpList_copy_run _ rfl (.tmp 11) (.tmp 12) 55 55 rfl _ _ rfl rfl HCP.out ?_) | (go_at_call 88; refine (sortRows_call w _ HB2.out w.heap.size (Nat.le_refl _) d HG2.out (by omega)).mono ?_; rintro e w3 ⟨rfl, s, hs, hsl, hsc, hsb, hsg⟩; have HS := Aside0.mk hs; have HSL := Aside0.mk hsl; have HSC := Aside0.mk hsc; have HB := Aside0.mk hsb; have HLT := Aside0.mk hsg; clear hs hsl hsc hsb hsg HCP HG2 HB2))
  have HN2 : Aside0 (s.length = d.length) := HSL
  obtain ⟨i24, hi24, hz24, hs24, hb24⟩ := info_parts info24
  have hmk24 : ∀ (m : Nat), m < 4398046511104 → ∀ W : World, (Instr.makeSlice 54 (.int .i64 (m : Int)) (.int .i64 (m : Int))).run Try.prog W = .ok (.slice (some ⟨W.heap.size, 0, none⟩) m m) (W.alloc (.cells (madeCells #[.int .i64 0, .int .i64 0, .string ⟨#[]⟩] (m * 3)) 24)) := by
    intro m hm W
    have h := run_make_rowN (P := Try.prog) 54 24 i24 _ Try.underlying54 hi24 hz24 .i64 .i64 m m (Nat.le_refl _) (by rw [hb24]; omega) (by omega) W
    rw [hs24] at h
    exact h
  have HMK := Aside0.mk hmk24
  clear hmk24 hi24 hz24 hs24 hb24 hmk HSL
  go_loopg [4, 18] d.length (fun gk v4 v18 wr => ∃ k : Nat, k ≤ d.length ∧ d.length - k ≤ gk ∧ v18 = .int .i64 k ∧ Aside0 (Kd.S (Kd.slice 24 k24) 54 wr w.heap.size (fun b => b ≠ w.heap.size) v4 (ded none ((s.map Hdr.xs).take k))) ∧ Aside0 (wr.heap[w.heap.size]? = w3.heap[w.heap.size]?) ∧ Aside0 (w.heap.size < wr.heap.size) ∧ Aside0 (Below w.heap.size w wr))
  case atStart => exact ⟨0, Nat.zero_le _, Nat.le_refl _, rfl, ⟨Kd.S_nil _ _ _ _ _⟩, ⟨rfl⟩, HLT, HB⟩
  case round =>
    clear HB HLT
    obtain ⟨k, hk, hgk, rfl, HO, HH, HLT, HB⟩ := hrel
    by_cases hlt : k < d.length
    · have hks : k < s.length := by have := HN2.out; omega
      obtain ⟨x, hx⟩ : ∃ x, x = s[k] := ⟨_, rfl⟩
      have hck : wr.cell? ⟨w.heap.size, k, none⟩ = some (.slice x.A x.xs.length x.c) := by rw [cell_of_heap HH.out, HSC.out k hks, ← hx]; rfl
      have HX := Aside0.mk hx
      have HM : x.xs.length < 4398046511104 := by
        have h1 : x.xs ∈ (s.map Hdr.xs) := List.mem_map.2 ⟨x, by rw [hx]; exact List.getElem_mem _, rfl⟩
        rw [HS.out, List.mem_mergeSort] at h1
        exact HROW.out _ h1
      have hmx := HMK.out x.xs.length HM
      have HMX := Aside0.mk HM
      obtain ⟨O, hO⟩ : ∃ O, O = ded none ((s.map Hdr.xs).take k) := ⟨_, rfl⟩
      rw [← hO] at HO
      have HOL : Aside0 (O.length < 65536) := Aside0.mk (by rw [hO]; have h1_ := ded_len ((s.map Hdr.xs).take k) none; have h2_ := HN.out; rw [List.length_take] at h1_; omega)
      have HOE := Aside0.mk hO
      obtain ⟨Ao, co, eo⟩ := Kd.S_slice HO.out
      subst eo
      clear hx HM hO
      by_cases hk0 : k = 0
      · subst hk0
        obtain ⟨W', hcp, hR, hBW, hLW⟩ := copyRow x HB.out (madeCells #[.int .i64 0, .int .i64 0, .string ⟨#[]⟩] (x.xs.length * 3)) (size_madeCells _ _)
        have HCP := Aside0.mk hcp
        have HR := Aside0.mk hR
        have HBW := Aside0.mk hBW
        have HLW := Aside0.mk hLW
        clear hcp hR hBW hLW
        go_wp2_with (first | ((with_reducible refine gate_builtin (b := .copy) (xs := #[.tmp 38, .tmp 39]) rfl ?_); refine Lib.wpList_copy_run _ rfl (.tmp 38) (.tmp 39) 54 54 rfl _ _ rfl rfl HCP.out ?_) | ((with_reducible refine gate_builtin (b := .append) (xs := #[.tmp 41, .tmp 43]) rfl ?_); at_builtin; refine Kd.S_append (Kd.slice 24 k24) (w0 := w) w.heap.size rfl (.tmp 41) (.tmp 43) 55 54 (.slice none 0 0) 24 rfl Try.underlying55 info54 rfl (by decide) (by omega) (.slice Ao O.length co) O x.xs [.slice (some ⟨wr.heap.size, 0, none⟩) x.xs.length x.xs.length] (fun b => b ≠ w.heap.size) (fun b => b = wr.heap.size) rfl rfl ?aP ?aK ?aF ?aO ?aB ?aS ?aL ?_; (case aP => exact Kd.M_row (Kd.R_lower HR.out (Nat.le_trans HB.out.size (Nat.le_refl _)))); (case aK => rintro b rfl; exact ⟨by have := HLT.out; omega, fun e => Nat.lt_irrefl _ (Kd.S_lt HO.out _ e.symm)⟩); (case aF => intro b hb; have h1_ := HLT.out; have h2_ := HLW.out; omega); (case aO => exact Kd.S_below (Kd.S_elderB HO.out _ (Nat.le_refl _)) HBW.out); (case aB => exact below_step HB.out HBW.out); (case aS => exact (below_step HB.out HBW.out).size); (case aL => have h1_ := HOL.out; omega); intro v1 w1 ho hb hg hat; have HO1 := Aside0.mk ho; have HB1 := Aside0.mk hb; have HG1 := Aside0.mk hg; clear ho hb hg hat))
        have HNE : some w.heap.size ≠ (.slice Ao O.length co : Value).ownBlock := fun e => (Kd.S_R HO.out).1 _ e.symm rfl
        have HH1 : w1.heap[w.heap.size]? = w3.heap[w.heap.size]? := (HG1.out.block _ (by have h1_ := HLT.out; have h2_ := HLW.out; omega) HNE).trans ((HBW.out.block _ HLT.out).trans HH.out)
        have HLT1 : w.heap.size < w1.heap.size := by have h1_ := HLT.out; have h2_ := HLW.out; have h3_ := HG1.out.size; omega
        go_roundg (d.length - 1)
        case measure => omega
        case rel =>
          refine ⟨1, by omega, Nat.le_refl _, rfl, ⟨?_⟩, ⟨HH1⟩, ⟨HLT1⟩, HB1⟩
          have e := ded_take0 (s.map Hdr.xs) (by rw [List.length_map]; exact hks)
          rw [e, ← HOE.out, List.getElem_map, ← HX.out]
          exact HO1.out
      · obtain ⟨m, rfl⟩ : ∃ m, k = m + 1 := ⟨k - 1, by omega⟩
        obtain ⟨y, hy⟩ : ∃ y, y = s[m] := ⟨_, rfl⟩
        have hcy : wr.cell? ⟨w.heap.size, m, none⟩ = some (.slice y.A y.xs.length y.c) := by rw [cell_of_heap HH.out, HSC.out m (by omega), ← hy]; rfl
        have HY := Aside0.mk hy
        obtain ⟨c, hce⟩ : ∃ c, cmpL y.xs x.xs = c := ⟨_, rfl⟩
        have HCE := Aside0.mk hce
        clear hy hce hk0
        by_cases hc0 : c = 0
        · subst hc0
          go_wp2_with (first | (go_at_call 52; refine (cmp_hdrs' HB.out y x 0 HCE.out).mono ?_; rintro e w5 ⟨rfl, hb5⟩; have HB5 := Aside0.mk (below_step HB.out hb5); have HO5 := Aside0.mk (Kd.S_below HO.out hb5); have HH5 := Aside0.mk ((hb5.block _ HLT.out).trans HH.out); have HLT5 := Aside0.mk (Nat.lt_of_lt_of_le HLT.out hb5.size); clear hb5; obtain ⟨W', hcp, hR, hBW, hLW⟩ := copyRow x HB5.out (madeCells #[.int .i64 0, .int .i64 0, .string ⟨#[]⟩] (x.xs.length * 3)) (size_madeCells _ _); have HCP := Aside0.mk hcp; have HR := Aside0.mk hR; have HBW := Aside0.mk hBW; have HLW := Aside0.mk hLW; clear hcp hR hBW hLW))
          go_roundg (d.length - (m + 2))
          case measure => omega
          case rel =>
            refine ⟨m + 2, by omega, Nat.le_refl _, by go_num, ⟨?_⟩, HH5, HLT5, HB5⟩
            have e := ded_take (s.map Hdr.xs) m (by rw [List.length_map]; exact hks)
            rw [e, ← HOE.out, List.getElem_map, List.getElem_map, ← HX.out, ← HY.out, if_pos HCE.out, List.append_nil]
            exact HO5.out
        · have hc1 : (c == 0) = false := beq_eq_false_iff_ne.2 hc0
          have HC0 := Aside0.mk hc0
          clear hc0
          go_wp2_with (first | (go_at_call 52; refine (cmp_hdrs' HB.out y x c HCE.out).mono ?_; rintro e w5 ⟨rfl, hb5⟩; have HB5 := Aside0.mk (below_step HB.out hb5); have HO5 := Aside0.mk (Kd.S_below HO.out hb5); have HH5 := Aside0.mk ((hb5.block _ HLT.out).trans HH.out); have HLT5 := Aside0.mk (Nat.lt_of_lt_of_le HLT.out hb5.size); clear hb5; obtain ⟨W', hcp, hR, hBW, hLW⟩ := copyRow x HB5.out (madeCells #[.int .i64 0, .int .i64 0, .string ⟨#[]⟩] (x.xs.length * 3)) (size_madeCells _ _); have HCP := Aside0.mk hcp; have HR := Aside0.mk hR; have HBW := Aside0.mk hBW; have HLW := Aside0.mk hLW; clear hcp hR hBW hLW) | ((with_reducible refine gate_builtin (b := .copy) (xs := #[.tmp 38, .tmp 39]) rfl ?_); refine Lib.wpList_copy_run _ rfl (.tmp 38) (.tmp 39) 54 54 rfl _ _ rfl rfl HCP.out ?_) | ((with_reducible refine gate_builtin (b := .append) (xs := #[.tmp 41, .tmp 43]) rfl ?_); at_builtin; refine Kd.S_append (Kd.slice 24 k24) (w0 := w) w.heap.size rfl (.tmp 41) (.tmp 43) 55 54 (.slice none 0 0) 24 rfl Try.underlying55 info54 rfl (by decide) (by omega) (.slice Ao O.length co) O x.xs [.slice (some ⟨w5.heap.size, 0, none⟩) x.xs.length x.xs.length] (fun b => b ≠ w.heap.size) (fun b => b = w5.heap.size) rfl rfl ?aP ?aK ?aF ?aO ?aB ?aS ?aL ?_; (case aP => exact Kd.M_row (Kd.R_lower HR.out (Nat.le_trans HB5.out.size (Nat.le_refl _)))); (case aK => rintro b rfl; exact ⟨by have := HLT5.out; omega, fun e => Nat.lt_irrefl _ (Kd.S_lt HO5.out _ e.symm)⟩); (case aF => intro b hb; have h1_ := HLT5.out; have h2_ := HLW.out; omega); (case aO => exact Kd.S_below (Kd.S_elderB HO5.out _ (Nat.le_refl _)) HBW.out); (case aB => exact below_step HB5.out HBW.out); (case aS => exact (below_step HB5.out HBW.out).size); (case aL => have h1_ := HOL.out; omega); intro v1 w1 ho hb hg hat; have HO1 := Aside0.mk ho; have HB1 := Aside0.mk hb; have HG1 := Aside0.mk hg; clear ho hb hg hat))
          have HNE : some w.heap.size ≠ (.slice Ao O.length co : Value).ownBlock := fun e => (Kd.S_R HO5.out).1 _ e.symm rfl
          have HH1 : w1.heap[w.heap.size]? = w3.heap[w.heap.size]? := (HG1.out.block _ (by have h1_ := HLT5.out; have h2_ := HLW.out; omega) HNE).trans ((HBW.out.block _ HLT5.out).trans HH5.out)
          have HLT1 : w.heap.size < w1.heap.size := by have h1_ := HLT5.out; have h2_ := HLW.out; have h3_ := HG1.out.size; omega
          go_roundg (d.length - (m + 2))
          case measure => omega
          case rel =>
            refine ⟨m + 2, by omega, Nat.le_refl _, by go_num, ⟨?_⟩, ⟨HH1⟩, ⟨HLT1⟩, HB1⟩
            have e := ded_take (s.map Hdr.xs) m (by rw [List.length_map]; exact hks)
            rw [e, ← HOE.out, List.getElem_map, List.getElem_map, ← HX.out, ← HY.out, if_neg (by rw [HCE.out]; exact HC0.out)]
            exact HO1.out
    · have hkd : k = d.length := by omega
      subst hkd
      go_wp2
      go_ret
      refine ⟨_, rfl, ?_, HB.out⟩
      have e : (s.map Hdr.xs).take d.length = s.map Hdr.xs := List.take_of_length_le (by rw [List.length_map, HN2.out]; exact Nat.le_refl _)
      have h1 := HO.out
      rw [e, HS.out] at h1
      exact Kd.S_mono h1 (fun _ _ => trivial)
theorem value_Set.calls (k : Nat) (A0 : Option Addr) (c0 : Nat) (l0 : List (List (S24))) (r : List (List (S24))) (w : World) (hr0 : Kd.C (Kd.slice 24 k24) w A0 l0.length l0) (hc0 : l0.length ≤ c0) (h : value_Set.f k l0 = some r) :
    Calls Try.prog 54 #[.slice A0 l0.length c0] w fun e w' => ∃ v0_ : Value, e = .returned (v0_) ∧ Kd.S (Kd.slice 24 k24) 54 w' w.heap.size (fun _ => True) v0_ r ∧ Below w.heap.size w w' := by
  unfold value_Set.f at h
  split at h
  · rename_i hk
    cases h
    unfold okRows at hk
    rw [Bool.and_eq_true, decide_eq_true_iff, List.all_eq_true] at hk
    exact value_Set.callsS A0 c0 l0 w hr0 hc0 hk.1 (fun r hr => of_decide_eq_true (hk.2 r hr))
  · cases h
end Go.Proofs.Ytpjcdacnhalclaa.Q
