/- Function SetRow of the translation: what its call computes. -/
import Derived.Test.YtpjcdacnhalclaaK0
import Derived.Test.YtpjcdacnhalclaaHdr
import Derived.Test.YtpjcdacnhalclaaOrd
import Derived.Test.YtpjcdacnhalclaaShR
import Derived.Laws.CopyOwn
import Derived.Lib.SlBuf
namespace Go.Proofs.Ytpjcdacnhalclaa.Q
open Go.RowKit Go.Proofs.YtpjcdacnhalclaaW.PrintWords Go.Proofs.YtpjcdacnhalclaaW.PrintLast Go.Proofs.YtpjcdacnhalclaaW.PrintMore
attribute [local go_sem] max2_int min2_int max_two min_two max_three min_three max_four min_four
set_option linter.unusedVariables false
set_option linter.unusedSimpArgs false
/-! ### make, copy and sort of rows -/
theorem run_make_rowN {P : Program} (t e : TypeId) (i : TypeInfo) (z : Value) (ht : P.underlying t = some (.slice e)) (hi : P.info? e = some i) (hz : i.zero = some z)
    (kl kc : IntKind) (n c : Nat) (hnc : n ≤ c) (hbytes : i.bytes * c ≤ 281474976710656) (h63 : c ≤ 9223372036854775807) (w : World) :
    (Instr.makeSlice t (.int kl (n : Int)) (.int kc (c : Int))).run P w = .ok (.slice (some ⟨w.heap.size, 0, none⟩) n c) (w.alloc (.cells (madeCells z.cells (c * i.size)) e)) := by
  have hb : (i.bytes : Int) * (c : Int) ≤ 281474976710656 := by
    have h : ((i.bytes * c : Nat) : Int) ≤ 281474976710656 := by omega
    rwa [Int.natCast_mul] at h
  have hr := run_make (P := P) w t e i z ht hi hz kl kc n c (by omega) (by omega) hb (by omega)
  simp only [Int.toNat_natCast] at hr
  exact hr
/-- copy at elements of k cells, the whole of the source going over. -/
theorem run_copy_K {P : Program} (w : World) (dT sT ty elem : TypeId) (g n dCap sCap : Nat) (a : Addr) (cur : Array Value) (t : TypeId) (cs : List Value) (k : Nat)
    (hu : P.underlying dT = some (.slice elem)) (hs : (P.info? elem).map (·.size) = some k)
    (hg : w.heap[g]? = some (.cells cur t (0, 0))) (hn : cs.length = n * k) (hcur : cur.size = cs.length)
    (hsrc : ∀ j v, cs[j]? = some v → w.cell? (a.add j) = some v) (h1 : ∀ v ∈ cs, v.oneCell' = true) :
    (Builtin.copy_ #[dT, sT] ty #[.slice (some ⟨g, 0, none⟩) n dCap, .slice (some a) n sCap]).run P w = .ok (goInt n) (w.setRow g cs.toArray) := by
  have hl := run_loadCells_list (P := P) w a cs hsrc
  have hst := run_storeCells_at P g 0 t cs 0 cur w hg (by omega) h1
  cases hq : P.info? elem with
  | none => simp [hq] at hs
  | some i =>
    have hi : i.size = k := by simpa [hq] using hs
    have hd : List.drop (0 + 0 + cs.length) cur.toList = [] := List.drop_eq_nil_of_le (by rw [Array.length_toList]; omega)
    have hm : Nat.min n n = n := Nat.min_self n
    rw [hd] at hst
    simp only [Nat.add_zero, List.take_zero, List.nil_append, List.append_nil] at hst
    rw [hn] at hl
    simp [Builtin.copy_, run_underlying hu, Builtin.lenOf, Builtin.firstCells, sizeOf, typeInfo, hq, hi, hl, hst]
theorem run_copy_K0 {P : Program} (w : World) (dT sT ty elem : TypeId) (d a : Option Addr) (dCap sCap : Nat) (k : Nat) (hu : P.underlying dT = some (.slice elem)) (hs : (P.info? elem).map (·.size) = some k) :
    (Builtin.copy_ #[dT, sT] ty #[.slice d 0 dCap, .slice a 0 sCap]).run P w = .ok (goInt 0) w := by
  cases hq : P.info? elem with
  | none => simp [hq] at hs
  | some i =>
    have hl : ∀ (x : Addr), (loadCells x 0).run P w = .ok #[] w := fun x => by simpa using run_loadCells_list (P := P) w x [] (by simp)
    cases d <;> cases a <;> simp [Builtin.copy_, run_underlying hu, Builtin.lenOf, Builtin.firstCells, sizeOf, typeInfo, hq, storeCells, hl]
theorem below_sortWorld {α : Type} [Inhabited α] (enc : α → Value) {w W : World} (hb : Below w.heap.size w W) {g : Nat} (hg : w.heap.size ≤ g) (off m : Nat) (dk : Array α) (os : Array Obj) :
    Below w.heap.size w (sortWorld enc W g off m dk os) := by
  refine ⟨hb.os, hb.tape, hb.output, ?_, fun k hk => ?_⟩
  · have := hb.size
    show w.heap.size ≤ ((Go.Sort.putRow enc (Go.Sort.ahead W m) g off dk).heap ++ os).size
    simp only [Go.Sort.putRow, Go.Sort.mapBlock, Go.Sort.ahead, Array.size_append, Array.size_modify]
    omega
  · have h1 := hb.size
    have h2 := hb.block k hk
    show ((Go.Sort.putRow enc (Go.Sort.ahead W m) g off dk).heap ++ os)[k]? = _
    rw [Array.getElem?_append_left (by simp only [Go.Sort.putRow, Go.Sort.mapBlock, Go.Sort.ahead, Array.size_modify]; omega)]
    simp only [Go.Sort.putRow, Go.Sort.mapBlock, Go.Sort.ahead, Array.getElem?_modify]
    rw [if_neg (by omega)]
    exact h2
theorem perm_of_permIn {α : Type} [Inhabited α] {d d' : Array α} (h : Go.Sort.PermIn 0 d.size d d') : d'.toList.Perm d.toList := by
  obtain ⟨hs, _, hp⟩ := h
  have e1 : d.extract 0 d.size = d := by simp
  have e2 : d'.extract 0 d.size = d' := by rw [← hs]; simp
  rw [e1, e2] at hp
  exact hp
theorem ltOf_cmpL {w : World} (x y : Hdr w) : ltOf (fun x y : Hdr w => cmpL x.xs y.xs) x y = decide (cmpL x.xs y.xs < 0) := rfl
theorem swo_cmpL (w : World) : Go.Sort.SWO (ltOf fun x y : Hdr w => cmpL x.xs y.xs) where
  irrefl x := by rw [ltOf_cmpL, cmpL_self]; rfl
  trans x y z h k := by
    rw [ltOf_cmpL] at *
    have h := of_decide_eq_true h
    have k := of_decide_eq_true k
    have t := cmpL_le_trans (x := x.xs) (y := y.xs) (z := z.xs) (by omega) (by omega)
    refine decide_eq_true ?_
    have n := cmpL_neg x.xs z.xs
    by_cases e : cmpL x.xs z.xs = 0
    · have e' := cmpL_zero.1 e
      rw [e'] at h
      have := cmpL_neg z.xs y.xs
      omega
    · omega
  ntrans x y z h k := by
    rw [ltOf_cmpL] at *
    have h := of_decide_eq_false h
    have k := of_decide_eq_false k
    have n1 := cmpL_neg x.xs y.xs
    have n2 := cmpL_neg y.xs z.xs
    have n3 := cmpL_neg x.xs z.xs
    have t := cmpL_le_trans (x := z.xs) (y := y.xs) (z := x.xs) (by omega) (by omega)
    exact decide_eq_false (by omega)
theorem sortRows_call (w W : World) (hb : Below w.heap.size w W) (g : Nat) (hg : w.heap.size ≤ g) (d : List (Hdr w)) (hW : W.heap[g]? = some (.cells (d.map Hdr.enc).toArray 54 (0, 0))) (hsz : d.length < 4611686018427387904) :
    Calls Try.prog 88 #[.slice (some ⟨g, 0, none⟩) d.length d.length, .func (.func 52) #[] #[]] W fun e w' => e = .returned (.tuple #[]) ∧ ∃ s : List (Hdr w), s.map Hdr.xs = (d.map Hdr.xs).mergeSort leL ∧ s.length = d.length ∧
      (∀ j (h : j < s.length), w'.cell? ⟨g, j, none⟩ = some (s[j]).enc) ∧ Below w.heap.size w w' ∧ g < w'.heap.size := by
  have hlt := blk_lt hW
  have eg : ∀ args w, (callFunc 52 args).run Try.prog w = .ok (.enter 52 args) w := enters_of Try.func52 (by kernel_rfl) rfl
  have hH : Go.Sort.Holds Hdr.enc W g 0 d.toArray := by
    intro j hj
    have hj' : j < d.length := by simpa using hj
    refine ⟨?_, blk_frozen hW _⟩
    rw [blk_cell hW]
    simp [hj']
  have hcmp : CmpLays1 Try.prog 52 #[] Hdr.enc (fun x y : Hdr w => cmpL x.xs y.xs) g 0 d.toArray.size W := by
    intro m os dk _ x y
    have hb2 := below_sortWorld Hdr.enc hb hg 0 m dk os
    exact (cmp_hdrs hb2 x y).mono fun e w' ⟨he, hG⟩ => ⟨he, hG.grow⟩
  have hcon := Any.slices_SortFunc sortRows Hdr.enc (fun _ => rfl) (fun x y : Hdr w => cmpL x.xs y.xs) (swo_cmpL w) 52 #[] g 0 d.length d.toArray W eg hcmp hH hlt (by simpa using hsz)
  change Calls Try.prog 88 _ _ _ at hcon
  have e1 : d.toArray.size = d.length := by simp
  rw [e1] at hcon
  refine hcon.mono ?_
  rintro e w' ⟨he, d', m, os, hp, hs, rfl⟩
  rw [← e1] at hp hs
  have hperm := perm_of_permIn hp
  refine ⟨he, d'.toList, ?_, ?_, ?_, below_sortWorld Hdr.enc hb hg 0 m d' os, lt_sortWorld _ _ _ _ _ _ _ hlt⟩
  · refine sorted_is (by simpa using hperm.map Hdr.xs) ?_
    rw [List.pairwise_map, List.pairwise_iff_getElem]
    intro i j hi hj hij
    have h := hs i j (Nat.zero_le _) hij (by have := hp.1; simp at hj; omega)
    have hi' : i < d'.size := by simpa using hi
    have hj' : j < d'.size := by simpa using hj
    rw [ltOf_cmpL] at h
    have h := of_decide_eq_false h
    rw [getElem!_pos d' i hi', getElem!_pos d' j hj'] at h
    have n := cmpL_neg (d'[i]).xs (d'[j]).xs
    simp only [Array.getElem_toList]
    exact decide_eq_true (by omega)
  · have := hp.1; simpa using this
  · intro j hj
    have hj' : j < d'.size := by simpa using hj
    have h := holds_sortWorld Hdr.enc W g 0 m d.toArray d' os hlt hH hp.1 j hj'
    have h1 := h.1
    rw [Nat.zero_add, getElem!_pos d' j hj'] at h1
    rw [h1]
    simp
end Go.Proofs.Ytpjcdacnhalclaa.Q
