/- A part of a proof: facts of functions that the law calls; conditions stand in each. -/
import Derived.Test.YtpjcdacnhalclaaV6x2
import Derived.Test.YtpjcdacnhalclaaV6x4
import Derived.Shelf.SlSortCmp.WholeK
import Derived.Lib.SlicesCompact
import Derived.Lib.SliceRun
import Derived.Deep.LoopGhost
import Derived.Deep.Draws
import Derived.Shelf.RegionOpenPlain
import Derived.Lib.SlBuf
set_option linter.unusedVariables false
set_option linter.unusedSimpArgs false
namespace Go.Proofs.Ytpjcdacnhalclaa.Q
open Go.RowKit Go.Proofs.YtpjcdacnhalclaaW.PrintWords Go.Proofs.YtpjcdacnhalclaaW.PrintLast Go.Proofs.YtpjcdacnhalclaaW.PrintMore
attribute [local go_sem] max2_int min2_int max_two min_two max_three min_three max_four min_four
open Go.Sort
def leV (x y : S24) : Bool := decide (cmpV x y ≤ 0)
theorem leV_trans (x y z : S24) (h : leV x y = true) (k : leV y z = true) : leV x z = true := decide_eq_true (cmpV_le_trans (of_decide_eq_true h) (of_decide_eq_true k))
theorem leV_total (x y : S24) : (leV x y || leV y x) = true := by
 have := cmpV_neg x y
 unfold leV
 by_cases h : cmpV x y ≤ 0
 rotate_left
 ·have : cmpV y x ≤ 0 := by omega
  simp [this]
 simp [h]
theorem leV_antisymm {x y : S24} (h : leV x y = true) (k : leV y x = true) : x = y := by
 have h := of_decide_eq_true h
 have k := of_decide_eq_true k
 have := cmpV_neg x y
 exact cmpV_zero.1 (by omega)
theorem sortedV_is {l l' : List S24} (hp : l'.Perm l) (hs : l'.Pairwise (fun a b => leV a b = true)) : l' = l.mergeSort leV :=
 List.Perm.eq_of_pairwise (le := fun a b => leV a b = true) (fun _ _ _ _ h k => leV_antisymm h k) hs (List.pairwise_mergeSort leV_trans leV_total l) (hp.trans (List.mergeSort_perm l leV).symm)
instance : Inhabited S24 := ⟨z24⟩
def enc24 (x : S24) : List Value := [.int .i64 x.f0, .int .i64 x.f1, .string x.f2]
theorem ltOf_cmpV (x y : S24) : ltOf cmpV x y = decide (cmpV x y < 0) := rfl
theorem swo_cmpV : Go.Sort.SWO (ltOf cmpV) where
 irrefl x := by rw [ltOf_cmpV, cmpV_zero.2 rfl]; rfl
 trans x y z h k := by
  rw [ltOf_cmpV] at *
  exact decide_eq_true (cmpV_lt.2 (ltV_trans (cmpV_lt.1 (of_decide_eq_true h)) (cmpV_lt.1 (of_decide_eq_true k))))
 ntrans x y z h k := by
  rw [ltOf_cmpV] at *
  have h := of_decide_eq_false h
  have k := of_decide_eq_false k
  have n1 := cmpV_neg x y
  have n2 := cmpV_neg y z
  have n3 := cmpV_neg x z
  have t := cmpV_le_trans (x := z) (y := y) (z := x) (by omega) (by omega)
  exact decide_eq_false (by omega)
theorem flat24 (l : List S24) : flatK enc24 3 l.toArray = (cells24 l).toArray := by
 refine ext_get! (by rw [size_flatK]; simp [cells24_length]) fun t ht => ?_
 have ht' : t < l.length * 3 := by rw [size_flatK] at ht; simpa using ht
 rw [get_flatK _ _ _ t (by simpa using ht')]
 have hq : t / 3 < l.length := by omega
 have h := cells24_at l (t / 3) hq
 have hl := cells24_length l
 rw [getElem!_pos l.toArray (t / 3) (by simpa using hq), List.getElem_toArray]
 rw [getElem!_pos (cells24 l).toArray t (by simp [hl]; omega), List.getElem_toArray]
 have h1 : (cells24 l)[t]? = (enc24 l[t / 3])[t % 3]? := by
  have := congrArg (fun z : List Value => z[t % 3]?) h
  simp only [List.getElem?_take, List.getElem?_drop] at this
  rw [if_pos (by omega), show t / 3 * 3 + t % 3 = t by omega] at this
  exact this
 have h3 : t % 3 < (enc24 l[t / 3]).length := by show t % 3 < 3; omega
 rw [getElem!_pos (enc24 l[t / 3]) (t % 3) h3]
 rw [List.getElem?_eq_getElem (by rw [hl]; omega), List.getElem?_eq_getElem h3] at h1
 exact (Option.some.inj h1).symm
theorem putCells_own (n : Nat) (cs : List Value) (cur : Array Value) (hn : cs.length ≤ cur.size) :
  (Go.Sort.putCells id 0 cs.toArray cur).size = cur.size ∧ (Go.Sort.putCells id 0 cs.toArray cur).toList.take cs.length = cs := by
 refine ⟨by simp [Go.Sort.putCells], ?_⟩
 apply List.ext_getElem?
 intro t
 rw [List.getElem?_take]
 by_cases ht : t < cs.length
 rotate_left
 ·rw [if_neg ht, List.getElem?_eq_none (by omega)]
 rw [if_pos ht]
 simp only [Go.Sort.putCells, Array.getElem?_toList, Array.getElem?_mapIdx]
 rw [Array.getElem?_eq_getElem (by omega)]
 simp [ht]
theorem own24 {W : World} {base g cap : Nat} {cur : Array Value} {l : List S24} {P : Nat → Prop} (hg : base ≤ g) (hW : W.heap[g]? = some (.cells cur 24 (0, 0))) (hl : l.length ≤ cap) (hm : cap ≤ maxLen) (hs : cur.size = cap * 3) (hc : cur.toList.take (l.length * 3) = cells24 l) (hP : P g) :
  Kd.R k24 24 W base P (.slice (some ⟨g, 0, none⟩) l.length cap) l := by
 have hfl := cells24_length l
 refine ⟨fun k hk => by simp only [Value.ownBlock, Option.some.injEq] at hk; subst hk; exact hP, cells24 l, ⟨hfl, .inr ⟨_, _, _, rfl, hg, hW, hl, hm, hs, hc⟩⟩, hfl, ?_⟩
 intro j p hj
 obtain ⟨hj', rfl⟩ := List.getElem?_eq_some_iff.1 hj
 show k24.M _ _ _ _ ((List.drop (j * 3) (cells24 l)).take 3)
 rw [cells24_at l j hj']
 exact k24_mkM _ _ _ _
theorem own24_open {W : World} {base : Nat} {P : Nat → Prop} {u : Value} {l : List S24} (h : Kd.R k24 24 W base P u l) (hne : l ≠ []) :
  ∃ g cap cur, u = .slice (some ⟨g, 0, none⟩) l.length cap ∧ base ≤ g ∧ W.heap[g]? = some (.cells cur 24 (0, 0)) ∧ l.length ≤ cap ∧ cap ≤ maxLen ∧ cur.size = cap * 3 ∧ cur.toList.take (l.length * 3) = cells24 l ∧ P g := by
 obtain ⟨h0, inner, ⟨hil, ho⟩, hr1, hr2⟩ := h
 rcases ho with ⟨_, hn⟩ | ⟨g, cap, cur, rfl, hg, hW, hlc, hm, hs, hc⟩
 ·exact absurd (List.eq_nil_of_length_eq_zero hn) hne
 ·refine ⟨g, cap, cur, rfl, hg, hW, hlc, hm, hs, ?_, h0 g rfl⟩
  have hc' : cur.toList.take (l.length * 3) = inner := hc
  rw [hc']
  have hil' : inner.length = l.length * 3 := hr1
  refine List.ext_getElem? fun t => ?_
  by_cases ht : t < l.length * 3
  rotate_left
  ·rw [List.getElem?_eq_none (by omega), List.getElem?_eq_none (by rw [cells24_length]; omega)]
  have hq : t / 3 < l.length := by omega
  have e1 := k24_openM (hr2 (t / 3) _ (List.getElem?_eq_getElem hq))
  have e2 := cells24_at l (t / 3) hq
  have e3 : (inner.drop (t / 3 * 3)).take 3 = ((cells24 l).drop (t / 3 * 3)).take 3 := by rw [e2]; exact e1
  have := congrArg (fun z : List Value => z[t % 3]?) e3
  simp only [List.getElem?_take, List.getElem?_drop] at this
  rwa [if_pos (by omega), if_pos (by omega), show t / 3 * 3 + t % 3 = t by omega] at this
theorem heap_sortK {α : Type} [Inhabited α] (enc : α → List Value) (k : Nat) (W : World) (g m : Nat) (d : Array α) (os : Array Obj) (hg : g < W.heap.size) :
  W.heap.size ≤ (sortWorldK enc k W g 0 m d os).heap.size ∧ (∀ i, i < W.heap.size → i ≠ g → (sortWorldK enc k W g 0 m d os).heap[i]? = W.heap[i]?) ∧
   ∀ cur, W.heap[g]? = some (.cells cur 24 (0, 0)) → (sortWorldK enc k W g 0 m d os).heap[g]? = some (.cells (Go.Sort.putCells id 0 (flatK enc k d) cur) 24 (0, 0)) := by
 refine ⟨?_, fun i hi hne => ?_, fun cur hc => ?_⟩
 ·show W.heap.size ≤ ((Go.Sort.putRow id (Go.Sort.ahead W m) g 0 (flatK enc k d)).heap ++ os).size
  simp only [Go.Sort.putRow, Go.Sort.mapBlock, Go.Sort.ahead, Array.size_append, Array.size_modify]
  omega
 ·show ((Go.Sort.putRow id (Go.Sort.ahead W m) g 0 (flatK enc k d)).heap ++ os)[i]? = _
  rw [Array.getElem?_append_left (by simp only [Go.Sort.putRow, Go.Sort.mapBlock, Go.Sort.ahead, Array.size_modify]; omega)]
  simp only [Go.Sort.putRow, Go.Sort.mapBlock, Go.Sort.ahead, Array.getElem?_modify]
  rw [if_neg (by omega)]
 ·show ((Go.Sort.putRow id (Go.Sort.ahead W m) g 0 (flatK enc k d)).heap ++ os)[g]? = _
  rw [Array.getElem?_append_left (by simp only [Go.Sort.putRow, Go.Sort.mapBlock, Go.Sort.ahead, Array.size_modify]; omega)]
  simp only [Go.Sort.putRow, Go.Sort.mapBlock, Go.Sort.ahead, Array.getElem?_modify]
  rw [if_pos trivial, hc]
  rfl
theorem perm_of_permIn' {α : Type} [Inhabited α] {d d' : Array α} (h : Go.Sort.PermIn 0 d.size d d') : d'.toList.Perm d.toList := by
 obtain ⟨hs, _, hp⟩ := h
 have e1 : d.extract 0 d.size = d := by simp
 have e2 : d'.extract 0 d.size = d' := by rw [← hs]; simp
 rw [e1, e2] at hp
 exact hp
theorem below_but {w0 w w' : World} (hB : Below w0.heap.size w0 w) {g : Nat} (hg : w0.heap.size ≤ g) (hs : w.heap.size ≤ w'.heap.size) (hk : ∀ i, i < w.heap.size → i ≠ g → w'.heap[i]? = w.heap[i]?) (h1 : w'.os = w.os) (h2 : w'.tape = w.tape) (h3 : w'.output = w.output) : Below w0.heap.size w0 w' := by
 have h0 := hB.size
 exact ⟨h1.trans hB.os, h2.trans hB.tape, h3.trans hB.output, by omega, fun k hk' => (hk k (by omega) (by omega)).trans (hB.block k hk')⟩
def a_99.f (l0 : List S24) : Option (List S24) := if l0 = [] then none else if l0.length < 4611686018427387904 then some (l0.mergeSort leV) else none
theorem a_99.calls (P0_ : Nat → Prop) (u9000_ : Value) (l0 : List (S24)) (r : List (S24)) (w0 w : World) (hB : Below w0.heap.size w0 w) (ho0 : Kd.R k24 24 w w0.heap.size P0_ u9000_ l0) (h : a_99.f l0 = some r) :
  Calls Try.prog 99 #[u9000_, .func (.func 25) #[] #[]] w fun e w' => e = .returned (.tuple #[]) ∧ Kd.R k24 24 w' w0.heap.size (fun k_ => (P0_ k_ ∨ w.heap.size ≤ k_)) u9000_ r ∧ Below w0.heap.size w0 w' ∧ Kept w w' (fun k_ => P0_ k_) := by
 unfold a_99.f at h
 by_cases hne : l0 = []
 ·rw [if_pos hne] at h; exact absurd h (by simp)
 rw [if_neg hne] at h
 by_cases hsz : l0.length < 4611686018427387904
 rotate_left
 ·rw [if_neg hsz] at h; exact absurd h (by simp)
 rw [if_pos hsz] at h
 obtain rfl := Option.some.inj h
 obtain ⟨g, cap, cur, rfl, hg, hW, hlc, hm, hs, hc, hP⟩ := own24_open ho0 hne
 have hlt := blk_lt hW
 have hcl : (cells24 l0).length = l0.length * 3 := cells24_length l0
 have eg : ∀ args w, (callFunc 25 args).run Try.prog w = .ok (.enter 25 args) w := enters_of Try.func25 (by kernel_rfl) rfl
 have hH : HoldsK enc24 3 w g 0 l0.toArray := by
  intro j hj
  rw [flat24] at hj ⊢
  have hj' : j < l0.length * 3 := by rw [← hcl]; simpa using hj
  refine ⟨?_, blk_frozen hW _⟩
  rw [blk_cell hW, Nat.zero_add]
  have h1 : cur.toList[j]? = (cells24 l0)[j]? := by rw [← hc, List.getElem?_take, if_pos hj']
  rw [← Array.getElem?_toList, h1, List.getElem?_eq_getElem (by omega)]
  simp [hj', hcl]
 have hcmp : CmpLays Try.prog 25 #[] enc24 3 cmpV g 0 l0.toArray.size w := by
  intro m os dk _ x y
  exact (v_Compare.callsG x.f0 x.f1 x.f2 y.f0 y.f1 y.f2 _ _ (v_Compare.some_ x y)).mono fun e w' ⟨he, hG⟩ => ⟨he, hG.grow⟩
 have hcon := AnyQ.slices_SortFunc sortVals 3 Try.isAgg24 Try.sizeOf24 enc24 (fun _ => rfl) (fun x v hv => by simp [enc24] at hv; rcases hv with rfl | rfl | rfl <;> rfl) cmpV swo_cmpV 25 #[] g 0 cap l0.toArray w eg hcmp hH hlt (by simpa using hsz)
 change Calls Try.prog 99 _ _ _ at hcon
 rw [show l0.toArray.size = l0.length by simp] at hcon
 refine hcon.mono ?_
 rintro e w' ⟨he, d', m, os, hp, hsd, rfl⟩
 have hpp := perm_of_permIn' (d := l0.toArray) (by simpa using hp)
 have hsz' : d'.size = l0.length := by have := hpp.length_eq; simpa using this
 have hsort : d'.toList = l0.mergeSort leV := by
  refine sortedV_is (by simpa using hpp) ?_
  rw [List.pairwise_iff_getElem]
  intro i j hi hj hij
  have h := hsd i j (Nat.zero_le _) hij (by simp at hj; omega)
  have hi' : i < d'.size := by simpa using hi
  have hj' : j < d'.size := by simpa using hj
  rw [ltOf_cmpV] at h
  have h := of_decide_eq_false h
  rw [getElem!_pos d' i hi', getElem!_pos d' j hj'] at h
  have n := cmpV_neg (d'[i]) (d'[j])
  simp only [Array.getElem_toList]
  exact decide_eq_true (by omega)
 obtain ⟨k1, k2, k3⟩ := heap_sortK enc24 3 w g m d' os hlt
 have k3 := k3 cur hW
 have hfd : flatK enc24 3 d' = (cells24 (l0.mergeSort leV)).toArray := by rw [← hsort, ← flat24]
 rw [hfd] at k3
 have hlen : (l0.mergeSort leV).length = l0.length := List.length_mergeSort l0
 have hcl2 : (cells24 (l0.mergeSort leV)).length = l0.length * 3 := by rw [cells24_length, hlen]
 obtain ⟨q1, q2⟩ := putCells_own l0.length (cells24 (l0.mergeSort leV)) cur (by rw [hcl2, hs]; exact Nat.mul_le_mul_right _ hlc)
 refine ⟨he, ?_, below_but hB hg k1 k2 rfl rfl rfl, k1, fun i hi hn => k2 i hi (fun e => hn (e ▸ hP))⟩
 have := own24 (l := l0.mergeSort leV) (P := fun k_ => P0_ k_ ∨ w.heap.size ≤ k_) (cap := cap) hg k3 (by rw [hlen]; exact hlc) hm (by rw [q1]; exact hs) (by rw [hlen, ← hcl2]; exact q2) (.inl hP)
 rwa [hlen] at this
end Go.Proofs.Ytpjcdacnhalclaa.Q
namespace Go.Proofs.Ytpjcdacnhalclaa.Q
open Go.RowKit Go.Proofs.YtpjcdacnhalclaaW.PrintWords Go.Proofs.YtpjcdacnhalclaaW.PrintLast Go.Proofs.YtpjcdacnhalclaaW.PrintMore
attribute [local go_sem] max2_int min2_int max_two min_two max_three min_three max_four min_four
open Go.Sort Go.Lib Go.Shelf
attribute [local go_sem high] eqA24
instance : DecidableEq S24 := fun x y => decidable_of_iff (cmpV x y = 0) cmpV_zero
theorem eqV3 {x y : S24} (h : x ≠ y) : (x.f0 == y.f0 && (x.f1 == y.f1 && (x.f2.toList == y.f2.toList))) = false := by
 rw [Bool.eq_false_iff]
 intro hh
 simp only [Bool.and_eq_true, beq_iff_eq] at hh
 exact h (S24.ext_ hh.1 hh.2.1 hh.2.2)
theorem setMany_set (d : Array S24) (i : Nat) (x : S24) (hi : i < d.size) : setMany (flatK enc24 3 d) (i * 3) (enc24 x) = flatK enc24 3 (d.setIfInBounds i x) := by
 refine ext_get! (by simp) fun t ht => ?_
 have ht' : t < d.size * 3 := by simpa using ht
 rw [get_setMany _ _ _ t (by simpa using ht'), get_flatK _ _ _ t ht', get_flatK _ _ _ t (by simpa using ht')]
 have hl : (enc24 x).length = 3 := rfl
 rw [hl]
 by_cases a : t / 3 = i
 rotate_left
 ·rw [if_neg (fun h => a ((blk_iff 3 i t (by omega)).1 h)), getElem!_set_other d i (t / 3) x a]
 rw [if_pos ((blk_iff 3 i t (by omega)).2 a), a, getElem!_set_same d i x hi]
 rw [show t - i * 3 = t % 3 by omega]
theorem store24 {w wr : World} {q g : Nat} {dk : Array S24} (i : Nat) (x : S24) (hi : i < dk.size) (hwr : wr = putRowK enc24 3 (Sort.ahead w q) g 0 dk) :
  ((wr.setCell ⟨g, i * 3, none⟩ (.int .i64 x.f0)).setCell ⟨g, i * 3 + 1, none⟩ (.int .i64 x.f1)).setCell ⟨g, i * 3 + 2, none⟩ (.string x.f2) = putRowK enc24 3 (Sort.ahead w q) g 0 (dk.setIfInBounds i x) := by
 subst hwr
 have h := setCells_putRow (Sort.ahead w q) g 0 (enc24 x) (i * 3) (flatK enc24 3 dk) (by rw [size_flatK]; show i * 3 + 3 ≤ _; omega)
 rw [setMany_set dk i x hi, Nat.zero_add] at h
 exact h
theorem cells_at {W : World} {g : Nat} {d : Array S24} (h : HoldsK enc24 3 W g 0 d) (i : Nat) (hi : i < d.size) :
  W.cell? ⟨g, i * 3, none⟩ = some (.int .i64 d[i]!.f0) ∧ W.cell? ⟨g, i * 3 + 1, none⟩ = some (.int .i64 d[i]!.f1) ∧ W.cell? ⟨g, i * 3 + 2, none⟩ = some (.string d[i]!.f2) ∧
   W.frozen? ⟨g, i * 3, none⟩ = false ∧ W.frozen? ⟨g, i * 3 + 1, none⟩ = false ∧ W.frozen? ⟨g, i * 3 + 2, none⟩ = false := by
 have h0 := h.cell (i := i) (c := 0) hi (by omega)
 have h1 := h.cell (i := i) (c := 1) hi (by omega)
 have h2 := h.cell (i := i) (c := 2) hi (by omega)
 rw [Nat.zero_add] at h0 h1 h2
 exact ⟨h0.1, h1.1, h2.1, h0.2, h1.2, h2.2⟩
theorem run_clear24 (w : World) (ty : TypeId) (b o n c : Nat) (hn : 0 < n) (hc : ∀ j, j < n * 3 → (w.cell? ⟨b, o + j, none⟩).isSome = true) (hf : ∀ j, j < n * 3 → w.frozen? ⟨b, o + j, none⟩ = false) :
  ∃ cs : List Value, cs.length = n * 3 ∧ (Builtin.clear_ #[31] ty #[.slice (some ⟨b, o, none⟩) n c]).run Try.prog w = .ok (.tuple #[]) (w.setCells b o cs) := by
 have hv : ∀ w, (zeroValue 24).run Try.prog w = .ok (.agg #[.int .i64 0, .int .i64 0, .string ⟨#[]⟩]) w := Try.zeroValue24
 obtain ⟨cs, hcs⟩ : ∃ cs, cs = (Builtin.zeroCells (Value.agg #[.int .i64 0, .int .i64 0, .string ⟨#[]⟩]).cells n).toList := ⟨_, rfl⟩
 have hl : cs.length = n * 3 := by rw [hcs]; simp [Builtin.zeroCells, Value.cells]
 have h1 : ∀ v ∈ cs, v.oneCell' = true := by
  intro v hv'
  rw [hcs] at hv'
  simp only [Builtin.zeroCells, Value.cells] at hv'
  simp at hv'
  obtain ⟨i, hi, rfl⟩ := hv'
  have h3 : i % 3 = 0 ∨ i % 3 = 1 ∨ i % 3 = 2 := by omega
  rcases h3 with h3 | h3 | h3 <;> simp [h3, Value.oneCell']
 have hst := run_storeCells_cells (P := Try.prog) b o cs 0 w (by rw [hl]; simpa using hc) (by rw [hl]; simpa using hf) h1
 simp only [Nat.add_zero] at hst
 obtain ⟨m, rfl⟩ : ∃ m, n = m + 1 := ⟨n - 1, by omega⟩
 refine ⟨cs, hl, ?_⟩
 simp [Builtin.clear_, run_underlying Try.underlying31, hv, ← hcs, hst]
theorem heap_putRow (W : World) (g : Nat) (F : Array Value) :
  (putRow id W g 0 F).heap.size = W.heap.size ∧ (∀ i, i ≠ g → (putRow id W g 0 F).heap[i]? = W.heap[i]?) ∧
   ∀ cur, W.heap[g]? = some (.cells cur 24 (0, 0)) → (putRow id W g 0 F).heap[g]? = some (.cells (putCells id 0 F cur) 24 (0, 0)) := by
 refine ⟨by simp [putRow, mapBlock], fun i hne => ?_, fun cur hc => ?_⟩
 ·simp only [putRow, mapBlock, Array.getElem?_modify]
  rw [if_neg (by omega)]
 ·simp only [putRow, mapBlock, Array.getElem?_modify]
  rw [if_pos trivial, hc]
  rfl
def dedV (l : List S24) : List S24 := compactUpTo l.toArray l.length
def a_100.f (l0 : List S24) : Option (List S24) := if l0.length < 4611686018427387904 then some (dedV l0) else none
set_option maxHeartbeats 8000000 in
set_option maxRecDepth 100000 in
theorem a_100.calls (P0_ : Nat → Prop) (u9000_ : Value) (l0 : List (S24)) (r : List (S24)) (w0 w : World) (hB : Below w0.heap.size w0 w) (ho0 : Kd.R k24 24 w w0.heap.size P0_ u9000_ l0) (h : a_100.f l0 = some r) :
  Calls Try.prog 100 #[u9000_] w fun e w' => ∃ v0_ : Value, e = .returned (v0_) ∧ Kd.R k24 24 w' w0.heap.size (fun k_ => (P0_ k_ ∨ w.heap.size ≤ k_)) v0_ r ∧ Below w0.heap.size w0 w' ∧ Kept w w' (fun k_ => P0_ k_) := by
 unfold a_100.f at h
 by_cases hsz : l0.length < 4611686018427387904
 rotate_left
 ·rw [if_neg hsz] at h; exact absurd h (by simp)
 rw [if_pos hsz] at h
 obtain rfl := Option.some.inj h
 have same : ∀ (W : World), W.heap = w.heap → W.os = w.os → W.tape = w.tape → W.output = w.output → dedV l0 = l0 → Kd.R k24 24 W w0.heap.size (fun k_ => (P0_ k_ ∨ w.heap.size ≤ k_)) u9000_ (dedV l0) ∧ Below w0.heap.size w0 W ∧ Kept w W (fun k_ => P0_ k_) := by
  intro W e1 e2 e3 e4 e5
  rw [e5]
  refine ⟨Kd.R_move (Kd.R_mono ho0 (fun _ hk => .inl hk)) (fun k _ => by rw [e1]), below_but hB (g := w0.heap.size) (Nat.le_refl _) (by rw [e1]; exact Nat.le_refl _) (fun i _ _ => by rw [e1]) e2 e3 e4, by rw [e1]; exact Nat.le_refl _, fun i _ _ => by rw [e1]⟩
 have HS := Aside0.mk same
 by_cases h2 : l0.length < 2
 rotate_left
 ·have hne : l0 ≠ [] := by rintro rfl; simp at h2
  obtain ⟨g, cap, cur, rfl, hg, hW, hlc, hm, hs, hc, hP⟩ := own24_open ho0 hne
  obtain ⟨d, hd⟩ : ∃ d, d = l0.toArray := ⟨_, rfl⟩
  have hds : d.size = l0.length := by rw [hd]; simp
  have hH : HoldsK enc24 3 w g 0 d := by
   intro j hj
   rw [hd, flat24] at hj ⊢
   have hcl : (cells24 l0).length = l0.length * 3 := cells24_length l0
   have hj' : j < l0.length * 3 := by rw [← hcl]; simpa using hj
   refine ⟨?_, blk_frozen hW _⟩
   rw [blk_cell hW, Nat.zero_add]
   have h1 : cur.toList[j]? = (cells24 l0)[j]? := by rw [← hc, List.getElem?_take, if_pos hj']
   rw [← Array.getElem?_toList, h1, List.getElem?_eq_getElem (by omega)]
   simp [hj', hcl]
  have hfin : ∀ (q kk : Nat) (dk : Array S24) (F : Array Value), CompInv d d.size kk dk → F.size = d.size * 3 → (∀ t, t < kk * 3 → F[t]! = (flatK enc24 3 dk)[t]!) →
    Kd.R k24 24 (putRow id (Sort.ahead w q) g 0 F) w0.heap.size (fun k_ => (P0_ k_ ∨ w.heap.size ≤ k_)) (.slice (some ⟨g, 0, none⟩) kk cap) (dedV l0) ∧ Below w0.heap.size w0 (putRow id (Sort.ahead w q) g 0 F) ∧ Kept w (putRow id (Sort.ahead w q) g 0 F) (fun k_ => P0_ k_) := by
   intro q kk dk F hI hF hFk
   obtain ⟨k1, k2, k3⟩ := heap_putRow (Sort.ahead w q) g F
   have k3 := k3 cur hW
   have hlen : (dedV l0).length = kk := by unfold dedV; rw [← hd, ← hds]; exact hI.len
   have hlt := hI.lt
   obtain ⟨q1, q2⟩ := putCells_own l0.length F.toList cur (by simp only [Array.length_toList]; rw [hF, hds, hs]; exact Nat.mul_le_mul_right _ hlc)
   rw [Array.toArray_toList] at q1 q2
   refine ⟨?_, below_but hB hg (Nat.le_of_eq k1.symm) (fun i _ hne => k2 i hne) rfl rfl rfl, Nat.le_of_eq k1.symm, fun i _ hn => k2 i (fun e => hn (e ▸ hP))⟩
   have hfl : F.toList.take (kk * 3) = cells24 (dedV l0) := by
    refine List.ext_getElem? fun t => ?_
    rw [List.getElem?_take]
    by_cases ht : t < kk * 3
    rotate_left
    ·rw [if_neg ht, List.getElem?_eq_none (by rw [cells24_length, hlen]; omega)]
    have hds' := hI.size
    rw [if_pos ht, Array.getElem?_toList, Array.getElem?_eq_getElem (by rw [hF]; omega)]
    have e1 := hFk t ht
    rw [getElem!_pos F t (by rw [hF]; omega), get_flatK _ _ _ t (by omega)] at e1
    have e2 := hI.low (t / 3) (by omega)
    have e3 : (dedV l0)[t / 3]? = some dk[t / 3]! := by unfold dedV; rw [← hd, ← hds]; exact e2
    obtain ⟨hq, e4⟩ := List.getElem?_eq_some_iff.1 e3
    have e5 := cells24_at (dedV l0) (t / 3) hq
    rw [e4] at e5
    have := congrArg (fun z : List Value => z[t % 3]?) e5
    simp only [List.getElem?_take, List.getElem?_drop] at this
    rw [if_pos (by omega), show t / 3 * 3 + t % 3 = t by omega] at this
    rw [this, e1]
    have h3 : t % 3 < (enc24 dk[t / 3]!).length := by show t % 3 < 3; omega
    rw [getElem!_pos (enc24 dk[t / 3]!) (t % 3) h3]
    exact (List.getElem?_eq_getElem h3).symm
   have := own24 (l := dedV l0) (P := fun k_ => P0_ k_ ∨ w.heap.size ≤ k_) (cap := cap) hg k3 (by rw [hlen]; omega) hm (by rw [q1]; exact hs) (by
    rw [hlen]
    have e := congrArg (List.take (kk * 3)) q2
    rw [List.take_take, Nat.min_eq_left (by simp only [Array.length_toList]; rw [hF]; omega)] at e
    rw [e, hfl]) (.inl hP)
   rwa [hlen] at this
  have HFIN := Aside0.mk hfin
  have HH := Aside0.mk hH
  have HDS := Aside0.mk hds
  have HD : Aside0 ((∀ j, j < d.size → keeps d j = true) → dedV l0 = l0) := aK (by
   intro hall
   unfold dedV
   rw [← hd, ← hds, compactUpTo_all d _ hall, range_map_get, hd])
  obtain ⟨n, hn⟩ : ∃ n, n = l0.length := ⟨_, rfl⟩
  have HN : Aside0 (d.size = n) := aK (by rw [hn]; exact hds)
  have hcapn : n ≤ cap := by rw [hn]; exact hlc
  have hcm := hm
  clear hfin hH hds hd hc hs hW ho0 hB same hg hP hm hlc hne
  rw [← hn] at hsz h2 ⊢ HS
  clear hn
  have mixed := sortVals.mixed
  go_enter Try.func100, Try.ntmps100
  go_wp2
  go_loopg [3] n (fun gk s3 wr => ∃ k q : Nat, 1 ≤ k ∧ k ≤ n ∧ n - k ≤ gk ∧ s3 = .int .i64 k ∧ wr = w.drewN q ∧ Aside0 (∀ j, j < k → keeps d j = true))
  case atStart => exact ⟨1, 0, Nat.le_refl _, by omega, by omega, rfl, rfl, ⟨keeps_lt_one d⟩⟩
  case round =>
   obtain ⟨k, q, hk1, hk, hgk, rfl, rfl, A⟩ := hrel
   by_cases hlt : k < n
   rotate_left
   ·have hkn : k = n := by omega
    have HDE := aK (HD.out (fun j hj => A.out j (by have := HN.out; omega)))
    subst hkn
    clear hlt
    go_wp2
    go_ret
    exact ⟨_, rfl, HS.out _ rfl rfl rfl rfl HDE.out⟩
   obtain ⟨c10, c11, c12, f10, f11, f12⟩ := cells_at HH.out k (by have := HN.out; omega)
   obtain ⟨c00, c01, c02, f00, f01, f02⟩ := cells_at HH.out (k - 1) (by have := HN.out; omega)
   generalize hx : d[k]! = x at c10 c11 c12
   generalize hy : d[k - 1]! = y at c00 c01 c02
   have B : Aside0 (d[k]! = x ∧ d[k - 1]! = y) := ⟨⟨hx, hy⟩⟩
   clear hx hy
   by_cases hdup : x = y
   rotate_left
   ·have hne3 := eqV3 hdup
    have HUV := Aside0.mk hdup
    clear hdup
    go_wp2_with fail
    go_region_o
    go_wp2
    go_roundg (n - (k + 1))
    case measure => omega
    case rel =>
     refine ⟨k + 1, q + 1, by omega, by omega, Nat.le_refl _, by go_num, rfl, ⟨fun j hj => ?_⟩⟩
     by_cases e : j = k
     rotate_left
     ·exact A.out j (by omega)
     subst e
     exact keeps_pos (by rw [B.out.1, B.out.2]; exact HUV.out)
   subst hdup
   go_wp2_with fail
   go_region_o
   go_wp2
   clear c00 c01 c02 c10 c11 c12 f00 f01 f02 f10 f11 f12
   have hst0 : CompInv d (k + 1) k d := CompInv.start A.out (keeps_neg (by omega) (by rw [B.out.1, B.out.2]))
   have HST := Aside0.mk hst0
   clear hst0
   go_loopg [3, 5] n (fun gk s3 s5 wr => ∃ (kk k2 q2 : Nat) (dk : Array S24), s3 = .int .i64 kk ∧ s5 = .int .i64 k2 ∧ 1 ≤ k2 ∧ k + k2 ≤ n ∧ n - (k + k2) ≤ gk ∧ wr = putRowK enc24 3 (Sort.ahead w q2) g 0 dk ∧ Aside0 (CompInv d (k + k2) kk dk) ∧ kk < k + k2)
   case atStart => exact ⟨k, 1, q + 1, d, rfl, rfl, Nat.le_refl _, by omega, by omega, (putRowK_self enc24 3 (Sort.ahead w (q + 1)) g 0 d (holdsK_ahead enc24 3 w (q + 1) g 0 d HH.out)).symm, HST, by omega⟩
   case round =>
    obtain ⟨kk, k2, q2, dk, rfl, rfl, h1, hle, hg2, hwr, I2, hkk⟩ := hrel
    have hHk : HoldsK enc24 3 wr g 0 dk := by rw [hwr]; exact holdsK_putRowK enc24 3 _ g 0 d dk (holdsK_ahead enc24 3 w q2 g 0 d HH.out) I2.out.size
    have W2 := Aside0.mk hwr
    have hdk : dk.size = n := I2.out.size.trans HN.out
    have HDK := Aside0.mk hdk
    clear hwr
    by_cases hlt2 : k + k2 < n
    rotate_left
    ·have hend : k + k2 = n := by omega
     obtain ⟨cs, hcl, hclr⟩ := run_clear24 wr 0 g (kk * 3) (n - kk) (cap - kk) (by omega) (fun j hj => by
       have h := cells_at hHk (kk + j / 3) (by omega)
       have h3 : j % 3 = 0 ∨ j % 3 = 1 ∨ j % 3 = 2 := by omega
       rcases h3 with h3 | h3 | h3
       ·rw [show kk * 3 + j = (kk + j / 3) * 3 by omega, h.1]; rfl
       ·rw [show kk * 3 + j = (kk + j / 3) * 3 + 1 by omega, h.2.1]; rfl
       ·rw [show kk * 3 + j = (kk + j / 3) * 3 + 2 by omega, h.2.2.1]; rfl) (fun j hj => by
       have h := cells_at hHk (kk + j / 3) (by omega)
       have h3 : j % 3 = 0 ∨ j % 3 = 1 ∨ j % 3 = 2 := by omega
       rcases h3 with h3 | h3 | h3
       ·rw [show kk * 3 + j = (kk + j / 3) * 3 by omega]; exact h.2.2.2.1
       ·rw [show kk * 3 + j = (kk + j / 3) * 3 + 1 by omega]; exact h.2.2.2.2.1
       ·rw [show kk * 3 + j = (kk + j / 3) * 3 + 2 by omega]; exact h.2.2.2.2.2)
     have HCS := Aside0.mk hcl
     clear hHk hcl hdk hlt2
     go_wp2
     go_ret
     refine ⟨_, rfl, ?_⟩
     have hsc := setCells_putRow (Sort.ahead w q2) g 0 cs (kk * 3) (flatK enc24 3 dk) (by have h1_ := HCS.out; have h2_ := HDK.out; rw [size_flatK]; omega)
     rw [Nat.zero_add] at hsc
     have hw : wr = putRow id (Sort.ahead w q2) g 0 (flatK enc24 3 dk) := W2.out
     rw [← hw] at hsc
     rw [hsc]
     have hI := I2.out
     rw [show k + k2 = d.size by have := HN.out; omega] at hI
     refine HFIN.out q2 kk dk _ hI (by rw [size_setMany, size_flatK, hI.size]) (fun t ht => ?_)
     have hI1 := HDK.out
     have hI2 := HCS.out
     rw [get_setMany _ _ _ t (by rw [size_flatK]; omega), if_neg (by omega)]
    obtain ⟨m0, m1, m2, _, _, _⟩ := cells_at hHk (k + k2) (by omega)
    obtain ⟨p0, p1, p2, _, _, _⟩ := cells_at hHk (k + k2 - 1) (by omega)
    obtain ⟨o0, o1, o2, of0, of1, of2⟩ := cells_at hHk kk (by omega)
    rw [I2.out.high (k + k2) (by omega), show (k + k2) * 3 = k * 3 + k2 * 3 by omega] at m0 m1 m2
    rw [I2.out.high (k + k2 - 1) (by omega), show (k + k2 - 1) * 3 = k * 3 + (k2 - 1) * 3 by omega] at p0 p1 p2
    clear hHk hdk
    generalize hu : d[k + k2]! = u at m0 m1 m2
    generalize hv : d[k + k2 - 1]! = v at p0 p1 p2
    generalize dk[kk]! = old at o0 o1 o2
    have C : Aside0 (d[k + k2]! = u ∧ d[k + k2 - 1]! = v) := ⟨⟨hu, hv⟩⟩
    clear hu hv
    by_cases huv : u = v
    rotate_left
    ·have hne3 := eqV3 huv
     have HUV := Aside0.mk huv
     clear huv
     go_wp2_with fail
     go_region_o
     go_wp2
     go_roundg (n - (k + (k2 + 1)))
     case measure => omega
     case rel =>
      refine ⟨kk + 1, k2 + 1, q2 + 1, dk.setIfInBounds kk u, by go_num, by go_num, by omega, by omega, Nat.le_refl _, ?_, ⟨?_⟩, by omega⟩
      ·have e := congrArg World.drew (store24 kk u (by have := HDK.out; omega) W2.out)
       exact e
      ·have e := I2.out.keep (by have := HN.out; omega) (keeps_pos (by rw [C.out.1, C.out.2]; exact HUV.out))
       rwa [C.out.1] at e
    subst huv
    go_wp2_with fail
    go_region_o
    go_wp2
    go_roundg (n - (k + (k2 + 1)))
    case measure => omega
    case rel => exact ⟨kk, k2 + 1, q2 + 1, dk, rfl, by go_num, by omega, by omega, Nat.le_refl _, by rw [W2.out]; rfl, ⟨I2.out.skip (keeps_neg (by omega) (by rw [C.out.1, C.out.2]))⟩, by omega⟩
 have hd : dedV l0 = l0 := by
  unfold dedV
  rw [compactUpTo_all _ _ (fun j hj => keeps_lt_one _ j (by omega))]
  have := range_map_get l0.toArray
  simpa using this
 obtain ⟨A, c, rfl⟩ := Kd.R_slice ho0
 have HD := Aside0.mk hd
 clear ho0 hB same hd
 go_enter Try.func100, Try.ntmps100
 go_wp2
 go_ret
 exact ⟨_, rfl, HS.out _ rfl rfl rfl rfl HD.out⟩
end Go.Proofs.Ytpjcdacnhalclaa.Q
namespace Go.Proofs.Ytpjcdacnhalclaa.Q
open Go.RowKit Go.Proofs.YtpjcdacnhalclaaW.PrintWords Go.Proofs.YtpjcdacnhalclaaW.PrintLast Go.Proofs.YtpjcdacnhalclaaW.PrintMore
attribute [local go_sem] max2_int min2_int max_two min_two max_three min_three max_four min_four
def i_contains.l0 : Nat → List (S65) → Int → Int → Int → Int → ByteArray → Option (Bool)
 | 0, _, _, _, _, _, _ => none
 | k + 1, x7, x8, x9, x500000, x500001, x500002 => if x9 < x8 then (if 0 ≤ x9 then (if x9 < (x7.length : Int) then ((v_Compare.f ((rd_T65 x7 x9).f0.f0) ((rd_T65 x7 x9).f0.f1) ((rd_T65 x7 x9).f0.f2) x500000 x500001 x500002).bind fun t502 => (if t502 ≤ 0 then (if (rd_T65 x7 x9).f2 = true then (some true) else ((v_Compare.f x500000 x500001 x500002 ((rd_T65 x7 x9).f1.f0) ((rd_T65 x7 x9).f1.f1) ((rd_T65 x7 x9).f1.f2)).bind fun t503 => (if t503 < 0 then (some true) else (i_contains.l0 k x7 x8 (wrap64 (x9 + 1)) x500000 x500001 x500002)))) else (i_contains.l0 k x7 x8 (wrap64 (x9 + 1)) x500000 x500001 x500002))) else (none)) else (none)) else (some false)
def i_contains.f (k : Nat) (l0 : List (S65)) (a1_0 : Int) (a1_1 : Int) (a1_2 : ByteArray) : Option (Bool) := i_contains.l0 k l0 (l0.length : Int) 0 a1_0 a1_1 a1_2
theorem i_contains.mono_l : ∀ k, (∀ y0 y1 y2 y3 y4 y5, LeO (i_contains.l0 k y0 y1 y2 y3 y4 y5) (i_contains.l0 (k + 1) y0 y1 y2 y3 y4 y5))
 | 0 => fun _ _ _ _ _ _ r h => by simp [i_contains.l0] at h
 | k + 1 => by
  have ih0 := i_contains.mono_l k
  ·intro y0 y1 y2 y3 y4 y5
   unfold i_contains.l0
   repeat' first
   | (with_reducible exact ih0 _ _ _ _ _ _)
   | (with_reducible exact LeO.refl _)
   | (with_reducible exact LeO.none _)
   | (with_reducible refine LeO.ite ?_ ?_)
   | (with_reducible refine LeO.bind ?_ (fun _ => ?_))
   | exact ih0 _ _ _ _ _ _
   | exact LeO.none _
   | refine LeO.ite ?_ ?_
   | refine LeO.bind ?_ (fun _ => ?_)
theorem i_contains.mono : ∀ a0 a1 a2 a3 k, LeO (i_contains.f k a0 a1 a2 a3) (i_contains.f (k + 1) a0 a1 a2 a3) := by
 intro a0 a1 a2 a3 k
 have ih0 := i_contains.mono_l k
 unfold i_contains.f
 repeat' first
   | (with_reducible exact ih0 _ _ _ _ _ _)
   | (with_reducible exact LeO.refl _)
   | (with_reducible exact LeO.none _)
   | (with_reducible refine LeO.ite ?_ ?_)
   | (with_reducible refine LeO.bind ?_ (fun _ => ?_))
   | exact ih0 _ _ _ _ _ _
   | exact LeO.none _
   | refine LeO.ite ?_ ?_
   | refine LeO.bind ?_ (fun _ => ?_)
set_option maxHeartbeats 8000000 in
set_option maxRecDepth 100000 in
theorem i_contains.calls (k : Nat) (A0 : Option Addr) (c0 : Nat) (l0 : List (S65)) (a1_0 : Int) (a1_1 : Int) (a1_2 : ByteArray) (r : Bool) (w : World) (hr0 : Kd.C k65 w A0 l0.length l0) (hc0 : l0.length ≤ c0) (h : i_contains.f k l0 a1_0 a1_1 a1_2 = some r) :
  Calls Try.prog 84 #[.slice A0 l0.length c0, .agg #[.int .i64 a1_0, .int .i64 a1_1, .string a1_2]] w fun e w' => e = .returned (.bool r) ∧ Below w.heap.size w w' := by
 have hu24 := Try.underlying24
 have hu65 := Try.underlying65
 have HR0 := Aside0.mk hr0
 have HC0 := Aside0.mk hc0
 clear hr0 hc0
 have HB := aK (Below.refl w.heap.size w)
 have H : (i_contains.l0 k l0 (l0.length : Int) 0 a1_0 a1_1 a1_2) = some r := h
 clear h
 have H' := Aside0.mk H
 clear H
 go_enter Try.func84, Try.ntmps84
 go_wp2_with (first | ((with_reducible refine gate_dst (N := 3) rfl ?_); refine box_event ?hg (N := 3) ?hd (cs := #[.int .i64 a1_0, .int .i64 a1_1, .string a1_2]) (t := 24) ?hr ?_; (case hd => rfl); (case hg => rfl); (case hr => exact hR); intro gb499 hg w3 hbox hb; have n0_ := aK (below_step bO hb); have n1_ := aK (hbox); have n2_ := aK ((by rw [hg]; exact (below_size bO) : w.heap.size ≤ gb499)); have n3_ := aK ((by rw [hg]; exact (below_size bO) : w.heap.size ≤ gb499)); clear HB; have HB := n0_; have BK499 := n1_; have GW499 := n2_; have GE499 := n3_; clear n0_ n1_ n2_ n3_ hb hbox hg))
 go_loopg [9] k (fun kq v9 w' => ∃ (x9_1 : Int), v9 = .int .i64 x9_1 ∧ Aside0 (i_contains.l0 kq l0 (l0.length : Int) x9_1 a1_0 a1_1 a1_2 = some r) ∧ Aside0 (kq ≤ k) ∧ Aside0 (w'.heap[gb499]? = some (.cells #[.int .i64 a1_0, .int .i64 a1_1, .string a1_2] 24 (0, 0))) ∧ Aside0 (Below w.heap.size w w'))
 case atStart => exact ⟨(0), (by first | rfl | (simp; done) | (simp [*]; done)), H', ⟨Nat.le_refl _⟩, ⟨by (with_reducible repeat (first | refine blk_drewN ?_ _ | refine blk_drew ?_ | refine blk_alloc ?_ _)); exact BK499.out⟩, ⟨bS GE499.out⟩⟩
 case round =>
  clear H'
  try clear p2
  obtain ⟨x9_1, rfl, HA, HK1, BK499, HB⟩ := hrel
  cases gk with
  | zero => exact absurd HA.out (by simp [i_contains.l0])
  | succ k1 =>
   have H := HA.out
   clear HA
   simp only [i_contains.l0] at H
   by_cases c4 : x9_1 < (l0.length : Int)
   rotate_left
   ·rw [if_neg c4] at H
    have c4b0 : decide (x9_1 < (l0.length : Int)) = false := decide_eq_false c4
    clear c4
    obtain rfl := Option.some.inj H
    go_wp2
    go_ret
    exact ⟨eW, bS GE499.out⟩
   rw [if_pos c4] at H
   have c4b0 : decide (x9_1 < (l0.length : Int)) = true := decide_eq_true c4
   clear c4
   by_cases c5 : 0 ≤ x9_1
   rotate_left
   ·rw [if_neg c5] at H
    exact absurd H (by simp)
   rw [if_pos c5] at H
   have c5b0 : decide (0 ≤ x9_1) = true := decide_eq_true c5
   clear c5
   by_cases c6 : x9_1 < (l0.length : Int)
   rotate_left
   ·rw [if_neg c6] at H
    exact absurd H (by simp)
   rw [if_pos c6] at H
   have c6b0 : decide (x9_1 < (l0.length : Int)) = true := decide_eq_true c6
   clear c6
   obtain ⟨t502, A7, H⟩ := oB H
   try dsimp only at H
   by_cases c8 : t502 ≤ 0
   rotate_left
   ·rw [if_neg c8] at H
    have c8b0 : decide (t502 ≤ 0) = false := decide_eq_false c8
    clear c8
    have H' := Aside0.mk H
    clear H
    have p500 : 0 ≤ (x9_1 : Int) := of_decide_eq_true (aA)
    have q500 : x9_1 < (l0.length : Int) := of_decide_eq_true (aA)
    obtain ⟨ad500, e500, hx500_0, hx500_1, hx500_2, hx500_3, hx500_4, hx500_5, hx500_6⟩ := at_T65 HR0.out x9_1 p500 q500
    cases e500
    replace hx500_0 := hW HB.out hx500_0
    replace hx500_1 := hW HB.out hx500_1
    replace hx500_2 := hW HB.out hx500_2
    replace hx500_3 := hW HB.out hx500_3
    replace hx500_4 := hW HB.out hx500_4
    replace hx500_5 := hW HB.out hx500_5
    replace hx500_6 := hW HB.out hx500_6
    replace p500 := eq_true p500
    replace q500 := eq_true q500
    go_wp2_with (first | ((with_reducible refine gate_dst (N := 6) rfl ?_); refine box_event ?hg (N := 6) ?hd (cs := #[.int .i64 0, .int .i64 0, .string (⟨#[]⟩ : ByteArray), .int .i64 0, .int .i64 0, .string (⟨#[]⟩ : ByteArray), .bool false]) (t := 65) ?hr ?_; (case hd => rfl); (case hg => rfl); (case hr => exact hR); intro gb501 hg w35 hbox hb; have n0_ := aK (blk_below (bX BK499.out) hb); have n1_ := aK (below_step (bS GE499.out) hb); have n2_ := aK (hbox); have n3_ := aK ((by rw [hg]; exact (below_size (bS GE499.out)) : w.heap.size ≤ gb501)); have n4_ := aK ((by rw [hg]; exact (below_size (bS GE499.out)) : w.heap.size ≤ gb501)); have n5_ := aK ((by rw [hg]; exact Nat.ne_of_lt (blk_lt (bX BK499.out)) : gb499 ≠ gb501)); have n6_ := aK ((by rw [hg]; exact Nat.ne_of_gt (blk_lt (bX BK499.out)) : gb501 ≠ gb499)); clear BK499 HB; have BK499 := n0_; have HB := n1_; have BK501 := n2_; have GW501 := n3_; have GE501 := n4_; have NB499_501 := n5_; have NB501_499 := n6_; clear n0_ n1_ n2_ n3_ n4_ n5_ n6_ hb hbox hg; have hnb36 := NB501_499.out; have hnc36 := NB499_501.out; obtain ⟨hcz37_0, hcz37_1, hcz37_2, hcz37_3, hcz37_4, hcz37_5, hcz37_6⟩ := z7 BK501.out (.int .i64 0) (.int .i64 0) (.string (⟨#[]⟩ : ByteArray)) (.int .i64 0) (.int .i64 0) (.string (⟨#[]⟩ : ByteArray)) (.bool false); obtain ⟨hfz37_0, hfz37_1, hfz37_2, hfz37_3, hfz37_4, hfz37_5, hfz37_6⟩ := f7 BK501.out; obtain ⟨hcz38_0, hcz38_1, hcz38_2⟩ := z3 BK499.out (.int .i64 a1_0) (.int .i64 a1_1) (.string a1_2); obtain ⟨hfz38_0, hfz38_1, hfz38_2⟩ := f3 BK499.out) | ((with_reducible refine gate_callee (f := 25) rfl ?_); refine gL (some 16) rfl Try.func25 #[.agg #[.int .i64 ((rd_T65 l0 x9_1).f0.f0), .int .i64 ((rd_T65 l0 x9_1).f0.f1), .string ((rd_T65 l0 x9_1).f0.f2)], .agg #[.int .i64 a1_0, .int .i64 a1_1, .string a1_2]] rfl ?_; (with_reducible refine (v_Compare.calls ((rd_T65 l0 x9_1).f0.f0) ((rd_T65 l0 x9_1).f0.f1) ((rd_T65 l0 x9_1).f0.f2) a1_0 a1_1 a1_2 t502 _ A7.out).mono ?_); rintro e w39 ⟨rfl, hb⟩; refine ⟨_, rfl, ?_⟩; have n0_ := aK (blk_below (g := gb499) (o := .cells #[.int .i64 a1_0, .int .i64 a1_1, .string a1_2] 24 (0, 0)) (by (with_reducible repeat (first | refine blk_drewN ?_ _ | refine blk_drew ?_ | refine blk_alloc ?_ _)); refine blk_far ?_ NB499_501.out _; (with_reducible repeat (first | refine blk_drewN ?_ _ | refine blk_drew ?_ | refine blk_alloc ?_ _)); refine blk_far ?_ NB499_501.out _; (with_reducible repeat (first | refine blk_drewN ?_ _ | refine blk_drew ?_ | refine blk_alloc ?_ _)); refine blk_far ?_ NB499_501.out _; (with_reducible repeat (first | refine blk_drewN ?_ _ | refine blk_drew ?_ | refine blk_alloc ?_ _)); refine blk_far ?_ NB499_501.out _; (with_reducible repeat (first | refine blk_drewN ?_ _ | refine blk_drew ?_ | refine blk_alloc ?_ _)); refine blk_far ?_ NB499_501.out _; (with_reducible repeat (first | refine blk_drewN ?_ _ | refine blk_drew ?_ | refine blk_alloc ?_ _)); refine blk_far ?_ NB499_501.out _; (with_reducible repeat (first | refine blk_drewN ?_ _ | refine blk_drew ?_ | refine blk_alloc ?_ _)); refine blk_far ?_ NB499_501.out _; (with_reducible repeat (first | refine blk_drewN ?_ _ | refine blk_drew ?_ | refine blk_alloc ?_ _)); exact BK499.out) hb); have n1_ := aK (blk_below (g := gb501) (o := .cells #[.int .i64 ((rd_T65 l0 x9_1).f0.f0), .int .i64 ((rd_T65 l0 x9_1).f0.f1), .string ((rd_T65 l0 x9_1).f0.f2), .int .i64 ((rd_T65 l0 x9_1).f1.f0), .int .i64 ((rd_T65 l0 x9_1).f1.f1), .string ((rd_T65 l0 x9_1).f1.f2), .bool ((rd_T65 l0 x9_1).f2)] 65 (0, 0)) (by (with_reducible repeat (first | refine blk_drewN ?_ _ | refine blk_drew ?_ | refine blk_alloc ?_ _)); refine blk_put (cs := #[.int .i64 ((rd_T65 l0 x9_1).f0.f0), .int .i64 ((rd_T65 l0 x9_1).f0.f1), .string ((rd_T65 l0 x9_1).f0.f2), .int .i64 ((rd_T65 l0 x9_1).f1.f0), .int .i64 ((rd_T65 l0 x9_1).f1.f1), .string ((rd_T65 l0 x9_1).f1.f2), .bool false]) ?_ 6 _ rfl; (with_reducible repeat (first | refine blk_drewN ?_ _ | refine blk_drew ?_ | refine blk_alloc ?_ _)); refine blk_put (cs := #[.int .i64 ((rd_T65 l0 x9_1).f0.f0), .int .i64 ((rd_T65 l0 x9_1).f0.f1), .string ((rd_T65 l0 x9_1).f0.f2), .int .i64 ((rd_T65 l0 x9_1).f1.f0), .int .i64 ((rd_T65 l0 x9_1).f1.f1), .string (⟨#[]⟩ : ByteArray), .bool false]) ?_ 5 _ rfl; (with_reducible repeat (first | refine blk_drewN ?_ _ | refine blk_drew ?_ | refine blk_alloc ?_ _)); refine blk_put (cs := #[.int .i64 ((rd_T65 l0 x9_1).f0.f0), .int .i64 ((rd_T65 l0 x9_1).f0.f1), .string ((rd_T65 l0 x9_1).f0.f2), .int .i64 ((rd_T65 l0 x9_1).f1.f0), .int .i64 0, .string (⟨#[]⟩ : ByteArray), .bool false]) ?_ 4 _ rfl; (with_reducible repeat (first | refine blk_drewN ?_ _ | refine blk_drew ?_ | refine blk_alloc ?_ _)); refine blk_put (cs := #[.int .i64 ((rd_T65 l0 x9_1).f0.f0), .int .i64 ((rd_T65 l0 x9_1).f0.f1), .string ((rd_T65 l0 x9_1).f0.f2), .int .i64 0, .int .i64 0, .string (⟨#[]⟩ : ByteArray), .bool false]) ?_ 3 _ rfl; (with_reducible repeat (first | refine blk_drewN ?_ _ | refine blk_drew ?_ | refine blk_alloc ?_ _)); refine blk_put (cs := #[.int .i64 ((rd_T65 l0 x9_1).f0.f0), .int .i64 ((rd_T65 l0 x9_1).f0.f1), .string (⟨#[]⟩ : ByteArray), .int .i64 0, .int .i64 0, .string (⟨#[]⟩ : ByteArray), .bool false]) ?_ 2 _ rfl; (with_reducible repeat (first | refine blk_drewN ?_ _ | refine blk_drew ?_ | refine blk_alloc ?_ _)); refine blk_put (cs := #[.int .i64 ((rd_T65 l0 x9_1).f0.f0), .int .i64 0, .string (⟨#[]⟩ : ByteArray), .int .i64 0, .int .i64 0, .string (⟨#[]⟩ : ByteArray), .bool false]) ?_ 1 _ rfl; (with_reducible repeat (first | refine blk_drewN ?_ _ | refine blk_drew ?_ | refine blk_alloc ?_ _)); refine blk_put (cs := #[.int .i64 0, .int .i64 0, .string (⟨#[]⟩ : ByteArray), .int .i64 0, .int .i64 0, .string (⟨#[]⟩ : ByteArray), .bool false]) ?_ 0 _ rfl; (with_reducible repeat (first | refine blk_drewN ?_ _ | refine blk_drew ?_ | refine blk_alloc ?_ _)); exact BK501.out) hb); have n2_ := aK (below_step (bT GE499.out GE501.out) hb); clear BK499 BK501 HB; have BK499 := n0_; have BK501 := n1_; have HB := n2_; clear n0_ n1_ n2_; (try clear hb)))
    go_roundg k1
    case measure => have := HK1.out; omega
    case rel => exact ⟨(wrap64 (x9_1 + 1)), (by first | rfl | (simp; done) | (simp [*]; done)), H', ⟨by have := HK1.out; omega⟩, ⟨by (with_reducible repeat (first | refine blk_drewN ?_ _ | refine blk_drew ?_ | refine blk_alloc ?_ _)); exact BK499.out⟩, ⟨bT GE499.out GE501.out⟩⟩
   rw [if_pos c8] at H
   have c8b0 : decide (t502 ≤ 0) = true := decide_eq_true c8
   clear c8
   obtain ⟨bq9, hbq9⟩ : ∃ b_ : Bool, b_ = ((rd_T65 l0 x9_1).f2) := ⟨_, rfl⟩
   replace H : (if bq9 = true then (some true) else ((v_Compare.f a1_0 a1_1 a1_2 ((rd_T65 l0 x9_1).f1.f0) ((rd_T65 l0 x9_1).f1.f1) ((rd_T65 l0 x9_1).f1.f2)).bind fun t503 => (if t503 < 0 then (some true) else (i_contains.l0 k1 l0 (l0.length : Int) (wrap64 (x9_1 + 1)) a1_0 a1_1 a1_2)))) = some r := by rw [← hbq9] at H; exact H
   have Nbq9 := Aside0.mk hbq9
   clear hbq9
   by_cases c10 : bq9 = true
   rotate_left
   ·replace c10 := Bool.eq_false_iff.mpr c10
    subst c10
    rw [if_neg (show ¬ (false = true) by decide)] at H
    obtain ⟨t503, A17, H⟩ := oB H
    try dsimp only at H
    by_cases c18 : t503 < 0
    rotate_left
    ·rw [if_neg c18] at H
     have c18b0 : decide (t503 < 0) = false := decide_eq_false c18
     clear c18
     have H' := Aside0.mk H
     clear H
     have p500 : 0 ≤ (x9_1 : Int) := of_decide_eq_true (aA)
     have q500 : x9_1 < (l0.length : Int) := of_decide_eq_true (aA)
     obtain ⟨ad500, e500, hx500_0, hx500_1, hx500_2, hx500_3, hx500_4, hx500_5, hx500_6⟩ := at_T65 HR0.out x9_1 p500 q500
     (try rw [← Nbq9.out] at hx500_6)
     cases e500
     replace hx500_0 := hW HB.out hx500_0
     replace hx500_1 := hW HB.out hx500_1
     replace hx500_2 := hW HB.out hx500_2
     replace hx500_3 := hW HB.out hx500_3
     replace hx500_4 := hW HB.out hx500_4
     replace hx500_5 := hW HB.out hx500_5
     replace hx500_6 := hW HB.out hx500_6
     replace p500 := eq_true p500
     replace q500 := eq_true q500
     go_wp2_with (first | ((with_reducible refine gate_dst (N := 6) rfl ?_); refine box_event ?hg (N := 6) ?hd (cs := #[.int .i64 0, .int .i64 0, .string (⟨#[]⟩ : ByteArray), .int .i64 0, .int .i64 0, .string (⟨#[]⟩ : ByteArray), .bool false]) (t := 65) ?hr ?_; (case hd => rfl); (case hg => rfl); (case hr => exact hR); intro gb501 hg w27 hbox hb; have n0_ := aK (blk_below (bX BK499.out) hb); have n1_ := aK (below_step (bS GE499.out) hb); have n2_ := aK (hbox); have n3_ := aK ((by rw [hg]; exact (below_size (bS GE499.out)) : w.heap.size ≤ gb501)); have n4_ := aK ((by rw [hg]; exact (below_size (bS GE499.out)) : w.heap.size ≤ gb501)); have n5_ := aK ((by rw [hg]; exact Nat.ne_of_lt (blk_lt (bX BK499.out)) : gb499 ≠ gb501)); have n6_ := aK ((by rw [hg]; exact Nat.ne_of_gt (blk_lt (bX BK499.out)) : gb501 ≠ gb499)); clear BK499 HB; have BK499 := n0_; have HB := n1_; have BK501 := n2_; have GW501 := n3_; have GE501 := n4_; have NB499_501 := n5_; have NB501_499 := n6_; clear n0_ n1_ n2_ n3_ n4_ n5_ n6_ hb hbox hg; have hnb28 := NB501_499.out; have hnc28 := NB499_501.out; obtain ⟨hcz29_0, hcz29_1, hcz29_2, hcz29_3, hcz29_4, hcz29_5, hcz29_6⟩ := z7 BK501.out (.int .i64 0) (.int .i64 0) (.string (⟨#[]⟩ : ByteArray)) (.int .i64 0) (.int .i64 0) (.string (⟨#[]⟩ : ByteArray)) (.bool false); obtain ⟨hfz29_0, hfz29_1, hfz29_2, hfz29_3, hfz29_4, hfz29_5, hfz29_6⟩ := f7 BK501.out; obtain ⟨hcz30_0, hcz30_1, hcz30_2⟩ := z3 BK499.out (.int .i64 a1_0) (.int .i64 a1_1) (.string a1_2); obtain ⟨hfz30_0, hfz30_1, hfz30_2⟩ := f3 BK499.out) | ((with_reducible refine gate_callee (f := 25) rfl ?_); refine gL (some 16) rfl Try.func25 #[.agg #[.int .i64 ((rd_T65 l0 x9_1).f0.f0), .int .i64 ((rd_T65 l0 x9_1).f0.f1), .string ((rd_T65 l0 x9_1).f0.f2)], .agg #[.int .i64 a1_0, .int .i64 a1_1, .string a1_2]] rfl ?_; (with_reducible refine (v_Compare.calls ((rd_T65 l0 x9_1).f0.f0) ((rd_T65 l0 x9_1).f0.f1) ((rd_T65 l0 x9_1).f0.f2) a1_0 a1_1 a1_2 t502 _ A7.out).mono ?_); rintro e w31 ⟨rfl, hb⟩; refine ⟨_, rfl, ?_⟩; have n0_ := aK (blk_below (g := gb499) (o := .cells #[.int .i64 a1_0, .int .i64 a1_1, .string a1_2] 24 (0, 0)) (by (with_reducible repeat (first | refine blk_drewN ?_ _ | refine blk_drew ?_ | refine blk_alloc ?_ _)); refine blk_far ?_ NB499_501.out _; (with_reducible repeat (first | refine blk_drewN ?_ _ | refine blk_drew ?_ | refine blk_alloc ?_ _)); refine blk_far ?_ NB499_501.out _; (with_reducible repeat (first | refine blk_drewN ?_ _ | refine blk_drew ?_ | refine blk_alloc ?_ _)); refine blk_far ?_ NB499_501.out _; (with_reducible repeat (first | refine blk_drewN ?_ _ | refine blk_drew ?_ | refine blk_alloc ?_ _)); refine blk_far ?_ NB499_501.out _; (with_reducible repeat (first | refine blk_drewN ?_ _ | refine blk_drew ?_ | refine blk_alloc ?_ _)); refine blk_far ?_ NB499_501.out _; (with_reducible repeat (first | refine blk_drewN ?_ _ | refine blk_drew ?_ | refine blk_alloc ?_ _)); refine blk_far ?_ NB499_501.out _; (with_reducible repeat (first | refine blk_drewN ?_ _ | refine blk_drew ?_ | refine blk_alloc ?_ _)); refine blk_far ?_ NB499_501.out _; (with_reducible repeat (first | refine blk_drewN ?_ _ | refine blk_drew ?_ | refine blk_alloc ?_ _)); exact BK499.out) hb); have n1_ := aK (blk_below (g := gb501) (o := .cells #[.int .i64 ((rd_T65 l0 x9_1).f0.f0), .int .i64 ((rd_T65 l0 x9_1).f0.f1), .string ((rd_T65 l0 x9_1).f0.f2), .int .i64 ((rd_T65 l0 x9_1).f1.f0), .int .i64 ((rd_T65 l0 x9_1).f1.f1), .string ((rd_T65 l0 x9_1).f1.f2), .bool false] 65 (0, 0)) (by (with_reducible repeat (first | refine blk_drewN ?_ _ | refine blk_drew ?_ | refine blk_alloc ?_ _)); refine blk_put (cs := #[.int .i64 ((rd_T65 l0 x9_1).f0.f0), .int .i64 ((rd_T65 l0 x9_1).f0.f1), .string ((rd_T65 l0 x9_1).f0.f2), .int .i64 ((rd_T65 l0 x9_1).f1.f0), .int .i64 ((rd_T65 l0 x9_1).f1.f1), .string ((rd_T65 l0 x9_1).f1.f2), .bool false]) ?_ 6 _ rfl; (with_reducible repeat (first | refine blk_drewN ?_ _ | refine blk_drew ?_ | refine blk_alloc ?_ _)); refine blk_put (cs := #[.int .i64 ((rd_T65 l0 x9_1).f0.f0), .int .i64 ((rd_T65 l0 x9_1).f0.f1), .string ((rd_T65 l0 x9_1).f0.f2), .int .i64 ((rd_T65 l0 x9_1).f1.f0), .int .i64 ((rd_T65 l0 x9_1).f1.f1), .string (⟨#[]⟩ : ByteArray), .bool false]) ?_ 5 _ rfl; (with_reducible repeat (first | refine blk_drewN ?_ _ | refine blk_drew ?_ | refine blk_alloc ?_ _)); refine blk_put (cs := #[.int .i64 ((rd_T65 l0 x9_1).f0.f0), .int .i64 ((rd_T65 l0 x9_1).f0.f1), .string ((rd_T65 l0 x9_1).f0.f2), .int .i64 ((rd_T65 l0 x9_1).f1.f0), .int .i64 0, .string (⟨#[]⟩ : ByteArray), .bool false]) ?_ 4 _ rfl; (with_reducible repeat (first | refine blk_drewN ?_ _ | refine blk_drew ?_ | refine blk_alloc ?_ _)); refine blk_put (cs := #[.int .i64 ((rd_T65 l0 x9_1).f0.f0), .int .i64 ((rd_T65 l0 x9_1).f0.f1), .string ((rd_T65 l0 x9_1).f0.f2), .int .i64 0, .int .i64 0, .string (⟨#[]⟩ : ByteArray), .bool false]) ?_ 3 _ rfl; (with_reducible repeat (first | refine blk_drewN ?_ _ | refine blk_drew ?_ | refine blk_alloc ?_ _)); refine blk_put (cs := #[.int .i64 ((rd_T65 l0 x9_1).f0.f0), .int .i64 ((rd_T65 l0 x9_1).f0.f1), .string (⟨#[]⟩ : ByteArray), .int .i64 0, .int .i64 0, .string (⟨#[]⟩ : ByteArray), .bool false]) ?_ 2 _ rfl; (with_reducible repeat (first | refine blk_drewN ?_ _ | refine blk_drew ?_ | refine blk_alloc ?_ _)); refine blk_put (cs := #[.int .i64 ((rd_T65 l0 x9_1).f0.f0), .int .i64 0, .string (⟨#[]⟩ : ByteArray), .int .i64 0, .int .i64 0, .string (⟨#[]⟩ : ByteArray), .bool false]) ?_ 1 _ rfl; (with_reducible repeat (first | refine blk_drewN ?_ _ | refine blk_drew ?_ | refine blk_alloc ?_ _)); refine blk_put (cs := #[.int .i64 0, .int .i64 0, .string (⟨#[]⟩ : ByteArray), .int .i64 0, .int .i64 0, .string (⟨#[]⟩ : ByteArray), .bool false]) ?_ 0 _ rfl; (with_reducible repeat (first | refine blk_drewN ?_ _ | refine blk_drew ?_ | refine blk_alloc ?_ _)); exact BK501.out) hb); have n2_ := aK (below_step (bT GE499.out GE501.out) hb); clear BK499 BK501 HB; have BK499 := n0_; have BK501 := n1_; have HB := n2_; clear n0_ n1_ n2_; (try clear hb); obtain ⟨hcz32_0, hcz32_1, hcz32_2, hcz32_3, hcz32_4, hcz32_5, hcz32_6⟩ := z7 BK501.out (.int .i64 ((rd_T65 l0 x9_1).f0.f0)) (.int .i64 ((rd_T65 l0 x9_1).f0.f1)) (.string ((rd_T65 l0 x9_1).f0.f2)) (.int .i64 ((rd_T65 l0 x9_1).f1.f0)) (.int .i64 ((rd_T65 l0 x9_1).f1.f1)) (.string ((rd_T65 l0 x9_1).f1.f2)) (.bool false); obtain ⟨hfz32_0, hfz32_1, hfz32_2, hfz32_3, hfz32_4, hfz32_5, hfz32_6⟩ := f7 BK501.out; obtain ⟨hcz33_0, hcz33_1, hcz33_2⟩ := z3 BK499.out (.int .i64 a1_0) (.int .i64 a1_1) (.string a1_2); obtain ⟨hfz33_0, hfz33_1, hfz33_2⟩ := f3 BK499.out) | (go_at_call 25; (with_reducible refine (v_Compare.calls a1_0 a1_1 a1_2 ((rd_T65 l0 x9_1).f1.f0) ((rd_T65 l0 x9_1).f1.f1) ((rd_T65 l0 x9_1).f1.f2) t503 _ A17.out).mono ?_); rintro e w34 ⟨rfl, hb⟩; have n0_ := aK (blk_below (bX BK499.out) hb); have n1_ := aK (blk_below (bX BK501.out) hb); have n2_ := aK (below_step (bT GE499.out GE501.out) hb); clear BK499 BK501 HB; have BK499 := n0_; have BK501 := n1_; have HB := n2_; clear n0_ n1_ n2_; (try clear hb)))
     go_roundg k1
     case measure => have := HK1.out; omega
     case rel => exact ⟨(wrap64 (x9_1 + 1)), (by first | rfl | (simp; done) | (simp [*]; done)), H', ⟨by have := HK1.out; omega⟩, ⟨by (with_reducible repeat (first | refine blk_drewN ?_ _ | refine blk_drew ?_ | refine blk_alloc ?_ _)); exact BK499.out⟩, ⟨bT GE499.out GE501.out⟩⟩
    rw [if_pos c18] at H
    have c18b0 : decide (t503 < 0) = true := decide_eq_true c18
    clear c18
    obtain rfl := Option.some.inj H
    have p500 : 0 ≤ (x9_1 : Int) := of_decide_eq_true (aA)
    have q500 : x9_1 < (l0.length : Int) := of_decide_eq_true (aA)
    obtain ⟨ad500, e500, hx500_0, hx500_1, hx500_2, hx500_3, hx500_4, hx500_5, hx500_6⟩ := at_T65 HR0.out x9_1 p500 q500
    (try rw [← Nbq9.out] at hx500_6)
    cases e500
    replace hx500_0 := hW HB.out hx500_0
    replace hx500_1 := hW HB.out hx500_1
    replace hx500_2 := hW HB.out hx500_2
    replace hx500_3 := hW HB.out hx500_3
    replace hx500_4 := hW HB.out hx500_4
    replace hx500_5 := hW HB.out hx500_5
    replace hx500_6 := hW HB.out hx500_6
    replace p500 := eq_true p500
    replace q500 := eq_true q500
    go_wp2_with (first | ((with_reducible refine gate_dst (N := 6) rfl ?_); refine box_event ?hg (N := 6) ?hd (cs := #[.int .i64 0, .int .i64 0, .string (⟨#[]⟩ : ByteArray), .int .i64 0, .int .i64 0, .string (⟨#[]⟩ : ByteArray), .bool false]) (t := 65) ?hr ?_; (case hd => rfl); (case hg => rfl); (case hr => exact hR); intro gb501 hg w19 hbox hb; have n0_ := aK (blk_below (bX BK499.out) hb); have n1_ := aK (below_step (bS GE499.out) hb); have n2_ := aK (hbox); have n3_ := aK ((by rw [hg]; exact (below_size (bS GE499.out)) : w.heap.size ≤ gb501)); have n4_ := aK ((by rw [hg]; exact (below_size (bS GE499.out)) : w.heap.size ≤ gb501)); have n5_ := aK ((by rw [hg]; exact Nat.ne_of_lt (blk_lt (bX BK499.out)) : gb499 ≠ gb501)); have n6_ := aK ((by rw [hg]; exact Nat.ne_of_gt (blk_lt (bX BK499.out)) : gb501 ≠ gb499)); clear BK499 HB; have BK499 := n0_; have HB := n1_; have BK501 := n2_; have GW501 := n3_; have GE501 := n4_; have NB499_501 := n5_; have NB501_499 := n6_; clear n0_ n1_ n2_ n3_ n4_ n5_ n6_ hb hbox hg; have hnb20 := NB501_499.out; have hnc20 := NB499_501.out; obtain ⟨hcz21_0, hcz21_1, hcz21_2, hcz21_3, hcz21_4, hcz21_5, hcz21_6⟩ := z7 BK501.out (.int .i64 0) (.int .i64 0) (.string (⟨#[]⟩ : ByteArray)) (.int .i64 0) (.int .i64 0) (.string (⟨#[]⟩ : ByteArray)) (.bool false); obtain ⟨hfz21_0, hfz21_1, hfz21_2, hfz21_3, hfz21_4, hfz21_5, hfz21_6⟩ := f7 BK501.out; obtain ⟨hcz22_0, hcz22_1, hcz22_2⟩ := z3 BK499.out (.int .i64 a1_0) (.int .i64 a1_1) (.string a1_2); obtain ⟨hfz22_0, hfz22_1, hfz22_2⟩ := f3 BK499.out) | ((with_reducible refine gate_callee (f := 25) rfl ?_); refine gL (some 16) rfl Try.func25 #[.agg #[.int .i64 ((rd_T65 l0 x9_1).f0.f0), .int .i64 ((rd_T65 l0 x9_1).f0.f1), .string ((rd_T65 l0 x9_1).f0.f2)], .agg #[.int .i64 a1_0, .int .i64 a1_1, .string a1_2]] rfl ?_; (with_reducible refine (v_Compare.calls ((rd_T65 l0 x9_1).f0.f0) ((rd_T65 l0 x9_1).f0.f1) ((rd_T65 l0 x9_1).f0.f2) a1_0 a1_1 a1_2 t502 _ A7.out).mono ?_); rintro e w23 ⟨rfl, hb⟩; refine ⟨_, rfl, ?_⟩; have n0_ := aK (blk_below (g := gb499) (o := .cells #[.int .i64 a1_0, .int .i64 a1_1, .string a1_2] 24 (0, 0)) (by (with_reducible repeat (first | refine blk_drewN ?_ _ | refine blk_drew ?_ | refine blk_alloc ?_ _)); refine blk_far ?_ NB499_501.out _; (with_reducible repeat (first | refine blk_drewN ?_ _ | refine blk_drew ?_ | refine blk_alloc ?_ _)); refine blk_far ?_ NB499_501.out _; (with_reducible repeat (first | refine blk_drewN ?_ _ | refine blk_drew ?_ | refine blk_alloc ?_ _)); refine blk_far ?_ NB499_501.out _; (with_reducible repeat (first | refine blk_drewN ?_ _ | refine blk_drew ?_ | refine blk_alloc ?_ _)); refine blk_far ?_ NB499_501.out _; (with_reducible repeat (first | refine blk_drewN ?_ _ | refine blk_drew ?_ | refine blk_alloc ?_ _)); refine blk_far ?_ NB499_501.out _; (with_reducible repeat (first | refine blk_drewN ?_ _ | refine blk_drew ?_ | refine blk_alloc ?_ _)); refine blk_far ?_ NB499_501.out _; (with_reducible repeat (first | refine blk_drewN ?_ _ | refine blk_drew ?_ | refine blk_alloc ?_ _)); refine blk_far ?_ NB499_501.out _; (with_reducible repeat (first | refine blk_drewN ?_ _ | refine blk_drew ?_ | refine blk_alloc ?_ _)); exact BK499.out) hb); have n1_ := aK (blk_below (g := gb501) (o := .cells #[.int .i64 ((rd_T65 l0 x9_1).f0.f0), .int .i64 ((rd_T65 l0 x9_1).f0.f1), .string ((rd_T65 l0 x9_1).f0.f2), .int .i64 ((rd_T65 l0 x9_1).f1.f0), .int .i64 ((rd_T65 l0 x9_1).f1.f1), .string ((rd_T65 l0 x9_1).f1.f2), .bool false] 65 (0, 0)) (by (with_reducible repeat (first | refine blk_drewN ?_ _ | refine blk_drew ?_ | refine blk_alloc ?_ _)); refine blk_put (cs := #[.int .i64 ((rd_T65 l0 x9_1).f0.f0), .int .i64 ((rd_T65 l0 x9_1).f0.f1), .string ((rd_T65 l0 x9_1).f0.f2), .int .i64 ((rd_T65 l0 x9_1).f1.f0), .int .i64 ((rd_T65 l0 x9_1).f1.f1), .string ((rd_T65 l0 x9_1).f1.f2), .bool false]) ?_ 6 _ rfl; (with_reducible repeat (first | refine blk_drewN ?_ _ | refine blk_drew ?_ | refine blk_alloc ?_ _)); refine blk_put (cs := #[.int .i64 ((rd_T65 l0 x9_1).f0.f0), .int .i64 ((rd_T65 l0 x9_1).f0.f1), .string ((rd_T65 l0 x9_1).f0.f2), .int .i64 ((rd_T65 l0 x9_1).f1.f0), .int .i64 ((rd_T65 l0 x9_1).f1.f1), .string (⟨#[]⟩ : ByteArray), .bool false]) ?_ 5 _ rfl; (with_reducible repeat (first | refine blk_drewN ?_ _ | refine blk_drew ?_ | refine blk_alloc ?_ _)); refine blk_put (cs := #[.int .i64 ((rd_T65 l0 x9_1).f0.f0), .int .i64 ((rd_T65 l0 x9_1).f0.f1), .string ((rd_T65 l0 x9_1).f0.f2), .int .i64 ((rd_T65 l0 x9_1).f1.f0), .int .i64 0, .string (⟨#[]⟩ : ByteArray), .bool false]) ?_ 4 _ rfl; (with_reducible repeat (first | refine blk_drewN ?_ _ | refine blk_drew ?_ | refine blk_alloc ?_ _)); refine blk_put (cs := #[.int .i64 ((rd_T65 l0 x9_1).f0.f0), .int .i64 ((rd_T65 l0 x9_1).f0.f1), .string ((rd_T65 l0 x9_1).f0.f2), .int .i64 0, .int .i64 0, .string (⟨#[]⟩ : ByteArray), .bool false]) ?_ 3 _ rfl; (with_reducible repeat (first | refine blk_drewN ?_ _ | refine blk_drew ?_ | refine blk_alloc ?_ _)); refine blk_put (cs := #[.int .i64 ((rd_T65 l0 x9_1).f0.f0), .int .i64 ((rd_T65 l0 x9_1).f0.f1), .string (⟨#[]⟩ : ByteArray), .int .i64 0, .int .i64 0, .string (⟨#[]⟩ : ByteArray), .bool false]) ?_ 2 _ rfl; (with_reducible repeat (first | refine blk_drewN ?_ _ | refine blk_drew ?_ | refine blk_alloc ?_ _)); refine blk_put (cs := #[.int .i64 ((rd_T65 l0 x9_1).f0.f0), .int .i64 0, .string (⟨#[]⟩ : ByteArray), .int .i64 0, .int .i64 0, .string (⟨#[]⟩ : ByteArray), .bool false]) ?_ 1 _ rfl; (with_reducible repeat (first | refine blk_drewN ?_ _ | refine blk_drew ?_ | refine blk_alloc ?_ _)); refine blk_put (cs := #[.int .i64 0, .int .i64 0, .string (⟨#[]⟩ : ByteArray), .int .i64 0, .int .i64 0, .string (⟨#[]⟩ : ByteArray), .bool false]) ?_ 0 _ rfl; (with_reducible repeat (first | refine blk_drewN ?_ _ | refine blk_drew ?_ | refine blk_alloc ?_ _)); exact BK501.out) hb); have n2_ := aK (below_step (bT GE499.out GE501.out) hb); clear BK499 BK501 HB; have BK499 := n0_; have BK501 := n1_; have HB := n2_; clear n0_ n1_ n2_; (try clear hb); obtain ⟨hcz24_0, hcz24_1, hcz24_2, hcz24_3, hcz24_4, hcz24_5, hcz24_6⟩ := z7 BK501.out (.int .i64 ((rd_T65 l0 x9_1).f0.f0)) (.int .i64 ((rd_T65 l0 x9_1).f0.f1)) (.string ((rd_T65 l0 x9_1).f0.f2)) (.int .i64 ((rd_T65 l0 x9_1).f1.f0)) (.int .i64 ((rd_T65 l0 x9_1).f1.f1)) (.string ((rd_T65 l0 x9_1).f1.f2)) (.bool false); obtain ⟨hfz24_0, hfz24_1, hfz24_2, hfz24_3, hfz24_4, hfz24_5, hfz24_6⟩ := f7 BK501.out; obtain ⟨hcz25_0, hcz25_1, hcz25_2⟩ := z3 BK499.out (.int .i64 a1_0) (.int .i64 a1_1) (.string a1_2); obtain ⟨hfz25_0, hfz25_1, hfz25_2⟩ := f3 BK499.out) | (go_at_call 25; (with_reducible refine (v_Compare.calls a1_0 a1_1 a1_2 ((rd_T65 l0 x9_1).f1.f0) ((rd_T65 l0 x9_1).f1.f1) ((rd_T65 l0 x9_1).f1.f2) t503 _ A17.out).mono ?_); rintro e w26 ⟨rfl, hb⟩; have n0_ := aK (blk_below (bX BK499.out) hb); have n1_ := aK (blk_below (bX BK501.out) hb); have n2_ := aK (below_step (bT GE499.out GE501.out) hb); clear BK499 BK501 HB; have BK499 := n0_; have BK501 := n1_; have HB := n2_; clear n0_ n1_ n2_; (try clear hb)))
    go_ret
    exact ⟨eW, bT GE499.out GE501.out⟩
   subst c10
   rw [if_pos rfl] at H
   obtain rfl := Option.some.inj H
   have p500 : 0 ≤ (x9_1 : Int) := of_decide_eq_true (aA)
   have q500 : x9_1 < (l0.length : Int) := of_decide_eq_true (aA)
   obtain ⟨ad500, e500, hx500_0, hx500_1, hx500_2, hx500_3, hx500_4, hx500_5, hx500_6⟩ := at_T65 HR0.out x9_1 p500 q500
   (try rw [← Nbq9.out] at hx500_6)
   cases e500
   replace hx500_0 := hW HB.out hx500_0
   replace hx500_1 := hW HB.out hx500_1
   replace hx500_2 := hW HB.out hx500_2
   replace hx500_3 := hW HB.out hx500_3
   replace hx500_4 := hW HB.out hx500_4
   replace hx500_5 := hW HB.out hx500_5
   replace hx500_6 := hW HB.out hx500_6
   replace p500 := eq_true p500
   replace q500 := eq_true q500
   go_wp2_with (first | ((with_reducible refine gate_dst (N := 6) rfl ?_); refine box_event ?hg (N := 6) ?hd (cs := #[.int .i64 0, .int .i64 0, .string (⟨#[]⟩ : ByteArray), .int .i64 0, .int .i64 0, .string (⟨#[]⟩ : ByteArray), .bool false]) (t := 65) ?hr ?_; (case hd => rfl); (case hg => rfl); (case hr => exact hR); intro gb501 hg w11 hbox hb; have n0_ := aK (blk_below (bX BK499.out) hb); have n1_ := aK (below_step (bS GE499.out) hb); have n2_ := aK (hbox); have n3_ := aK ((by rw [hg]; exact (below_size (bS GE499.out)) : w.heap.size ≤ gb501)); have n4_ := aK ((by rw [hg]; exact (below_size (bS GE499.out)) : w.heap.size ≤ gb501)); have n5_ := aK ((by rw [hg]; exact Nat.ne_of_lt (blk_lt (bX BK499.out)) : gb499 ≠ gb501)); have n6_ := aK ((by rw [hg]; exact Nat.ne_of_gt (blk_lt (bX BK499.out)) : gb501 ≠ gb499)); clear BK499 HB; have BK499 := n0_; have HB := n1_; have BK501 := n2_; have GW501 := n3_; have GE501 := n4_; have NB499_501 := n5_; have NB501_499 := n6_; clear n0_ n1_ n2_ n3_ n4_ n5_ n6_ hb hbox hg; have hnb12 := NB501_499.out; have hnc12 := NB499_501.out; obtain ⟨hcz13_0, hcz13_1, hcz13_2, hcz13_3, hcz13_4, hcz13_5, hcz13_6⟩ := z7 BK501.out (.int .i64 0) (.int .i64 0) (.string (⟨#[]⟩ : ByteArray)) (.int .i64 0) (.int .i64 0) (.string (⟨#[]⟩ : ByteArray)) (.bool false); obtain ⟨hfz13_0, hfz13_1, hfz13_2, hfz13_3, hfz13_4, hfz13_5, hfz13_6⟩ := f7 BK501.out; obtain ⟨hcz14_0, hcz14_1, hcz14_2⟩ := z3 BK499.out (.int .i64 a1_0) (.int .i64 a1_1) (.string a1_2); obtain ⟨hfz14_0, hfz14_1, hfz14_2⟩ := f3 BK499.out) | ((with_reducible refine gate_callee (f := 25) rfl ?_); refine gL (some 16) rfl Try.func25 #[.agg #[.int .i64 ((rd_T65 l0 x9_1).f0.f0), .int .i64 ((rd_T65 l0 x9_1).f0.f1), .string ((rd_T65 l0 x9_1).f0.f2)], .agg #[.int .i64 a1_0, .int .i64 a1_1, .string a1_2]] rfl ?_; (with_reducible refine (v_Compare.calls ((rd_T65 l0 x9_1).f0.f0) ((rd_T65 l0 x9_1).f0.f1) ((rd_T65 l0 x9_1).f0.f2) a1_0 a1_1 a1_2 t502 _ A7.out).mono ?_); rintro e w15 ⟨rfl, hb⟩; refine ⟨_, rfl, ?_⟩; have n0_ := aK (blk_below (g := gb499) (o := .cells #[.int .i64 a1_0, .int .i64 a1_1, .string a1_2] 24 (0, 0)) (by (with_reducible repeat (first | refine blk_drewN ?_ _ | refine blk_drew ?_ | refine blk_alloc ?_ _)); refine blk_far ?_ NB499_501.out _; (with_reducible repeat (first | refine blk_drewN ?_ _ | refine blk_drew ?_ | refine blk_alloc ?_ _)); refine blk_far ?_ NB499_501.out _; (with_reducible repeat (first | refine blk_drewN ?_ _ | refine blk_drew ?_ | refine blk_alloc ?_ _)); refine blk_far ?_ NB499_501.out _; (with_reducible repeat (first | refine blk_drewN ?_ _ | refine blk_drew ?_ | refine blk_alloc ?_ _)); refine blk_far ?_ NB499_501.out _; (with_reducible repeat (first | refine blk_drewN ?_ _ | refine blk_drew ?_ | refine blk_alloc ?_ _)); refine blk_far ?_ NB499_501.out _; (with_reducible repeat (first | refine blk_drewN ?_ _ | refine blk_drew ?_ | refine blk_alloc ?_ _)); refine blk_far ?_ NB499_501.out _; (with_reducible repeat (first | refine blk_drewN ?_ _ | refine blk_drew ?_ | refine blk_alloc ?_ _)); refine blk_far ?_ NB499_501.out _; (with_reducible repeat (first | refine blk_drewN ?_ _ | refine blk_drew ?_ | refine blk_alloc ?_ _)); exact BK499.out) hb); have n1_ := aK (blk_below (g := gb501) (o := .cells #[.int .i64 ((rd_T65 l0 x9_1).f0.f0), .int .i64 ((rd_T65 l0 x9_1).f0.f1), .string ((rd_T65 l0 x9_1).f0.f2), .int .i64 ((rd_T65 l0 x9_1).f1.f0), .int .i64 ((rd_T65 l0 x9_1).f1.f1), .string ((rd_T65 l0 x9_1).f1.f2), .bool true] 65 (0, 0)) (by (with_reducible repeat (first | refine blk_drewN ?_ _ | refine blk_drew ?_ | refine blk_alloc ?_ _)); refine blk_put (cs := #[.int .i64 ((rd_T65 l0 x9_1).f0.f0), .int .i64 ((rd_T65 l0 x9_1).f0.f1), .string ((rd_T65 l0 x9_1).f0.f2), .int .i64 ((rd_T65 l0 x9_1).f1.f0), .int .i64 ((rd_T65 l0 x9_1).f1.f1), .string ((rd_T65 l0 x9_1).f1.f2), .bool false]) ?_ 6 _ rfl; (with_reducible repeat (first | refine blk_drewN ?_ _ | refine blk_drew ?_ | refine blk_alloc ?_ _)); refine blk_put (cs := #[.int .i64 ((rd_T65 l0 x9_1).f0.f0), .int .i64 ((rd_T65 l0 x9_1).f0.f1), .string ((rd_T65 l0 x9_1).f0.f2), .int .i64 ((rd_T65 l0 x9_1).f1.f0), .int .i64 ((rd_T65 l0 x9_1).f1.f1), .string (⟨#[]⟩ : ByteArray), .bool false]) ?_ 5 _ rfl; (with_reducible repeat (first | refine blk_drewN ?_ _ | refine blk_drew ?_ | refine blk_alloc ?_ _)); refine blk_put (cs := #[.int .i64 ((rd_T65 l0 x9_1).f0.f0), .int .i64 ((rd_T65 l0 x9_1).f0.f1), .string ((rd_T65 l0 x9_1).f0.f2), .int .i64 ((rd_T65 l0 x9_1).f1.f0), .int .i64 0, .string (⟨#[]⟩ : ByteArray), .bool false]) ?_ 4 _ rfl; (with_reducible repeat (first | refine blk_drewN ?_ _ | refine blk_drew ?_ | refine blk_alloc ?_ _)); refine blk_put (cs := #[.int .i64 ((rd_T65 l0 x9_1).f0.f0), .int .i64 ((rd_T65 l0 x9_1).f0.f1), .string ((rd_T65 l0 x9_1).f0.f2), .int .i64 0, .int .i64 0, .string (⟨#[]⟩ : ByteArray), .bool false]) ?_ 3 _ rfl; (with_reducible repeat (first | refine blk_drewN ?_ _ | refine blk_drew ?_ | refine blk_alloc ?_ _)); refine blk_put (cs := #[.int .i64 ((rd_T65 l0 x9_1).f0.f0), .int .i64 ((rd_T65 l0 x9_1).f0.f1), .string (⟨#[]⟩ : ByteArray), .int .i64 0, .int .i64 0, .string (⟨#[]⟩ : ByteArray), .bool false]) ?_ 2 _ rfl; (with_reducible repeat (first | refine blk_drewN ?_ _ | refine blk_drew ?_ | refine blk_alloc ?_ _)); refine blk_put (cs := #[.int .i64 ((rd_T65 l0 x9_1).f0.f0), .int .i64 0, .string (⟨#[]⟩ : ByteArray), .int .i64 0, .int .i64 0, .string (⟨#[]⟩ : ByteArray), .bool false]) ?_ 1 _ rfl; (with_reducible repeat (first | refine blk_drewN ?_ _ | refine blk_drew ?_ | refine blk_alloc ?_ _)); refine blk_put (cs := #[.int .i64 0, .int .i64 0, .string (⟨#[]⟩ : ByteArray), .int .i64 0, .int .i64 0, .string (⟨#[]⟩ : ByteArray), .bool false]) ?_ 0 _ rfl; (with_reducible repeat (first | refine blk_drewN ?_ _ | refine blk_drew ?_ | refine blk_alloc ?_ _)); exact BK501.out) hb); have n2_ := aK (below_step (bT GE499.out GE501.out) hb); clear BK499 BK501 HB; have BK499 := n0_; have BK501 := n1_; have HB := n2_; clear n0_ n1_ n2_; (try clear hb); obtain ⟨hcz16_0, hcz16_1, hcz16_2, hcz16_3, hcz16_4, hcz16_5, hcz16_6⟩ := z7 BK501.out (.int .i64 ((rd_T65 l0 x9_1).f0.f0)) (.int .i64 ((rd_T65 l0 x9_1).f0.f1)) (.string ((rd_T65 l0 x9_1).f0.f2)) (.int .i64 ((rd_T65 l0 x9_1).f1.f0)) (.int .i64 ((rd_T65 l0 x9_1).f1.f1)) (.string ((rd_T65 l0 x9_1).f1.f2)) (.bool true); obtain ⟨hfz16_0, hfz16_1, hfz16_2, hfz16_3, hfz16_4, hfz16_5, hfz16_6⟩ := f7 BK501.out))
   go_ret
   exact ⟨eW, bT GE499.out GE501.out⟩
def i_least.f  : Option (Int × Int × ByteArray) := some (1, 0, (⟨#[]⟩ : ByteArray))
set_option maxHeartbeats 8000000 in
set_option maxRecDepth 100000 in
theorem i_least.calls  (r1 : Int) (r2 : Int) (r3 : ByteArray) (w : World) (h : i_least.f  = some (r1, r2, r3)) :
  Calls Try.prog 86 #[] w fun e w' => e = .returned (.agg #[.int .i64 r1, .int .i64 r2, .string r3]) ∧ Below w.heap.size w w' := by
 have hu24 := Try.underlying24
 have HB := aK (Below.refl w.heap.size w)
 have H : (some (1, 0, (⟨#[]⟩ : ByteArray))) = some (r1, r2, r3) := h
 clear h
 simp only [Option.some.injEq, Prod.mk.injEq] at H
 obtain ⟨rfl, rfl, rfl⟩ := H
 go_enter Try.func86, Try.ntmps86
 go_wp2_with (first | ((with_reducible refine gate_dst (N := 0) rfl ?_); refine box_event ?hg (N := 0) ?hd (cs := #[.int .i64 0, .int .i64 0, .string (⟨#[]⟩ : ByteArray)]) (t := 24) ?hr ?_; (case hd => rfl); (case hg => rfl); (case hr => exact hR); intro gb504 hg w1 hbox hb; have n0_ := aK (below_step bO hb); have n1_ := aK (hbox); have n2_ := aK ((by rw [hg]; exact (below_size bO) : w.heap.size ≤ gb504)); have n3_ := aK ((by rw [hg]; exact (below_size bO) : w.heap.size ≤ gb504)); clear HB; have HB := n0_; have BK504 := n1_; have GW504 := n2_; have GE504 := n3_; clear n0_ n1_ n2_ n3_ hb hbox hg; obtain ⟨hcz2_0, hcz2_1, hcz2_2⟩ := z3 BK504.out (.int .i64 0) (.int .i64 0) (.string (⟨#[]⟩ : ByteArray)); obtain ⟨hfz2_0, hfz2_1, hfz2_2⟩ := f3 BK504.out))
 refine bodyPost_ret (results_cell_row rfl _ _ gb504 24 #[.int .i64 1, .int .i64 0, .string (⟨#[]⟩ : ByteArray)] (0, 0) _ rfl (by (with_reducible repeat (first | refine blk_drewN ?_ _ | refine blk_drew ?_ | refine blk_alloc ?_ _)); refine blk_put (cs := #[.int .i64 1, .int .i64 0, .string (⟨#[]⟩ : ByteArray)]) ?_ 2 _ rfl; (with_reducible repeat (first | refine blk_drewN ?_ _ | refine blk_drew ?_ | refine blk_alloc ?_ _)); refine blk_put (cs := #[.int .i64 1, .int .i64 0, .string (⟨#[]⟩ : ByteArray)]) ?_ 1 _ rfl; (with_reducible repeat (first | refine blk_drewN ?_ _ | refine blk_drew ?_ | refine blk_alloc ?_ _)); refine blk_put (cs := #[.int .i64 0, .int .i64 0, .string (⟨#[]⟩ : ByteArray)]) ?_ 0 _ rfl; (with_reducible repeat (first | refine blk_drewN ?_ _ | refine blk_drew ?_ | refine blk_alloc ?_ _)); exact BK504.out) Try.underlying24 rfl (by kernel_rfl)) rfl ?_
 exact ⟨eW, bS GE504.out⟩
end Go.Proofs.Ytpjcdacnhalclaa.Q
namespace Go.Proofs.Ytpjcdacnhalclaa.Q
open Go.RowKit Go.Proofs.YtpjcdacnhalclaaW.PrintWords Go.Proofs.YtpjcdacnhalclaaW.PrintLast Go.Proofs.YtpjcdacnhalclaaW.PrintMore
attribute [local go_sem] max2_int min2_int max_two min_two max_three min_three max_four min_four
def kOr (x y : Bool) : Bool := x || y
def kAnd (x y : Bool) : Bool := x && y
def kMinus (x y : Bool) : Bool := x && !y
def kNot (x _y : Bool) : Bool := !x
def kCov (x y : Bool) : Bool := y && !x
structure IsKeep (fk : Nat) (kp : Bool → Bool → Bool) : Prop where
 enters : ∀ args w, (callFunc fk args).run Try.prog w = .ok (.enter fk args) w
 tells : ∀ (x y z : Bool) (w : World), some (kp x y) = some z → Calls Try.prog fk #[.bool x, .bool y] w fun e w' => e = .returned (.bool z) ∧ Drawn0 w w'
theorem keep78 : IsKeep 78 kOr where
 enters := enters_of Try.func78 (by kernel_rfl) rfl
 tells x y z w h := by
  obtain rfl := Option.some.inj h
  cases x <;> cases y <;> go_enter Try.func78, Try.ntmps78 <;> go_wp2 <;> go_ret <;> exact ⟨rfl, by repeat (first | exact Drawn0.refl _ | apply Drawn0.step)⟩
theorem keep79 : IsKeep 79 kAnd where
 enters := enters_of Try.func79 (by kernel_rfl) rfl
 tells x y z w h := by
  obtain rfl := Option.some.inj h
  cases x <;> cases y <;> go_enter Try.func79, Try.ntmps79 <;> go_wp2 <;> go_ret <;> exact ⟨rfl, by repeat (first | exact Drawn0.refl _ | apply Drawn0.step)⟩
theorem keep80 : IsKeep 80 kMinus where
 enters := enters_of Try.func80 (by kernel_rfl) rfl
 tells x y z w h := by
  obtain rfl := Option.some.inj h
  cases x <;> cases y <;> go_enter Try.func80, Try.ntmps80 <;> go_wp2 <;> go_ret <;> exact ⟨rfl, by repeat (first | exact Drawn0.refl _ | apply Drawn0.step)⟩
theorem keep81 : IsKeep 81 kNot where
 enters := enters_of Try.func81 (by kernel_rfl) rfl
 tells x y z w h := by
  obtain rfl := Option.some.inj h
  cases x <;> cases y <;> go_enter Try.func81, Try.ntmps81 <;> go_wp2 <;> go_ret <;> exact ⟨rfl, by repeat (first | exact Drawn0.refl _ | apply Drawn0.step)⟩
theorem keep83 : IsKeep 83 kCov where
 enters := enters_of Try.func83 (by kernel_rfl) rfl
 tells x y z w h := by
  obtain rfl := Option.some.inj h
  cases x <;> cases y <;> go_enter Try.func83, Try.ntmps83 <;> go_wp2 <;> go_ret <;> exact ⟨rfl, by repeat (first | exact Drawn0.refl _ | apply Drawn0.step)⟩
section
variable {P : Program} {ops : Array Oper} {Q : Exit → Act → World → Prop}
theorem goesF_ {oi : Oper} {N : Option Tmp} {a : Act} {w : World} {K : Act → World → Prop} {f : FuncId} {o : Operand} {xs : Array Operand} {ts : Array TypeId} (he : ∀ args w, (callFunc f args).run P w = .ok (.enter f args) w) (ho : a.eval o = .func (.func f) #[] #[]) (args : Array Value)
  (hw : Region.wanted oi (yielded ops a.tmps) = true) (hN : oi.dst = N) (hop : oi.op = .call { callee := .value o, args := xs, argTypes := ts }) (hargs : xs.map a.eval = args)
  (h : Calls P f args w fun e w' => ∃ v, e = .returned v ∧ K (a.put N v) w') : if Region.wanted oi (yielded ops a.tmps) = true then Oper.wp P oi a w K Q else K (a.put N undef) w := by
 refine call_ f args hw hN ?_ h
 have he' := he args w
 unfold execOp
 simp [hop, resolve, Deferred.ofValue, invoke, ho, hargs, he']
end
end Go.Proofs.Ytpjcdacnhalclaa.Q
