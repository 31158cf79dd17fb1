/- A part of a proof: facts of functions that the law calls; conditions stand in each. -/
import Derived.Test.YtpjcdacnhalclaaM17x3
import Derived.Test.YtpjcdacnhalclaaM17x7
import Derived.Test.YtpjcdacnhalclaaM17x23
import Derived.Test.YtpjcdacnhalclaaM17x6
import Derived.Test.YtpjcdacnhalclaaM17x17
import Derived.Test.YtpjcdacnhalclaaM17x12
import Derived.Test.YtpjcdacnhalclaaM17x16
import Derived.Test.YtpjcdacnhalclaaM17x18
import Derived.Test.YtpjcdacnhalclaaM17x21
import Derived.Test.YtpjcdacnhalclaaM17x10
import Derived.Test.YtpjcdacnhalclaaM17x9
import Derived.Test.YtpjcdacnhalclaaM17x19
import Derived.Test.YtpjcdacnhalclaaM17x20
import Derived.Test.YtpjcdacnhalclaaM17x8
set_option linter.unusedVariables false
set_option linter.unusedSimpArgs false
namespace Go.Proofs.Ytpjcdacnhalclaa.Q
open Go.RowKit Go.Proofs.YtpjcdacnhalclaaW.PrintWords Go.Proofs.YtpjcdacnhalclaaW.PrintLast Go.Proofs.YtpjcdacnhalclaaW.PrintMore
attribute [local go_sem] max2_int min2_int max_two min_two max_three min_three max_four min_four
def zS : S24 := ⟨0, 0, ⟨#[]⟩⟩
theorem cmpV_le {x y : S24} : cmpV x y ≤ 0 ↔ ¬ ltV y x := by
 rcases cmpV_cases x y with ⟨h, e⟩ | ⟨h, e⟩ | ⟨h, e⟩
 ·rw [e]; exact ⟨fun _ k => ltV_asymm h k, fun _ => by omega⟩
 ·subst h; rw [e]; exact ⟨fun _ k => ltV_irrefl _ k, fun _ => by omega⟩
 ·rw [e]; exact ⟨fun k => by omega, fun k => absurd h k⟩
theorem le_lt {x y z : S24} (h : ¬ ltV y x) (k : ltV y z) : ltV x z := by
 rcases ltV_tri x y with h1 | h1 | h1
 ·exact ltV_trans h1 k
 ·exact h1 ▸ k
 ·exact absurd h1 h
theorem lt_le {x y z : S24} (h : ltV x y) (k : ¬ ltV z y) : ltV x z := by
 rcases ltV_tri y z with h1 | h1 | h1
 ·exact ltV_trans h h1
 ·exact h1 ▸ h
 ·exact absurd h1 k
theorem le_le {x y z : S24} (h : ¬ ltV y x) (k : ¬ ltV z y) : ¬ ltV z x := fun c => k (lt_le c h)
theorem le_of_lt {x y : S24} (h : ltV x y) : ¬ ltV y x := fun c => ltV_asymm h c
theorem le_anti {x y : S24} (h : ¬ ltV y x) (k : ¬ ltV x y) : x = y := by
 rcases ltV_tri x y with h1 | h1 | h1
 ·exact absurd h1 k
 ·exact h1
 ·exact absurd h1 h
theorem oneI_iff (x : S65) (v : S24) : oneI x v = true ↔ ¬ ltV v x.f0 ∧ (x.f2 = true ∨ ltV v x.f1) := by
 unfold oneI
 simp [cmpV_le, cmpV_lt]
theorem inI_cons (x : S65) (l : List S65) (v : S24) : inI (x :: l) v = (oneI x v || inI l v) := rfl
inductive Can : List S65 → Prop
 | nil : Can []
 | last (s : S24) : validS s = true → Can [⟨s, zS, true⟩]
 | cons (s t : S24) (l : List S65) : validS s = true → validS t = true → ltV s t → (∀ y ∈ l.head?, ltV t y.f0) → Can l → Can (⟨s, t, false⟩ :: l)
theorem S65.eta_ (x : S65) : x = ⟨x.f0, x.f1, x.f2⟩ := rfl
theorem zS_iff (x : S24) : (x.f0 == 0 && (x.f1 == 0 && (x.f2.toList == ([] : List UInt8)))) = true ↔ x = zS := by
 constructor
 ·intro h
  simp only [Bool.and_eq_true, beq_iff_eq] at h
  exact S24.ext_ h.1 h.2.1 (h.2.2.trans toListE.symm)
 ·intro h
  subst h
  simp [zS, toListE]
theorem ordI_can : ∀ l : List S65, ordI l = true ↔ Can l
 | [] => ⟨fun _ => .nil, fun _ => rfl⟩
 | x :: l => by
  have ih := ordI_can l
  by_cases h2 : x.f2 = true
  ·constructor
   ·intro h
    unfold ordI headOk at h
    simp only [h2, if_true, Bool.and_eq_true, Bool.and_true] at h
    obtain ⟨⟨hv, hl, hz⟩, -⟩ := h
    have hl : l = [] := List.isEmpty_iff.1 hl
    have hz : x.f1 = zS := (zS_iff _).1 (by simpa only [Bool.and_eq_true] using hz)
    subst hl
    have := Can.last x.f0 hv
    rw [S65.eta_ x, hz, h2]
    exact this
   ·intro h
    cases h with
    | last s hv => unfold ordI headOk; simp [hv, ordI, zS, toListE]
    | cons s t l hs ht hst hy hl => simp at h2
  ·have h2' : x.f2 = false := Bool.eq_false_iff.2 h2
   constructor
   ·intro h
    unfold ordI headOk at h
    simp only [h2', if_false, Bool.and_eq_true, Bool.false_eq_true, decide_eq_true_eq] at h
    obtain ⟨⟨⟨hs, ht, hst⟩, hg⟩, ho⟩ := h
    rw [S65.eta_ x, h2']
    refine .cons _ _ _ hs ht (cmpV_lt.1 hst) (fun y hy => ?_) (ih.1 ho)
    cases l with
    | nil => simp at hy
    | cons z l =>
     simp at hy
     subst hy
     unfold gapOk at hg
     exact cmpV_lt.1 (of_decide_eq_true hg)
   ·intro h
    cases h with
    | last s hv => simp at h2
    | cons s t l hs ht hst hy hl =>
     unfold ordI headOk
     simp only [Bool.false_eq_true, if_false, hs, ht, Bool.true_and, Bool.and_eq_true, decide_eq_true_eq]
     refine ⟨⟨cmpV_lt.2 hst, ?_⟩, ih.2 hl⟩
     cases l with
     | nil => rfl
     | cons z l => unfold gapOk; exact decide_eq_true (cmpV_lt.2 (hy z rfl))
theorem Can.ge : ∀ {l : List S65}, Can l → ∀ y ∈ l.head?, ∀ v, inI l v = true → ¬ ltV v y.f0
 | [], _, y, hy, _, _ => by simp at hy
 | x :: l, h, y, hy, v, hv => by
  simp at hy
  subst hy
  rw [inI_cons, Bool.or_eq_true] at hv
  rcases hv with hv | hv
  ·exact ((oneI_iff _ _).1 hv).1
  ·cases h with
   | last s hs => simp [inI] at hv
   | cons s t l hs ht hst hy hl =>
    cases l with
    | nil => simp [inI] at hv
    | cons z l =>
     have h1 := Can.ge hl z rfl v hv
     have h2 := hy z rfl
     exact le_le (le_of_lt (ltV_trans hst h2)) h1
theorem Can.above {s t : S24} {l : List S65} (hy : ∀ y ∈ l.head?, ltV t y.f0) (hl : Can l) {v : S24} (hv : inI l v = true) : ltV t v := by
 cases l with
 | nil => simp [inI] at hv
 | cons z l => exact lt_le (hy z rfl) (hl.ge z rfl v hv)
theorem Can.first {x : S65} {l : List S65} (h : Can (x :: l)) : validS x.f0 = true ∧ inI (x :: l) x.f0 = true := by
 cases h with
 | last s hs => exact ⟨hs, by rw [inI_cons, (oneI_iff _ _).2 ⟨ltV_irrefl _, .inl rfl⟩]; rfl⟩
 | cons s t l hs ht hst hy hl => exact ⟨hs, by rw [inI_cons, (oneI_iff _ _).2 ⟨ltV_irrefl _, .inr hst⟩]; rfl⟩
theorem Can.unique : ∀ {l m : List S65}, Can l → Can m → (∀ v, validS v = true → inI l v = inI m v) → l = m
 | [], [], _, _, _ => rfl
 | [], y :: m, _, hm, h => by
  have := h _ hm.first.1
  rw [hm.first.2] at this
  simp [inI] at this
 | x :: l, [], hl, _, h => by
  have := h _ hl.first.1
  rw [hl.first.2] at this
  simp [inI] at this
 | x :: l, y :: m, hl, hm, h => by
  have e0 : x.f0 = y.f0 := by
   refine le_anti ?_ ?_
   ·exact hl.ge x rfl _ ((h _ hm.first.1).trans hm.first.2)
   ·exact hm.ge y rfl _ ((h _ hl.first.1).symm.trans hl.first.2)
  cases hl with
  | last s hs =>
   cases hm with
   | last s' hs' => have e0 : s = s' := e0; rw [e0]
   | cons s' t m hs' ht hst hy hm =>
    have e0 : s = s' := e0
    subst e0
    have h1 := h t ht
    rw [inI_cons, inI_cons, (oneI_iff _ _).2 ⟨le_of_lt hst, .inl rfl⟩] at h1
    have h2 : oneI ⟨s, t, false⟩ t = false := by
     rw [Bool.eq_false_iff]
     intro c
     rcases ((oneI_iff _ _).1 c).2 with c | c
     ·cases c
     ·exact ltV_irrefl _ c
    rw [h2] at h1
    have h3 : inI m t = true := by simpa using h1.symm
    exact absurd (Can.above (s := s) hy hm h3) (ltV_irrefl _)
  | cons s t l hs ht hst hy hl =>
   cases hm with
   | last s' hs' =>
    have e0 : s = s' := e0
    subst e0
    have h1 := h t ht
    rw [inI_cons, inI_cons, (oneI_iff ⟨s, zS, true⟩ _).2 ⟨le_of_lt hst, .inl rfl⟩] at h1
    have h2 : oneI ⟨s, t, false⟩ t = false := by
     rw [Bool.eq_false_iff]
     intro c
     rcases ((oneI_iff _ _).1 c).2 with c | c
     ·cases c
     ·exact ltV_irrefl _ c
    rw [h2] at h1
    have h3 : inI l t = true := by simpa using h1
    exact absurd (Can.above (s := s) hy hl h3) (ltV_irrefl _)
   | cons s' t' m hs' ht' hst' hy' hm =>
    have e0 : s = s' := e0
    subst e0
    have key : ∀ {t t' : S24} {l m : List S65}, validS t = true → ltV s t → (∀ y ∈ l.head?, ltV t y.f0) → Can l → (∀ v, validS v = true → inI (⟨s, t, false⟩ :: l) v = inI (⟨s, t', false⟩ :: m) v) → ¬ ltV t t' := by
     intro t t' l m ht hst hy hl h c
     have h1 := h t ht
     rw [inI_cons, inI_cons, (oneI_iff ⟨s, t', false⟩ _).2 ⟨le_of_lt hst, .inr c⟩] at h1
     have h2 : oneI ⟨s, t, false⟩ t = false := by
      rw [Bool.eq_false_iff]
      intro c
      rcases ((oneI_iff _ _).1 c).2 with c | c
      ·cases c
      ·exact ltV_irrefl _ c
     rw [h2] at h1
     have h3 : inI l t = true := by simpa using h1
     exact ltV_irrefl _ (Can.above (s := s) hy hl h3)
    have e1 : t = t' := le_anti (key ht' hst' hy' hm fun v hv => (h v hv).symm) (key ht hst hy hl h)
    subst e1
    have : l = m := by
     refine Can.unique hl hm fun v hv => ?_
     by_cases c : ltV t v
     ·have h1 := h v hv
      rw [inI_cons, inI_cons] at h1
      have h2 : oneI ⟨s, t, false⟩ v = false := by
       rw [Bool.eq_false_iff]
       intro d
       rcases ((oneI_iff _ _).1 d).2 with d | d
       ·cases d
       ·exact ltV_asymm c d
      rw [h2] at h1
      simpa using h1
     ·have a : inI l v = false := by
       rw [Bool.eq_false_iff]
       exact fun d => c (Can.above (s := s) hy hl d)
      have b : inI m v = false := by
       rw [Bool.eq_false_iff]
       exact fun d => c (Can.above (s := s) hy' hm d)
      rw [a, b]
    rw [this]
mutual
def sw (g : S24 → Bool) : List S24 → List S65
 | [] => []
 | p :: ps => if g p then swO g p ps else sw g ps
def swO (g : S24 → Bool) (s : S24) : List S24 → List S65
 | [] => [⟨s, zS, true⟩]
 | p :: ps => if g p then swO g s ps else ⟨s, p, false⟩ :: sw g ps
end
theorem sw_can (g : S24 → Bool) : ∀ (ps : List S24), ps.Pairwise ltV → (∀ p ∈ ps, validS p = true) → (Can (sw g ps) ∧ (∀ y ∈ (sw g ps).head?, y.f0 ∈ ps)) ∧ ∀ s, validS s = true → (∀ p ∈ ps, ltV s p) → Can (swO g s ps) ∧ (∀ y ∈ (swO g s ps).head?, y.f0 = s)
 | [], _, _ => ⟨⟨by unfold sw; exact .nil, by unfold sw; simp⟩, fun s hs _ => ⟨by unfold swO; exact .last s hs, by unfold swO; simp⟩⟩
 | p :: ps, h, hv => by
  obtain ⟨hp, h⟩ := List.pairwise_cons.1 h
  obtain ⟨⟨c1, d1⟩, o1⟩ := sw_can g ps h (fun q hq => hv q (List.mem_cons_of_mem _ hq))
  have hvp := hv p (by simp)
  refine ⟨?_, fun s hs hlt => ?_⟩
  ·unfold sw
   split
   ·obtain ⟨c2, d2⟩ := o1 p hvp hp
    exact ⟨c2, fun y hy => by rw [d2 y hy]; simp⟩
   ·exact ⟨c1, fun y hy => List.mem_cons_of_mem _ (d1 y hy)⟩
  ·unfold swO
   split
   ·exact o1 s hs fun q hq => hlt q (List.mem_cons_of_mem _ hq)
   ·exact ⟨.cons _ _ _ hs hvp (hlt p (by simp)) (fun y hy => hp _ (d1 y hy)) c1, by simp⟩
def at_ (g : S24 → Bool) (d : Bool) : List S24 → S24 → Bool
 | [], _ => d
 | p :: ps, v => if cmpV v p < 0 then d else at_ g (g p) ps v
theorem at_low (g : S24 → Bool) (d : Bool) (ps : List S24) (v : S24) (h : ∀ p ∈ ps, ltV v p) : at_ g d ps v = d := by
 cases ps with
 | nil => rfl
 | cons p ps => unfold at_; rw [if_pos (cmpV_lt.2 (h p (by simp)))]
theorem sw_mem (g : S24 → Bool) (v : S24) : ∀ (ps : List S24), ps.Pairwise ltV → inI (sw g ps) v = at_ g false ps v ∧ ∀ s, (∀ p ∈ ps, ltV s p) → inI (swO g s ps) v = (decide (¬ cmpV v s < 0) && at_ g true ps v)
 | [], _ => ⟨by unfold sw at_; rfl, fun s _ => by
   unfold swO at_
   rw [inI_cons, Bool.eq_iff_iff, Bool.or_eq_true, oneI_iff]
   simp [cmpV_lt, inI]⟩
 | p :: ps, h => by
  obtain ⟨hp, h⟩ := List.pairwise_cons.1 h
  obtain ⟨c1, o1⟩ := sw_mem g v ps h
  refine ⟨?_, fun s hlt => ?_⟩
  ·unfold sw at_
   by_cases hg : g p = true
   ·rw [if_pos hg, o1 p hp, hg]
    by_cases hc : cmpV v p < 0
    ·simp [hc]
    ·simp [hc]
   ·rw [if_neg hg, c1, Bool.eq_false_iff.2 hg]
    by_cases hc : cmpV v p < 0
    ·rw [if_pos hc, at_low _ _ _ _ fun q hq => ltV_trans (cmpV_lt.1 hc) (hp q hq)]
    ·rw [if_neg hc]
  ·have hsp := hlt p (by simp)
   have hls : ∀ q ∈ ps, ltV s q := fun q hq => hlt q (List.mem_cons_of_mem _ hq)
   unfold swO at_
   by_cases hg : g p = true
   ·rw [if_pos hg, o1 s hls, hg]
    by_cases hc : cmpV v p < 0
    ·rw [if_pos hc, at_low _ _ _ _ fun q hq => ltV_trans (cmpV_lt.1 hc) (hp q hq)]
    ·rw [if_neg hc]
   ·rw [if_neg hg, inI_cons, c1, Bool.eq_false_iff.2 hg]
    by_cases hc : cmpV v p < 0
    ·rw [if_pos hc, at_low _ _ _ _ fun q hq => ltV_trans (cmpV_lt.1 hc) (hp q hq), Bool.or_false, Bool.and_true, Bool.eq_iff_iff, oneI_iff]
     simp [cmpV_lt, cmpV_lt.1 hc]
    ·rw [if_neg hc]
     have hs : ¬ cmpV v s < 0 := fun c => hc (cmpV_lt.2 (ltV_trans (cmpV_lt.1 c) hsp))
     have : oneI ⟨s, p, false⟩ v = false := by
      rw [Bool.eq_false_iff]
      intro d
      rcases ((oneI_iff _ _).1 d).2 with d | d
      ·cases d
      ·exact hc (cmpV_lt.2 d)
     rw [this]
     simp [hs]
def Chg (g : S24 → Bool) (ps : List S24) : Prop := ∀ u v, ¬ ltV v u → (∀ p ∈ ps, ¬ (ltV u p ∧ ¬ ltV v p)) → g u = g v
theorem at_chg (g : S24 → Bool) (v : S24) : ∀ (ps : List S24) (p : S24), (p :: ps).Pairwise ltV → (∀ u, ¬ ltV u p → ¬ ltV v u → (∀ q ∈ ps, ¬ (ltV u q ∧ ¬ ltV v q)) → g u = g v) → ¬ ltV v p → at_ g (g p) ps v = g v
 | [], p, _, H, hv => H p (ltV_irrefl _) hv (by simp)
 | q :: qs, p, h, H, hv => by
  obtain ⟨hp, h⟩ := List.pairwise_cons.1 h
  have hq := (List.pairwise_cons.1 h).1
  unfold at_
  by_cases hc : cmpV v q < 0
  ·rw [if_pos hc]
   refine H p (ltV_irrefl _) hv fun q' hq' hn => hn.2 ?_
   rcases List.mem_cons.1 hq' with e | e
   ·exact e ▸ cmpV_lt.1 hc
   ·exact ltV_trans (cmpV_lt.1 hc) (hq _ e)
  ·rw [if_neg hc]
   refine at_chg g v qs q h (fun u hu huv hn => H u (le_le (le_of_lt (hp q (by simp))) hu) huv fun q' hq' hn' => ?_) fun c => hc (cmpV_lt.2 c)
   rcases List.mem_cons.1 hq' with e | e
   ·exact hu (e ▸ hn'.1)
   ·exact hn q' e hn'
theorem at_all (g : S24 → Bool) (d : Bool) (ps : List S24) (h : ps.Pairwise ltV) (H : Chg g ps) (v : S24) (hv : ∀ p ∈ ps.head?, ¬ ltV v p) (hne : ps ≠ []) : at_ g d ps v = g v := by
 cases ps with
 | nil => exact absurd rfl hne
 | cons p ps =>
  have hp := hv p rfl
  unfold at_
  rw [if_neg (fun c => hp (cmpV_lt.1 c))]
  refine at_chg g v ps p h (fun u hu huv hn => H u v huv fun q hq hn' => ?_) hp
  rcases List.mem_cons.1 hq with e | e
  ·exact hu (e ▸ hn'.1)
  ·exact hn q e hn'
def endsI (l : List S65) : List S24 := l.flatMap fun x => if x.f2 = true then [x.f0] else [x.f0, x.f1]
theorem endsI_cons (x : S65) (l : List S65) : endsI (x :: l) = (if x.f2 = true then [x.f0] else [x.f0, x.f1]) ++ endsI l := by unfold endsI; rw [List.flatMap_cons]
theorem len_ends : ∀ l : List S65, l.length ≤ (endsI l).length
 | [] => by simp
 | x :: l => by
  have := len_ends l
  rw [endsI_cons, List.length_append, List.length_cons]
  split <;> simp <;> omega
theorem chg_one (x : S65) : Chg (oneI x) (if x.f2 = true then [x.f0] else [x.f0, x.f1]) := by
 intro u v huv hn
 have h0 := hn x.f0 (by split <;> simp)
 rw [Bool.eq_iff_iff, oneI_iff, oneI_iff]
 have a : ltV u x.f0 ↔ ltV v x.f0 := ⟨fun c => Classical.byContradiction fun d => h0 ⟨c, d⟩, fun c => le_lt huv c⟩
 by_cases h2 : x.f2 = true
 ·simp [h2, a]
 ·have h1 := hn x.f1 (by rw [if_neg h2]; simp)
  have b : ltV u x.f1 ↔ ltV v x.f1 := ⟨fun c => Classical.byContradiction fun d => h1 ⟨c, d⟩, fun c => le_lt huv c⟩
  simp [a, b]
theorem Chg.mono {g : S24 → Bool} {ps qs : List S24} (h : Chg g ps) (k : ∀ p ∈ ps, p ∈ qs) : Chg g qs := fun u v huv hn => h u v huv fun p hp => hn p (k p hp)
theorem chg_in : ∀ l : List S65, Chg (inI l) (endsI l)
 | [] => fun _ _ _ _ => rfl
 | x :: l => fun u v huv hn => by
  rw [inI_cons, inI_cons, chg_one x u v huv fun p hp => hn p (by rw [endsI_cons]; exact List.mem_append_left _ hp), chg_in l u v huv fun p hp => hn p (by rw [endsI_cons]; exact List.mem_append_right _ hp)]
theorem chg_kp (kp : Bool → Bool → Bool) (a b : List S65) : Chg (fun v => kp (inI a v) (inI b v)) (endsI a ++ endsI b) := fun u v huv hn => by
 show kp _ _ = kp _ _
 rw [chg_in a u v huv fun p hp => hn p (List.mem_append_left _ hp), chg_in b u v huv fun p hp => hn p (List.mem_append_right _ hp)]
theorem sw_ends (g : S24 → Bool) : ∀ (ps : List S24), (endsI (sw g ps)).length ≤ ps.length ∧ ∀ s, (endsI (swO g s ps)).length ≤ ps.length + 1
 | [] => ⟨by unfold sw; simp [endsI], fun s => by unfold swO; simp [endsI]⟩
 | p :: ps => by
  obtain ⟨c1, o1⟩ := sw_ends g ps
  refine ⟨?_, fun s => ?_⟩
  ·unfold sw
   split
   ·exact o1 p
   ·simp; omega
  ·unfold swO
   split
   ·have := o1 s; simp; omega
   ·rw [endsI_cons, List.length_append]
    simp
    omega
theorem Can.ends : ∀ {l : List S65}, Can l → ∀ p ∈ endsI l, validS p = true
 | _, .nil, p, hp => by simp [endsI] at hp
 | _, .last s hs, p, hp => by
  simp [endsI] at hp
  exact hp ▸ hs
 | _, .cons s t l hs ht _ _ hl, p, hp => by
  rw [endsI_cons] at hp
  simp at hp
  rcases hp with e | e | e
  ·exact e ▸ hs
  ·exact e ▸ ht
  ·exact Can.ends hl p e
def leastS : S24 := ⟨1, 0, ⟨#[]⟩⟩
theorem least_le {v : S24} (h : validS v = true) : ¬ ltV v leastS := by
 have hk := validV_kind (x := v) h
 rintro (c | ⟨c, d⟩)
 ·have c : v.f0 < 1 := c
  omega
 ·have c : v.f0 = 1 := c
  rcases validV_cases h with e | e | e | e
  ·rcases d with d | ⟨_, d⟩
   ·have d : v.f1 < 0 := d
    omega
   ·have d : v.f2.toList < (⟨#[]⟩ : ByteArray).toList := d
    rw [toListE] at d
    exact absurd d (by simp)
  ·omega
  ·omega
  ·omega
theorem least_valid : validS leastS = true := validV_low (a := 1) (b := 0) (.inl ⟨.inl rfl, rfl⟩)
structure IsOp (kp : Bool → Bool → Bool) (a b r : List S65) : Prop where
 can : Can r
 mem : ∀ v, validS v = true → inI r v = kp (inI a v) (inI b v)
 len : (endsI r).length ≤ 1 + (endsI a).length + (endsI b).length
theorem IsOp.of_least (kp : Bool → Bool → Bool) {a b : List S65} {ps : List S24} (hv : ∀ p ∈ ps, validS p = true) (hs : ps.Pairwise ltV) (hm : ∀ p, p ∈ ps ↔ p ∈ leastS :: (endsI a ++ endsI b)) (hl : ps.length ≤ 1 + (endsI a).length + (endsI b).length) :
  IsOp kp a b (sw (fun v => kp (inI a v) (inI b v)) ps) where
 can := (sw_can _ ps hs hv).1.1
 mem := fun v h => by
  rw [(sw_mem _ v ps hs).1]
  refine at_all _ _ ps hs ((chg_kp kp a b).mono fun p hp => (hm p).2 (List.mem_cons_of_mem _ hp)) v ?_ (List.ne_nil_of_mem ((hm leastS).2 (by simp)))
  cases ps with
  | nil => simp
  | cons p ps =>
   intro q hq
   simp at hq
   subst hq
   have hle : ¬ ltV leastS p := by
    rcases List.mem_cons.1 ((hm leastS).2 (by simp)) with e | e
    ·exact e ▸ ltV_irrefl _
    ·exact le_of_lt ((List.pairwise_cons.1 hs).1 _ e)
   exact le_le hle (least_le h)
 len := Nat.le_trans (sw_ends _ ps).1 hl
theorem inI_low {l : List S65} {v : S24} (h : ∀ p ∈ endsI l, ltV v p) : inI l v = false := by
 rw [Bool.eq_false_iff]
 intro c
 obtain ⟨x, hx, hv⟩ := List.any_eq_true.1 c
 refine ((oneI_iff x v).1 hv).1 (h _ ?_)
 unfold endsI
 rw [List.mem_flatMap]
 exact ⟨x, hx, by split <;> simp⟩
theorem IsOp.of_none (kp : Bool → Bool → Bool) (hk : kp false false = false) {a b : List S65} {ps : List S24} (hv : ∀ p ∈ ps, validS p = true) (hs : ps.Pairwise ltV) (hm : ∀ p, p ∈ ps ↔ p ∈ endsI a ++ endsI b) (hl : ps.length ≤ (endsI a).length + (endsI b).length) :
  IsOp kp a b (sw (fun v => kp (inI a v) (inI b v)) ps) ∧ (endsI (sw (fun v => kp (inI a v) (inI b v)) ps)).length ≤ (endsI a).length + (endsI b).length := by
 have h2 := Nat.le_trans (sw_ends (fun v => kp (inI a v) (inI b v)) ps).1 hl
 refine ⟨⟨(sw_can _ ps hs hv).1.1, fun v h => ?_, by omega⟩, h2⟩
 rw [(sw_mem _ v ps hs).1]
 by_cases c : ∀ p ∈ ps, ltV v p
 ·rw [at_low _ _ _ _ c, inI_low fun p hp => c p ((hm p).2 (List.mem_append_left _ hp)), inI_low fun p hp => c p ((hm p).2 (List.mem_append_right _ hp)), hk]
 ·cases ps with
  | nil => simp at c
  | cons p ps =>
   refine at_all _ _ _ hs ((chg_kp kp a b).mono fun p hp => (hm p).2 hp) v ?_ (by simp)
   intro q hq
   simp at hq
   subst hq
   intro d
   refine c fun q hq => ?_
   rcases List.mem_cons.1 hq with e | e
   ·exact e ▸ d
   ·exact ltV_trans d ((List.pairwise_cons.1 hs).1 _ e)
theorem IsOp.same {kp : Bool → Bool → Bool} {a b r q : List S65} (h : IsOp kp a b r) (k : IsOp kp a b q) : r = q := h.can.unique k.can fun v hv => (h.mem v hv).trans (k.mem v hv).symm
theorem rd_L4_nat (x : List (List S24)) (i : Nat) (h : i < x.length) : rd_L4 x (i : Int) = x[i] := by
 unfold rd_L4
 rw [List.getD_eq_getElem?_getD, Int.toNat_natCast, List.getElem?_eq_getElem h]
 rfl
theorem notz (x : S24) : (!(x.f0 == 0) || (!(x.f1 == 0) || !(x.f2.toList == ([] : List UInt8)))) = !(x.f0 == 0 && (x.f1 == 0 && (x.f2.toList == ([] : List UInt8)))) := by
 simp only [Bool.not_and]
theorem i_Valid.at_ (l : List S65) (hl : l.length < 4611686018427387904) : ∀ (m i : Nat), l.length - i = m → i ≤ l.length → Ev (fun k => i_Valid.l0 k l l l.length i) (ordI (l.drop i)) := by
 intro m
 induction m with
 | zero =>
  intro i hm hi
  have : l.drop i = [] := List.drop_eq_nil_iff.2 (by omega)
  rw [this]
  exact Ev.step (f := fun _ => some true) (fun k => by rw [i_Valid.l0, if_neg (by omega)]) (Ev.now _)
 | succ m ih =>
  intro i hm hi
  have hil : i < l.length := by omega
  have hw : wrap64 ((i : Int) + 1) = ((i + 1 : Nat) : Int) := wrap64_succ (by omega)
  have hp : wrap64 ((l.length : Int) - 1) = (l.length : Int) - 1 := by unfold wrap64; omega
  have ih' := ih (i + 1) (by omega) (by omega)
  rw [List.drop_eq_getElem_cons hil]
  generalize hx : l[i] = x
  generalize hr : ordI (l.drop (i + 1)) = r at ih'
  have ho : ordI (x :: l.drop (i + 1)) = (headOk x (l.drop (i + 1)) && (if x.f2 = true then true else gapOk x (l.drop (i + 1))) && r) := by rw [ordI, hr]
  rw [ho]
  refine Ev.step (fun k => by rw [i_Valid.l0, if_pos (by omega), if_pos (by omega), if_pos (by omega), rd_T65_nat l i hil, hw, hx, hp, notz]) ?_
  refine Ev.bind (v_Valid.ev _ _ _) ?_
  unfold headOk
  by_cases hv : validV x.f0.f0 x.f0.f1 x.f0.f2 = true
  ·have hv' : validS x.f0 = true := hv
   simp only [hv, hv', if_true, Bool.true_and]
   by_cases h2 : x.f2 = true
   ·simp only [h2, if_true, Bool.and_true]
    by_cases hn : i + 1 < l.length
    ·have e : (l.drop (i + 1)).isEmpty = false := by rw [List.drop_eq_getElem_cons hn]; rfl
     rw [e]
     refine Ev.congr (fun k => if_pos (by omega)) ?_
     exact Ev.now _
    ·have e : l.drop (i + 1) = [] := List.drop_eq_nil_iff.2 (by omega)
     rw [e]
     refine Ev.congr (fun k => if_neg (by omega)) ?_
     generalize (x.f1.f0 == 0 && (x.f1.f1 == 0 && (x.f1.f2.toList == ([] : List UInt8)))) = z
     cases z
     ·exact Ev.now _
     ·exact ih'
   ·have h2 := Bool.eq_false_iff.2 h2
    simp only [h2, Bool.false_eq_true, if_false]
    refine Ev.bind (v_Valid.ev _ _ _) ?_
    have step : ∀ b : Bool, Ev (fun k => i_Valid.j1 k l i l l.length i b x.f0.f0 x.f0.f1 x.f0.f2 x.f1.f0 x.f1.f1 x.f1.f2 false) (!b && (gapOk x (l.drop (i + 1)) && r)) := by
     intro b
     refine Ev.step (fun k => by rw [i_Valid.j1]) ?_
     cases b
     ·simp only [Bool.false_eq_true, if_false, Bool.not_false, Bool.true_and]
      by_cases hn : i + 1 < l.length
      ·have eg : gapOk x (l.drop (i + 1)) = decide (cmpV x.f1 l[i + 1].f0 < 0) := by rw [List.drop_eq_getElem_cons hn]; rfl
       rw [eg]
       refine Ev.congr (fun k => by rw [hp, hw, if_pos (by omega), if_pos (by omega), if_pos (by omega), rd_T65_nat l (i + 1) hn, v_Compare.some_ x.f1 l[i + 1].f0, Option.bind_some]) ?_
       by_cases hc : cmpV x.f1 l[i + 1].f0 ≥ 0
       ·refine Ev.congr (fun k => if_pos hc) ?_
        rw [decide_eq_false (by omega)]
        exact Ev.now _
       ·refine Ev.congr (fun k => if_neg hc) ?_
        rw [decide_eq_true (by omega)]
        exact ih'
      ·have e : l.drop (i + 1) = [] := List.drop_eq_nil_iff.2 (by omega)
       rw [e]
       refine Ev.congr (fun k => by rw [hp, hw, if_neg (by omega)]) ?_
       exact ih'
     ·simp only [if_true, Bool.not_true, Bool.false_and]
      exact Ev.now _
    by_cases hv1 : validV x.f1.f0 x.f1.f1 x.f1.f2 = true
    ·have hv1' : validS x.f1 = true := hv1
     simp only [hv1, hv1', if_true, Bool.true_and, v_Compare.some_, Option.bind_some]
     have := step (decide (cmpV x.f0 x.f1 ≥ 0))
     rw [show decide (cmpV x.f0 x.f1 < 0) = !decide (cmpV x.f0 x.f1 ≥ 0) by rw [← decide_not]; congr 1; exact propext ⟨fun _ => by omega, fun _ => by omega⟩, Bool.and_assoc]
     exact this
    ·have hv1' : validS x.f1 = false := Bool.eq_false_iff.2 hv1
     simp only [Bool.eq_false_iff.2 hv1, hv1', if_false, Bool.false_and, Bool.false_eq_true]
     have := step true
     simpa using this
  ·have hv' : validS x.f0 = false := Bool.eq_false_iff.2 hv
   simp only [Bool.eq_false_iff.2 hv, hv', Bool.false_and, Bool.false_eq_true, if_false]
   exact Ev.now _
def okI (l : List S65) : Bool := decide (l.length ≤ 64) && ordI l
theorem i_Valid.ev (l : List S65) : Ev (fun k => i_Valid.f k l) (okI l) := by
 unfold okI
 by_cases h : l.length ≤ 64
 ·rw [decide_eq_true h, Bool.true_and]
  have := i_Valid.at_ l (by omega) l.length 0 rfl (Nat.zero_le _)
  exact Ev.congr (fun k => by unfold i_Valid.f; rw [if_neg (by omega)]; rfl) this
 ·rw [decide_eq_false h, Bool.false_and]
  exact Ev.congr (fun k => by unfold i_Valid.f; rw [if_pos (by omega)]) (Ev.now _)
theorem okI_can {l : List S65} : okI l = true ↔ l.length ≤ 64 ∧ Can l := by
 unfold okI
 rw [Bool.and_eq_true, decide_eq_true_eq, ordI_can]
theorem dedV_mem (l : List S24) (v : S24) : v ∈ dedV l ↔ v ∈ l := by
 unfold dedV Go.Lib.compactUpTo
 simp only [List.mem_map, List.mem_filter, List.mem_range]
 constructor
 ·rintro ⟨j, ⟨hj, _⟩, rfl⟩
  rw [show (l.toArray[j]!) = l[j] by simp [hj]]
  exact List.getElem_mem hj
 ·have key : ∀ j, (hj : j < l.length) → ∃ a, (a < l.length ∧ Go.Lib.keeps l.toArray a = true) ∧ l.toArray[a]! = l.toArray[j]! := by
   intro j
   induction j with
   | zero => exact fun hj => ⟨0, ⟨hj, Go.Lib.keeps_lt_one _ 0 (by omega)⟩, rfl⟩
   | succ j ih =>
    intro hj
    by_cases he : l.toArray[j + 1]! = l.toArray[j]!
    ·obtain ⟨a, ha, e⟩ := ih (by omega)
     exact ⟨a, ha, e.trans he.symm⟩
    ·exact ⟨j + 1, ⟨hj, Go.Lib.keeps_pos he⟩, rfl⟩
  intro hv
  obtain ⟨j, hj, rfl⟩ := List.getElem_of_mem hv
  obtain ⟨a, ha, e⟩ := key j hj
  exact ⟨a, ha, e.trans (by simp [hj])⟩
theorem dedV_len (l : List S24) : (dedV l).length ≤ l.length := by
 unfold dedV Go.Lib.compactUpTo
 rw [List.length_map]
 exact Nat.le_trans (List.length_filter_le _ _) (by simp)
theorem dedV_sorted (l : List S24) (h : l.Pairwise fun a b => leV a b = true) : (dedV l).Pairwise ltV := by
 unfold dedV Go.Lib.compactUpTo
 rw [List.pairwise_map, List.pairwise_filter]
 refine List.Pairwise.imp_of_mem ?_ List.pairwise_lt_range
 intro i j hi hj hij _ hk
 have hj := List.mem_range.1 hj
 have hi := List.mem_range.1 hi
 have hne : l.toArray[j]! ≠ l.toArray[j - 1]! := by
  intro he
  rw [Go.Lib.keeps_neg (by omega) he] at hk
  cases hk
 have hg : ∀ a, a < l.length → l.toArray[a]! = l[a]! := fun a ha => by simp
 have hle : ∀ a b, a ≤ b → b < l.length → ¬ ltV l.toArray[b]! l.toArray[a]! := by
  intro a b hab hb
  rcases Nat.lt_or_eq_of_le hab with c | c
  ·have := List.pairwise_iff_getElem.1 h a b (by omega) hb c
   have e1 : l.toArray[a]! = l[a] := by simp [show a < l.length by omega]
   have e2 : l.toArray[b]! = l[b] := by simp [hb]
   rw [e1, e2]
   exact cmpV_le.1 (of_decide_eq_true this)
  ·subst c; exact ltV_irrefl _
 have h1 := hle i (j - 1) (by omega) (by omega)
 have h2 := hle (j - 1) j (by omega) hj
 rcases ltV_tri l.toArray[j - 1]! l.toArray[j]! with c | c | c
 ·exact le_lt h1 c
 ·exact absurd c.symm hne
 ·exact absurd c h2
structure IsPts (es ps : List S24) : Prop where
 sorted : ps.Pairwise ltV
 mem : ∀ v, v ∈ ps ↔ v ∈ es
 len : ps.length ≤ es.length
theorem dedV_pts (es : List S24) : IsPts es (dedV (es.mergeSort leV)) where
 sorted := dedV_sorted _ (List.pairwise_mergeSort leV_trans leV_total es)
 mem := fun v => by rw [dedV_mem, List.mem_mergeSort]
 len := by rw [← List.length_mergeSort (le := leV) es]; exact dedV_len _
theorem ded_one : ∀ (s : List S24) (p : S24), (p :: s).Pairwise (fun a b => leV a b = true) → ∃ t : List S24, ded (some [p]) (s.map fun v => [v]) = t.map (fun v => [v]) ∧ (p :: t).Pairwise ltV ∧ (∀ v, v ∈ p :: t ↔ v ∈ p :: s) ∧ t.length ≤ s.length
 | [], p, _ => ⟨[], rfl, by simp, fun _ => Iff.rfl, Nat.le_refl _⟩
 | x :: s, p, h => by
  obtain ⟨hp, hs⟩ := List.pairwise_cons.1 h
  obtain ⟨t, e, ht, hm, hl⟩ := ded_one s x hs
  rw [List.map_cons, ded]
  by_cases hc : cmpL [p] [x] = 0
  ·have : p = x := by simpa using cmpL_zero.1 hc
   subst this
   exact ⟨t, by rw [if_pos hc, e], ht, fun v => by rw [hm]; simp, by simp; omega⟩
  ·have hpx : ltV p x := by
    have h1 := cmpV_le.1 (of_decide_eq_true (hp x (by simp)))
    rcases ltV_tri p x with c | c | c
    ·exact c
    ·exact absurd (cmpL_zero.2 (by rw [c])) hc
    ·exact absurd c h1
   refine ⟨x :: t, by rw [if_neg hc, e]; rfl, ?_, fun v => ?_, by simp; omega⟩
   ·rw [List.pairwise_cons]
    refine ⟨fun q hq => ?_, ht⟩
    rcases List.mem_cons.1 hq with c | c
    ·exact c ▸ hpx
    ·exact ltV_trans hpx ((List.pairwise_cons.1 ht).1 q c)
   ·rw [List.mem_cons, hm v, ← List.mem_cons]
theorem leL_one (a b : S24) : leL [a] [b] = leV a b := by
 unfold leL leV
 congr 1
 rw [cmpL]
 by_cases h : cmpV a b = 0
 ·simp [h, cmpL]
 ·simp [h]
theorem setOf_pts (es : List S24) : ∃ ps, setOf (es.map fun v => [v]) = ps.map (fun v => [v]) ∧ IsPts es ps := by
 have hs : (es.mergeSort leV).map (fun v => [v]) = (es.map fun v => [v]).mergeSort leL := by
  refine sorted_is ((List.mergeSort_perm es leV).map _) ?_
  rw [List.pairwise_map]
  exact (List.pairwise_mergeSort leV_trans leV_total es).imp fun h => (leL_one _ _).trans h
 unfold setOf
 rw [← hs]
 have hp := List.pairwise_mergeSort leV_trans leV_total es
 have hm := fun v => List.mem_mergeSort (le := leV) (a := v) (l := es)
 have hl := List.length_mergeSort (le := leV) es
 generalize es.mergeSort leV = s at hp hm hl
 cases s with
 | nil => exact ⟨[], rfl, by simp, fun v => by rw [← hm], by simp⟩
 | cons p s =>
  obtain ⟨t, e, ht, hm', hl'⟩ := ded_one s p hp
  refine ⟨p :: t, by rw [List.map_cons, ded, e]; rfl, ht, fun v => by rw [hm', hm], ?_⟩
  rw [List.length_cons] at hl ⊢
  omega
theorem endsI_drop (l : List S65) (i : Nat) (h : i < l.length) : endsI (l.drop i) = (if l[i].f2 = true then [l[i].f0] else [l[i].f0, l[i].f1]) ++ endsI (l.drop (i + 1)) := by rw [List.drop_eq_getElem_cons h, endsI_cons]
theorem i_merge.l1_ev (kp : Bool → Bool → Bool) (a b : List S65) (L : List (List S65)) (n j : Int) (l : List S65) (hl : l.length < 1073741824) (r : List S65) : ∀ (m i : Nat) (pts : List S24), l.length - i = m → i ≤ l.length → pts.length + 2 * m < 4398046511104 →
  Ev (fun k => i_merge.l0 kp k a b (pts ++ endsI (l.drop i)) L n (wrap64 (j + 1))) r → Ev (fun k => i_merge.l1 kp k a b pts L n j l l.length i) r := by
 intro m
 induction m with
 | zero =>
  intro i pts hm hi hp h
  rw [List.drop_eq_nil_iff.2 (by omega : l.length ≤ i)] at h
  refine Ev.step (fun k => by rw [i_merge.l1, if_neg (by omega)]) ?_
  simpa [endsI] using h
 | succ m ih =>
  intro i pts hm hi hp h
  have hil : i < l.length := by omega
  have hw : wrap64 ((i : Int) + 1) = ((i + 1 : Nat) : Int) := wrap64_succ (by omega)
  rw [endsI_drop l i hil] at h
  refine Ev.step (fun k => by rw [i_merge.l1, if_pos (by omega), if_pos (by omega), if_pos (by omega), if_pos (by omega), rd_T65_nat l i hil, hw, Option.bind_some]) ?_
  by_cases h2 : l[i].f2 = true
  ·rw [if_pos h2] at h
   refine Ev.congr (fun k => if_pos h2) ?_
   refine ih (i + 1) _ (by omega) (by omega) (by simp; omega) ?_
   rw [List.append_assoc]
   exact h
  ·rw [if_neg h2] at h
   refine Ev.congr (fun k => by rw [if_neg h2, if_pos (by simp; omega)]) ?_
   refine ih (i + 1) _ (by omega) (by omega) (by simp; omega) ?_
   rw [List.append_assoc, List.append_assoc]
   exact h
theorem rd_last (o : List S65) (y : S65) (ho : o.length < 1954687338268) : rd_T65 (o ++ [y]) (wrap64 (((o ++ [y]).length : Int) - 1)) = y ∧ (wrap64 (((o ++ [y]).length : Int) - 1)).toNat = o.length ∧ 0 ≤ wrap64 (((o ++ [y]).length : Int) - 1) ∧ wrap64 (((o ++ [y]).length : Int) - 1) < ((o ++ [y]).length : Int) := by
 have e : wrap64 (((o ++ [y]).length : Int) - 1) = (o.length : Int) := by
  rw [List.length_append, List.length_singleton]
  unfold wrap64
  omega
 rw [e]
 refine ⟨?_, by simp, by omega, by simp; omega⟩
 rw [rd_T65_nat _ _ (by simp)]
 simp
theorem set_last (o : List S65) (y z : S65) : (o ++ [y]).set o.length z = o ++ [z] := by
 rw [List.set_append_right _ _ (Nat.le_refl _)]
 simp
theorem i_merge.l2_ev (kp : Bool → Bool → Bool) (a b : List S65) (ha : a.length < 4611686018427387904) (hb : b.length < 4611686018427387904) (ps : List S24) (hp : ps.length < 1073741824) : ∀ (m i : Nat) (o : List S65), ps.length - i = m → i ≤ ps.length → o.length + m < 1954687338000 →
  Ev (fun k => i_merge.l2 kp k a b o false ps ps.length i) (o ++ sw (fun v => kp (inI a v) (inI b v)) (ps.drop i)) ∧ ∀ s : S24, Ev (fun k => i_merge.l2 kp k a b (o ++ [⟨s, zS, true⟩]) true ps ps.length i) (o ++ swO (fun v => kp (inI a v) (inI b v)) s (ps.drop i)) := by
 intro m
 induction m with
 | zero =>
  intro i o hm hi ho
  have e : ps.drop i = [] := List.drop_eq_nil_iff.2 (by omega)
  rw [e]
  refine ⟨Ev.step (fun k => by rw [i_merge.l2, if_neg (by omega)]) ?_, fun s => Ev.step (fun k => by rw [i_merge.l2, if_neg (by omega)]) ?_⟩
  ·rw [sw, List.append_nil]; exact Ev.now _
  ·rw [swO]; exact Ev.now _
 | succ m ih =>
  intro i o hm hi ho
  have hil : i < ps.length := by omega
  have hw : wrap64 ((i : Int) + 1) = ((i + 1 : Nat) : Int) := wrap64_succ (by omega)
  have hlo : o.length < 1954687338268 := by omega
  rw [List.drop_eq_getElem_cons hil]
  generalize hq : ps[i] = p
  refine ⟨?_, fun s => ?_⟩
  ·refine Ev.step (fun k => by rw [i_merge.l2, if_pos (by omega), if_pos (by omega), if_pos (by omega), rd_T24_nat ps i hil, hq]) ?_
   refine Ev.bind (i_contains.ev a ha p) ?_
   refine Ev.bind (i_contains.ev b hb p) ?_
   by_cases hg : kp (inI a p) (inI b p) = true
   ·simp only [Option.bind_some, hg, if_true]
    rw [sw, if_pos hg]
    refine Ev.step (fun k => by rw [i_merge.j3]) ?_
    simp only [Bool.not_false, if_true, hlo, Option.bind_some, hw]
    exact (ih (i + 1) o (by omega) (by omega) (by omega)).2 p
   ·have hg' := Bool.eq_false_iff.2 hg
    simp only [Option.bind_some, hg', if_false, Bool.false_eq_true]
    rw [sw, if_neg hg]
    refine Ev.step (fun k => by rw [i_merge.j3]) ?_
    simp only [Bool.false_eq_true, if_false, hw]
    exact (ih (i + 1) o (by omega) (by omega) (by omega)).1
  ·refine Ev.step (fun k => by rw [i_merge.l2, if_pos (by omega), if_pos (by omega), if_pos (by omega), rd_T24_nat ps i hil, hq]) ?_
   refine Ev.bind (i_contains.ev a ha p) ?_
   refine Ev.bind (i_contains.ev b hb p) ?_
   by_cases hg : kp (inI a p) (inI b p) = true
   ·simp only [Option.bind_some, hg, if_true]
    rw [swO, if_pos hg]
    refine Ev.step (fun k => by rw [i_merge.j3]) ?_
    simp only [Bool.not_true, Bool.false_eq_true, if_true, if_false, hw]
    exact (ih (i + 1) o (by omega) (by omega) (by omega)).2 s
   ·have hg' := Bool.eq_false_iff.2 hg
    simp only [Option.bind_some, hg', if_false, Bool.false_eq_true]
    rw [swO, if_neg hg]
    refine Ev.step (fun k => by rw [i_merge.j3]) ?_
    obtain ⟨r1, r2, r3, r4⟩ := rd_last o ⟨s, zS, true⟩ hlo
    obtain ⟨s1, _⟩ := rd_last o ⟨s, zS, false⟩ hlo
    have hll : ((o ++ [(⟨s, zS, true⟩ : S65)]).length : Int) = ((o ++ [(⟨s, zS, false⟩ : S65)]).length : Int) := by simp
    simp only [Bool.false_eq_true, if_true, if_false, hw, r3, r4, r1, r2, Option.bind_some, set_last]
    have s1' : rd_T65 (o ++ [(⟨s, zS, false⟩ : S65)]) (wrap64 (((o ++ [(⟨s, zS, true⟩ : S65)]).length : Int) - 1)) = ⟨s, zS, false⟩ := by rw [hll]; exact s1
    have := (ih (i + 1) (o ++ [⟨s, p, false⟩]) (by omega) (by omega) (by simp; omega)).1
    rw [List.append_assoc] at this
    refine Ev.congr (fun k => ?_) this
    show i_merge.l2 kp k a b (o ++ [(⟨(rd_T65 (o ++ [(⟨s, zS, false⟩ : S65)]) (wrap64 (((o ++ [(⟨s, zS, true⟩ : S65)]).length : Int) - 1))).f0, p, (rd_T65 (o ++ [(⟨s, zS, false⟩ : S65)]) (wrap64 (((o ++ [(⟨s, zS, true⟩ : S65)]).length : Int) - 1))).f2⟩ : S65)]) false ps ps.length ((i + 1 : Nat) : Int) = _
    rw [s1']
theorem endsI_le : ∀ l : List S65, (endsI l).length ≤ 2 * l.length
 | [] => by simp [endsI]
 | x :: l => by
  have := endsI_le l
  rw [endsI_cons, List.length_append, List.length_cons]
  split <;> simp <;> omega
theorem i_merge.ev (kp : Bool → Bool → Bool) (a b : List S65) (ha : a.length ≤ 1048576) (hb : b.length ≤ 1048576) : ∃ ps, IsPts (leastS :: (endsI a ++ endsI b)) ps ∧ Ev (fun k => i_merge.f k a b kp) (sw (fun v => kp (inI a v) (inI b v)) ps) := by
 have la := endsI_le a
 have lb := endsI_le b
 have hps := dedV_pts (leastS :: (endsI a ++ endsI b))
 refine ⟨_, hps, ?_⟩
 generalize hd : dedV ((leastS :: (endsI a ++ endsI b)).mergeSort leV) = ps at hps
 have hl := hps.len
 simp only [List.length_cons, List.length_append] at hl
 refine Ev.congr (f := fun k => i_merge.l0 kp k a b [leastS] [a, b] 2 0) (fun k => rfl) ?_
 refine Ev.step (fun k => by rw [i_merge.l0, if_pos (by omega), if_pos (by omega), if_pos (by simp), show rd_L7 [a, b] 0 = a from rfl]) ?_
 refine i_merge.l1_ev kp a b _ _ _ a (by omega) _ a.length 0 _ rfl (Nat.zero_le _) (by simp; omega) ?_
 rw [show wrap64 (0 + 1) = 1 by unfold wrap64; omega, List.drop_zero]
 refine Ev.step (fun k => by rw [i_merge.l0, if_pos (by omega), if_pos (by omega), if_pos (by simp), show rd_L7 [a, b] 1 = b from rfl]) ?_
 refine i_merge.l1_ev kp a b _ _ _ b (by omega) _ b.length 0 _ rfl (Nat.zero_le _) (by first | omega | (simp; omega)) ?_
 rw [show wrap64 (1 + 1) = 2 by unfold wrap64; omega, List.drop_zero, List.append_assoc, List.singleton_append]
 refine Ev.step (fun k => by rw [i_merge.l0, if_neg (by omega)]) ?_
 have h1 : a_99.f (leastS :: (endsI a ++ endsI b)) = some ((leastS :: (endsI a ++ endsI b)).mergeSort leV) := by
  unfold a_99.f
  rw [if_neg (by simp), if_pos (by simp; omega)]
 have h2 : a_100.f ((leastS :: (endsI a ++ endsI b)).mergeSort leV) = some ps := by
  unfold a_100.f
  rw [if_pos (by rw [List.length_mergeSort]; simp; omega), hd]
 simp only [h1, h2, Option.bind_some]
 have := (i_merge.l2_ev kp a b (by omega) (by omega) ps (by omega) ps.length 0 [] rfl (Nat.zero_le _) (by simp; omega)).1
 rw [List.nil_append, List.drop_zero] at this
 exact this
theorem ends_pts_valid {a b : List S65} {es ps : List S24} (ca : Can a) (cb : Can b) (h : IsPts es ps) (he : ∀ v ∈ es, v = leastS ∨ v ∈ endsI a ++ endsI b) : ∀ p ∈ ps, validS p = true := fun p hp => by
 rcases he p ((h.mem p).1 hp) with e | e
 ·exact e ▸ least_valid
 ·rcases List.mem_append.1 e with e | e
  ·exact ca.ends p e
  ·exact cb.ends p e
theorem i_merge.op (kp : Bool → Bool → Bool) {a b : List S65} (ha : okI a = true) (hb : okI b = true) : ∃ r, IsOp kp a b r ∧ Ev (fun k => i_merge.f k a b kp) r := by
 obtain ⟨ha, ca⟩ := okI_can.1 ha
 obtain ⟨hb, cb⟩ := okI_can.1 hb
 obtain ⟨ps, h, e⟩ := i_merge.ev kp a b (by omega) (by omega)
 exact ⟨_, IsOp.of_least kp (ends_pts_valid ca cb h fun v hv => by simpa using hv) h.sorted h.mem (by have := h.len; simp at this; omega), e⟩
theorem i_combine.ok (kp : Bool → Bool → Bool) {a b : List S65} (ha : okI a = true) (hb : okI b = true) : ∃ r, IsOp kp a b r ∧ Ev (fun k => i_combine.f k a b kp) (if r.length > 64 then ([], 2) else (r, 0)) := by
 obtain ⟨r, hr, e⟩ := i_merge.op kp ha hb
 refine ⟨r, hr, ?_⟩
 unfold i_combine.f
 refine Ev.bind (i_Valid.ev a) ?_
 simp only [ha, if_true]
 refine Ev.bind (i_Valid.ev b) ?_
 simp only [hb, Bool.not_true]
 refine Ev.step (fun k => by rw [i_combine.j0]) ?_
 simp only [Bool.false_eq_true, if_false]
 refine Ev.bind e ?_
 by_cases hc : r.length > 64
 ·rw [if_pos hc]
  exact Ev.congr (fun k => if_pos (by omega)) (Ev.now _)
 ·rw [if_neg hc]
  exact Ev.congr (fun k => if_neg (by omega)) (Ev.now _)
theorem i_combine.not (kp : Bool → Bool → Bool) {a b : List S65} (h : (okI a && okI b) = false) : Ev (fun k => i_combine.f k a b kp) ([], 30) := by
 unfold i_combine.f
 refine Ev.bind (i_Valid.ev a) ?_
 have bad : Ev (fun k => i_combine.j0 k a b kp true) ([], 30) := Ev.step (fun k => by rw [i_combine.j0]) (Ev.congr (fun k => if_pos rfl) (Ev.now _))
 by_cases ha : okI a = true
 ·simp only [ha, if_true]
  refine Ev.bind (i_Valid.ev b) ?_
  rw [ha, Bool.true_and] at h
  simp only [h, Bool.not_false]
  exact bad
 ·simp only [Bool.eq_false_iff.2 ha, if_false, Bool.false_eq_true]
  exact bad
theorem i_combine.few (kp : Bool → Bool → Bool) {a b : List S65} (ha : okI a = true) (hb : okI b = true) (hn : 1 + (endsI a).length + (endsI b).length ≤ 64) : ∃ r, IsOp kp a b r ∧ okI r = true ∧ Ev (fun k => i_combine.f k a b kp) (r, 0) := by
 obtain ⟨r, hr, e⟩ := i_combine.ok kp ha hb
 have h1 := len_ends r
 have h2 := hr.len
 rw [if_neg (by omega)] at e
 exact ⟨r, hr, okI_can.2 ⟨by omega, hr.can⟩, e⟩
theorem r3_Points.l1_ev (L : List (List S65)) (n j : Int) (l : List S65) (hl : l.length < 1073741824) (r : List S24) : ∀ (m i : Nat) (es : List S24), l.length - i = m → i ≤ l.length → es.length + 2 * m < 4398046511104 →
  Ev (fun k => r3_Points.l0 k ((es ++ endsI (l.drop i)).map fun v => [v]) L n (wrap64 (j + 1))) r → Ev (fun k => r3_Points.l1 k (es.map fun v => [v]) L n j l l.length i) r := by
 intro m
 induction m with
 | zero =>
  intro i es hm hi hp h
  rw [List.drop_eq_nil_iff.2 (by omega : l.length ≤ i)] at h
  refine Ev.step (fun k => by rw [r3_Points.l1, if_neg (by omega)]) ?_
  simpa [endsI] using h
 | succ m ih =>
  intro i es hm hi hp h
  have hil : i < l.length := by omega
  have hw : wrap64 ((i : Int) + 1) = ((i + 1 : Nat) : Int) := wrap64_succ (by omega)
  rw [endsI_drop l i hil] at h
  refine Ev.step (fun k => by rw [r3_Points.l1, if_pos (by omega), if_pos (by omega), if_pos (by omega), if_pos (by simp; omega), rd_T65_nat l i hil, hw, Option.bind_some]) ?_
  by_cases h2 : l[i].f2 = true
  ·rw [if_pos h2] at h
   refine Ev.congr (fun k => if_pos h2) ?_
   have := ih (i + 1) (es ++ [l[i].f0]) (by omega) (by omega) (by simp; omega) (by rw [List.append_assoc]; exact h)
   rw [List.map_append] at this
   exact this
  ·rw [if_neg h2] at h
   refine Ev.congr (fun k => by rw [if_neg h2, if_pos (by simp; omega)]) ?_
   have := ih (i + 1) (es ++ [l[i].f0] ++ [l[i].f1]) (by omega) (by omega) (by simp; omega) (by rw [List.append_assoc, List.append_assoc]; exact h)
   rw [List.map_append, List.map_append] at this
   exact this
theorem r3_Points.l2_ev (ps : List S24) (hp : ps.length < 1073741824) : ∀ (m i : Nat), ps.length - i = m → i ≤ ps.length → Ev (fun k => r3_Points.l2 k (ps.take i) (ps.map fun v => [v]) ps.length i) ps := by
 intro m
 induction m with
 | zero =>
  intro i hm hi
  refine Ev.step (fun k => by rw [r3_Points.l2, if_neg (by omega)]) ?_
  rw [List.take_of_length_le (by omega)]
  exact Ev.now _
 | succ m ih =>
  intro i hm hi
  have hil : i < ps.length := by omega
  have hw : wrap64 ((i : Int) + 1) = ((i + 1 : Nat) : Int) := wrap64_succ (by omega)
  have hr : rd_L4 (ps.map fun v => [v]) (i : Int) = [ps[i]] := by rw [rd_L4_nat _ _ (by simpa using hil)]; simp
  refine Ev.step (fun k => by rw [r3_Points.l2, if_pos (by omega), if_pos (by omega), if_pos (by simp; omega), hr, if_pos (by simp), if_pos (by rw [List.length_take]; omega), hw, show rd_T24 [ps[i]] 0 = ps[i] from rfl]) ?_
  have := ih (i + 1) (by omega) (by omega)
  rw [List.take_succ_eq_append_getElem hil] at this
  exact this
theorem r3_Points.ev (a b : List S65) (ha : a.length ≤ 8192) (hb : b.length ≤ 8192) : ∃ ps, IsPts (endsI a ++ endsI b) ps ∧ Ev (fun k => r3_Points.f k [a, b]) ps := by
 have la := endsI_le a
 have lb := endsI_le b
 obtain ⟨ps, hd, hps⟩ := setOf_pts (endsI a ++ endsI b)
 refine ⟨ps, hps, ?_⟩
 have hl := hps.len
 simp only [List.length_append] at hl
 refine Ev.congr (f := fun k => r3_Points.l0 k (([] : List S24).map fun v => [v]) [a, b] 2 0) (fun k => rfl) ?_
 refine Ev.step (fun k => by rw [r3_Points.l0, if_pos (by omega), if_pos (by omega), if_pos (by simp), show rd_L7 [a, b] 0 = a from rfl]) ?_
 refine r3_Points.l1_ev _ _ _ a (by omega) _ a.length 0 _ rfl (Nat.zero_le _) (by simp; omega) ?_
 rw [show wrap64 (0 + 1) = 1 by unfold wrap64; omega, List.drop_zero, List.nil_append]
 refine Ev.step (fun k => by rw [r3_Points.l0, if_pos (by omega), if_pos (by omega), if_pos (by simp), show rd_L7 [a, b] 1 = b from rfl]) ?_
 refine r3_Points.l1_ev _ _ _ b (by omega) _ b.length 0 _ rfl (Nat.zero_le _) (by first | omega | (simp; omega)) ?_
 rw [show wrap64 (1 + 1) = 2 by unfold wrap64; omega, List.drop_zero]
 refine Ev.step (fun k => by rw [r3_Points.l0, if_neg (by omega)]) ?_
 have hk : okRows ((endsI a ++ endsI b).map fun v => [v]) = true := by
  unfold okRows
  rw [Bool.and_eq_true]
  refine ⟨decide_eq_true (by simp; omega), ?_⟩
  rw [List.all_eq_true]
  intro x hx
  obtain ⟨y, _, rfl⟩ := List.mem_map.1 hx
  exact decide_eq_true (by simp)
 have hs : ∀ k, r1_Set.f k ((endsI a ++ endsI b).map fun v => [v]) = some (ps.map fun v => [v]) := fun k => by
  unfold r1_Set.f
  rw [if_pos hk, hd]
 simp only [hs, Option.bind_some]
 have := r3_Points.l2_ev ps (by omega) ps.length 0 rfl (Nat.zero_le _)
 rw [List.take_zero] at this
 refine Ev.congr (fun k => ?_) this
 rw [List.length_map]
 rfl
theorem r3_Join.new (o : List S65) (x : S65) (ho : o.length < 1954687338268) (h : ∀ y ∈ o.getLast?, y.f2 = false → ltV y.f1 x.f0) : r3_Join.g o x = some (o ++ [x]) := by
 unfold r3_Join.g
 rcases List.eq_nil_or_concat o with rfl | ⟨o', y, rfl⟩
 ·rw [if_neg (by simp), if_pos (by simp)]
 ·rw [List.concat_eq_append] at *
  have ho' : o'.length < 1954687338268 := by simp at ho; omega
  obtain ⟨r1, r2, r3, r4⟩ := rd_last o' y ho'
  rw [if_pos (by rw [List.length_append, List.length_singleton]; omega), if_pos r3, if_pos r4, r1]
  by_cases h2 : y.f2 = true
  ·rw [if_pos h2, if_pos ho]
  ·have h1 := h y (by simp) (Bool.eq_false_iff.2 h2)
   rw [if_neg h2, r1_Compare.some_, Option.bind_some, v_Compare.lt_ h1, if_neg (by decide), if_pos ho]
theorem r3_Join.old (o : List S65) (s t u : S24) (d : Bool) (ho : o.length < 1954687338268) : r3_Join.g (o ++ [⟨s, t, false⟩]) ⟨t, u, d⟩ = some (o ++ [⟨s, u, d⟩]) := by
 unfold r3_Join.g
 obtain ⟨r1, r2, r3, r4⟩ := rd_last o ⟨s, t, false⟩ ho
 obtain ⟨s1, _⟩ := rd_last o ⟨s, u, false⟩ ho
 have hll : ((o ++ [(⟨s, t, false⟩ : S65)]).length : Int) = ((o ++ [(⟨s, u, false⟩ : S65)]).length : Int) := by simp
 have s1' : rd_T65 (o ++ [(⟨s, u, false⟩ : S65)]) (wrap64 (((o ++ [(⟨s, t, false⟩ : S65)]).length : Int) - 1)) = ⟨s, u, false⟩ := by rw [hll]; exact s1
 rw [if_pos (by rw [List.length_append, List.length_singleton]; omega), if_pos r3, if_pos r4, r1, r2, if_neg (by simp)]
 have hc := r1_Compare.some_ t t
 rw [v_Compare.eq_] at hc
 show (r1_Compare.f t.f0 t.f1 t.f2 t.f0 t.f1 t.f2).bind _ = _
 rw [hc, Option.bind_some, if_pos rfl]
 show (some ((o ++ [(⟨s, t, false⟩ : S65)]).set o.length ⟨s, u, false⟩)).bind _ = _
 rw [Option.bind_some, set_last, s1']
 show some ((o ++ [(⟨s, u, false⟩ : S65)]).set o.length ⟨s, u, d⟩) = _
 rw [set_last]
theorem r3_Join.x_last (ps : List S24) (i : Nat) (h : i + 1 = ps.length) (hp : ps.length < 1073741824) : r3_Join.x ps i = ⟨ps[i], zS, true⟩ := by
 have hw : wrap64 ((ps.length : Int) - 1) = (i : Int) := by unfold wrap64; omega
 unfold r3_Join.x
 rw [hw, rd_T24_nat ps i (by omega), if_pos rfl, beq_self_eq_true]
 rfl
theorem r3_Join.x_mid (ps : List S24) (i : Nat) (h : i + 1 < ps.length) (hp : ps.length < 1073741824) : r3_Join.x ps i = ⟨ps[i], ps[i + 1], false⟩ := by
 have hw : wrap64 ((ps.length : Int) - 1) = (ps.length : Int) - 1 := by unfold wrap64; omega
 have hw1 : wrap64 ((i : Int) + 1) = ((i + 1 : Nat) : Int) := wrap64_succ (by omega)
 unfold r3_Join.x
 rw [hw, hw1, rd_T24_nat ps i (by omega), rd_T24_nat ps (i + 1) h, if_neg (by omega), beq_eq_false_iff_ne.2 (by omega)]
def opK (op : Int) : Bool → Bool → Bool := if op = 1 then kOr else if op = 2 then kAnd else kMinus
theorem r3_Apply.some_ (op : Int) (x y : Bool) : r3_Apply.f op x y = some (opK op x y) := by
 unfold r3_Apply.f opK
 by_cases h1 : op = 1
 ·rw [if_pos h1, if_pos h1]; cases x <;> simp [kOr]
 ·rw [if_neg h1, if_neg h1]
  by_cases h2 : op = 2
  ·rw [if_pos h2, if_pos h2]; cases x <;> simp [kAnd]
  ·rw [if_neg h2, if_neg h2]; cases x <;> simp [kMinus]
theorem opK_none (op : Int) : opK op false false = false := by
 unfold opK
 split
 ·rfl
 ·split <;> rfl
theorem r3_Combine.l0_ev (op : Int) (a b : List S65) (ha : a.length < 4611686018427387904) (hb : b.length < 4611686018427387904) (ps : List S24) (hs : ps.Pairwise ltV) (hp : ps.length < 1073741824) : ∀ (m i : Nat) (o : List S65), ps.length - i = m → i ≤ ps.length → o.length + m < 1954687338000 →
  ((i < ps.length → ∀ y ∈ o.getLast?, y.f2 = false → ∀ p ∈ ps.drop i, ltV y.f1 p) → Ev (fun k => r3_Combine.l0 k op a b ps o ps ps.length i) (o ++ sw (fun v => opK op (inI a v) (inI b v)) (ps.drop i))) ∧
  ∀ (s : S24) (h : i < ps.length), Ev (fun k => r3_Combine.l0 k op a b ps (o ++ [⟨s, ps[i], false⟩]) ps ps.length i) (o ++ swO (fun v => opK op (inI a v) (inI b v)) s (ps.drop i)) := by
 intro m
 induction m with
 | zero =>
  intro i o hm hi ho
  have e : ps.drop i = [] := List.drop_eq_nil_iff.2 (by omega)
  rw [e]
  refine ⟨fun _ => Ev.step (fun k => by rw [r3_Combine.l0, if_neg (by omega)]) ?_, fun s h => absurd h (by omega)⟩
  rw [sw, List.append_nil]; exact Ev.now _
 | succ m ih =>
  intro i o hm hi ho
  have hil : i < ps.length := by omega
  have hw : wrap64 ((i : Int) + 1) = ((i + 1 : Nat) : Int) := wrap64_succ (by omega)
  have hlo : o.length < 1954687338268 := by omega
  have hdr := List.drop_eq_getElem_cons hil
  have hso : ∀ q ∈ ps.drop (i + 1), ltV ps[i] q := by
   have := hs.drop (i := i)
   rw [hdr] at this
   exact (List.pairwise_cons.1 this).1
  have pre : ∀ (o' : List S65) (res : List S65), (opK op (inI a ps[i]) (inI b ps[i]) = true → Ev (fun k => (r3_Join.f o' ps i).bind fun t => r3_Combine.l0 k op a b ps t ps ps.length ((i + 1 : Nat) : Int)) res) → (opK op (inI a ps[i]) (inI b ps[i]) = false → Ev (fun k => r3_Combine.l0 k op a b ps o' ps ps.length ((i + 1 : Nat) : Int)) res) → Ev (fun k => r3_Combine.l0 k op a b ps o' ps ps.length i) res := by
   intro o' res h1 h2
   refine Ev.step (fun k => by rw [r3_Combine.l0, if_pos (by omega), if_pos (by omega), if_pos (by omega), rd_T24_nat ps i hil, hw]) ?_
   refine Ev.bind (r3_In.ev a ha ps[i]) ?_
   refine Ev.bind (r3_In.ev b hb ps[i]) ?_
   simp only [r3_Apply.some_, Option.bind_some]
   by_cases hg : opK op (inI a ps[i]) (inI b ps[i]) = true
   ·simp only [hg, if_true]; exact h1 hg
   ·have hg' := Bool.eq_false_iff.2 hg
    simp only [hg', Bool.false_eq_true, if_false]; exact h2 hg'
  have jf : ∀ o', r3_Join.f o' ps i = r3_Join.g o' (r3_Join.x ps i) := fun o' => by unfold r3_Join.f; rw [if_pos (by omega), if_pos (by omega)]
  rw [hdr]
  have fin : ∀ o', i + 1 = ps.length → Ev (fun k => r3_Combine.l0 k op a b ps o' ps ps.length ((i + 1 : Nat) : Int)) o' := fun o' he => Ev.step (fun k => by rw [r3_Combine.l0, if_neg (by omega)]) (Ev.now _)
  refine ⟨fun hlast => ?_, fun s h => ?_⟩
  ·have hlast := hlast hil
   refine pre _ _ (fun hg => ?_) fun hg => ?_
   ·rw [sw, if_pos hg]
    rcases Nat.lt_or_eq_of_le (Nat.succ_le_of_lt hil) with hn | hn
    ·have hj : r3_Join.f o ps i = some (o ++ [⟨ps[i], ps[i + 1], false⟩]) := by
      rw [jf, r3_Join.x_mid ps i hn hp]
      exact r3_Join.new _ _ hlo fun y hy h2 => hlast y hy h2 _ (by first | exact List.mem_cons.2 (.inl rfl) | (rw [hdr]; exact List.mem_cons.2 (.inl rfl)))
     simp only [hj, Option.bind_some]
     exact (ih (i + 1) o (by omega) (by omega) (by omega)).2 ps[i] hn
    ·have hj : r3_Join.f o ps i = some (o ++ [⟨ps[i], zS, true⟩]) := by
      rw [jf, r3_Join.x_last ps i hn hp]
      exact r3_Join.new _ _ hlo fun y hy h2 => hlast y hy h2 _ (by first | exact List.mem_cons.2 (.inl rfl) | (rw [hdr]; exact List.mem_cons.2 (.inl rfl)))
     simp only [hj, Option.bind_some]
     rw [List.drop_eq_nil_iff.2 (by omega : ps.length ≤ i + 1), swO]
     exact fin _ hn
   ·rw [sw, if_neg (by rw [hg]; exact Bool.false_ne_true)]
    exact (ih (i + 1) o (by omega) (by omega) (by omega)).1 fun _ y hy h2 p hp => hlast y hy h2 p (by first | exact List.mem_cons_of_mem _ hp | (rw [hdr]; exact List.mem_cons_of_mem _ hp))
  ·refine pre _ _ (fun hg => ?_) fun hg => ?_
   ·rw [swO, if_pos hg]
    rcases Nat.lt_or_eq_of_le (Nat.succ_le_of_lt hil) with hn | hn
    ·have hj : r3_Join.f (o ++ [⟨s, ps[i], false⟩]) ps i = some (o ++ [⟨s, ps[i + 1], false⟩]) := by
      rw [jf, r3_Join.x_mid ps i hn hp, r3_Join.old _ _ _ _ _ hlo]
     simp only [hj, Option.bind_some]
     exact (ih (i + 1) o (by omega) (by omega) (by omega)).2 s hn
    ·have hj : r3_Join.f (o ++ [⟨s, ps[i], false⟩]) ps i = some (o ++ [⟨s, zS, true⟩]) := by
      rw [jf, r3_Join.x_last ps i hn hp, r3_Join.old _ _ _ _ _ hlo]
     simp only [hj, Option.bind_some]
     rw [List.drop_eq_nil_iff.2 (by omega : ps.length ≤ i + 1), swO]
     exact fin _ hn
   ·rw [swO, if_neg (by rw [hg]; exact Bool.false_ne_true)]
    have := (ih (i + 1) (o ++ [⟨s, ps[i], false⟩]) (by omega) (by omega) (by simp; omega)).1 fun _ y hy h2 p hp => by
     simp at hy
     subst hy
     exact hso p hp
    rw [List.append_assoc] at this
    exact this
theorem r3_Combine.op (op : Int) {a b : List S65} (ha : a.length ≤ 8192) (hb : b.length ≤ 8192) (ca : Can a) (cb : Can b) : ∃ r, IsOp (opK op) a b r ∧ (endsI r).length ≤ (endsI a).length + (endsI b).length ∧ Ev (fun k => r3_Combine.f k op a b) r := by
 obtain ⟨ps, h, e⟩ := r3_Points.ev a b ha hb
 have hl := h.len
 rw [List.length_append] at hl
 have la := endsI_le a
 have lb := endsI_le b
 obtain ⟨h1, h2⟩ := IsOp.of_none (opK op) (opK_none op) (ends_pts_valid ca cb h fun v hv => .inr hv) h.sorted h.mem hl
 refine ⟨_, h1, h2, ?_⟩
 unfold r3_Combine.f
 refine Ev.bind e ?_
 have := (r3_Combine.l0_ev op a b (by omega) (by omega) ps h.sorted (by omega) ps.length 0 [] rfl (Nat.zero_le _) (by simp; omega)).1 fun _ y hy => by simp at hy
 rw [List.nil_append, List.drop_zero] at this
 exact this
end Go.Proofs.Ytpjcdacnhalclaa.Q
