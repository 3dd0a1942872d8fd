/- The walk of Apart. Printed by gen_apart.py. -/
import Derived.Test.YthdjddpomaendaaGreatK4
namespace Go.Proofs.YthdjddpomaendaaGreat.B
open Go.RowKit
set_option linter.unusedVariables false
set_option linter.unusedSimpArgs false

/-- A kept list's block, its first j cells these marks. -/
def PartAt (w : World) (base : Nat) (i : Kp) (f : Nat → Nat) (j : Nat) : Prop :=
  (i.A = none ∧ i.c = 0) ∨ ∃ g l, i.A = some ⟨g, 0, none⟩ ∧ base ≤ g ∧ Blk w g l 5 ∧ l.length = i.c ∧ ∀ x, x < j → x < i.c → l[x]? = some (.int .u8 ((f x : Nat) : Int))
structure MarkI (w : World) (base : Nat) (I : List Kp) (k j : Nat) : Prop where
  full : ∀ (q : Nat) (i : Kp), I[q]? = some i → q < k → PartAt w base i (markB q) i.c
  part : ∀ (q : Nat) (i : Kp), I[q]? = some i → q = k → PartAt w base i (markB q) j
  rest : ∀ (q : Nat) (i : Kp), I[q]? = some i → PartAt w base i (markB q) 0
theorem PartAt.of_own {w : World} {base : Nat} {i : Kp} (h : Own w base i.l i.xs) (f : Nat → Nat) : PartAt w base i f 0 := by
  obtain ⟨A, c, e, hc, hm, h | ⟨g, rest, hA, hb, hk, hr⟩⟩ := h.cases
  · injection e with e1 e2 e3
    obtain ⟨h1, h2, h3⟩ := h
    exact .inl ⟨by rw [e1, h2], by rw [e3, h3]⟩
  · injection e with e1 e2 e3
    exact .inr ⟨g, _, by rw [e1, hA], hb, hk, by rw [List.length_append, bvs_length, hr, ← e3] ; omega, fun x hx => by omega⟩
theorem PartAt.fr {w w1 : World} {base : Nat} {i : Kp} {f : Nat → Nat} {j : Nat} {S : Nat → Prop} (h : PartAt w base i f j) (hf : Fr S w w1) (hn : ∀ b, i.l.ownBlock = some b → ¬ S b) : PartAt w1 base i f j := by
  rcases h with h | ⟨g, l, h1, h2, h3, h4, h5⟩
  · exact .inl h
  · exact .inr ⟨g, l, h1, h2, h3.fr hf (hn g (by unfold Kp.l; rw [h1]; rfl)), h4, h5⟩
theorem kps_ne {I : List Kp} (h : I.Pairwise (fun i j => ∀ b, i.l.ownBlock = some b → j.l.ownBlock ≠ some b)) {q q' : Nat} {i i' : Kp} (hi : I[q]? = some i) (hi' : I[q']? = some i') (hne : q ≠ q') : ∀ b, i.l.ownBlock = some b → i'.l.ownBlock ≠ some b := by
  obtain ⟨h1, rfl⟩ := List.getElem?_eq_some_iff.1 hi
  obtain ⟨h2, rfl⟩ := List.getElem?_eq_some_iff.1 hi'
  rcases Nat.lt_or_gt_of_ne hne with hlt | hgt
  · exact List.pairwise_iff_getElem.1 h q q' h1 h2 hlt
  · intro b hb e
    exact List.pairwise_iff_getElem.1 h q' q h2 h1 hgt b e hb
/-- One mark is written. -/
theorem MarkI.step {w : World} {base g' : Nat} {I : List Kp} {k j : Nat} {i : Kp} (h : MarkI w base I k j) (hp : I.Pairwise (fun i j => ∀ b, i.l.ownBlock = some b → j.l.ownBlock ≠ some b)) (hi : I[k]? = some i) (hA : i.A = some ⟨g', 0, none⟩) :
    MarkI (w.setCell ⟨g', j, none⟩ (.int .u8 ((markB k j : Nat) : Int))) base I k (j + 1) := by
  have hf : Fr (fun b => b = g') w (w.setCell ⟨g', j, none⟩ (.int .u8 ((markB k j : Nat) : Int))) := Fr.setCell (p := ⟨g', j, none⟩) (Fr.refl (fun b => b = g') w) (.inl rfl) _
  have hil : i.l.ownBlock = some g' := by unfold Kp.l; rw [hA]; rfl
  have hoth : ∀ (q : Nat) (i' : Kp), I[q]? = some i' → q ≠ k → ∀ b, i'.l.ownBlock = some b → ¬ b = g' := fun q i' hq hne b hb e => by
    subst e
    exact kps_ne hp hi hq (Ne.symm hne) b hil hb
  have hself : ∀ y, (∀ l, Blk w g' l 5 → l.length = i.c → (∀ x, x < j → x < i.c → l[x]? = some (.int .u8 ((markB k x : Nat) : Int))) → ∀ x, x < y → x < i.c → (l.set j (.int .u8 ((markB k j : Nat) : Int)))[x]? = some (.int .u8 ((markB k x : Nat) : Int))) → PartAt (w.setCell ⟨g', j, none⟩ (.int .u8 ((markB k j : Nat) : Int))) base i (markB k) y := by
    intro y hy
    rcases h.part k i hi rfl with ⟨h1, _⟩ | ⟨g2, l, h1, h2, h3, h4, h5⟩
    · rw [hA] at h1; cases h1
    · rw [hA] at h1
      injection h1 with h1
      injection h1 with h1
      subst h1
      exact .inr ⟨g', _, hA, h2, h3.set j _, by rw [List.length_set]; exact h4, hy l h3 h4 h5⟩
  refine ⟨fun q i' hq hlt => (h.full q i' hq hlt).fr hf (hoth q i' hq (by omega)), fun q i' hq he => ?_, fun q i' hq => ?_⟩
  · subst he
    rw [hi] at hq
    injection hq with hq
    subst hq
    refine hself (j + 1) (fun l h3 h4 h5 x hx hxc => ?_)
    by_cases e : x = j
    · subst e
      rw [List.getElem?_set_self (by omega)]
    · rw [List.getElem?_set_ne (by omega)]
      exact h5 x (by omega) hxc
  · by_cases e : q = k
    · subst e
      rw [hi] at hq
      injection hq with hq
      subst hq
      exact hself 0 (fun l _ _ _ x hx => by omega)
    · exact (h.rest q i' hq).fr hf (hoth q i' hq e)
theorem MarkI.fr {w w1 : World} {base k j : Nat} {I : List Kp} {S : Nat → Prop} (h : MarkI w base I k j) (hf : Fr S w w1) (hn : ∀ i ∈ I, ∀ b, i.l.ownBlock = some b → ¬ S b) : MarkI w1 base I k j :=
  ⟨fun q i hq hlt => (h.full q i hq hlt).fr hf (hn i (List.mem_of_getElem? hq)), fun q i hq he => (h.part q i hq he).fr hf (hn i (List.mem_of_getElem? hq)), fun q i hq => (h.rest q i hq).fr hf (hn i (List.mem_of_getElem? hq))⟩
/-- A list is full: on to the next. -/
theorem MarkI.next {w : World} {base k j : Nat} {I : List Kp} (h : MarkI w base I k j) (hj : ∀ i, I[k]? = some i → i.c ≤ j) : MarkI w base I (k + 1) 0 := by
  refine ⟨fun q i hq hlt => ?_, fun q i hq he => h.rest q i hq, h.rest⟩
  by_cases e : q = k
  · subst e
    rcases h.part q i hq rfl with h1 | ⟨g, l, h1, h2, h3, h4, h5⟩
    · exact .inl h1
    · exact .inr ⟨g, l, h1, h2, h3, h4, fun x _ hx => h5 x (by have := hj i hq; omega) hx⟩
  · exact h.full q i hq (by omega)
theorem KpsOk.marks {w : World} {base : Nat} {I : List Kp} (h : KpsOk w base I) : MarkI w base I 0 0 :=
  ⟨fun q i hq hlt => by omega, fun q i hq he => PartAt.of_own (h.own i (List.mem_of_getElem? hq)).1 _, fun q i hq => PartAt.of_own (h.own i (List.mem_of_getElem? hq)).1 _⟩
end Go.Proofs.YthdjddpomaendaaGreat.B
