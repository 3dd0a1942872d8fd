/- One way through a region that draws its order: what is taken first, what is carried out. -/
import Derived.Test.YthdjddpomaendaaGreatB0
import Derived.Deep.RegionHeld3
namespace Go.Proofs.YthdjddpomaendaaGreat.B
open Go.RowKit
set_option linter.unusedVariables false

section
variable {P : Program} {ops : Array Oper} {Q : Exit → Act → World → Prop} {md : Region.Mode} {S : World → Prop} {fuel : Nat} {listed : Array Bool} {a : Act} {w : World}
/-- Taken first: it yields v. -/
theorem tk (i : Nat) {d : Tmp} {op : Op} {ty : TypeId} {pos : String} {aft : Array Edge} {gd : Option (Nat × Bool)} {v : Value} (hi : ops[i]? = some ⟨some d, op, ty, pos, aft, gd⟩)
    (hs : Region.noSelect ops = true ∧ Region.free md ops listed i = true ∧ (Region.ready md ops listed).contains i = true)
    (hQ : ∀ c a w, Q (.panic c) (a.put (some d) v) w → Q (.panic c) a w) (hw : Region.wanted ⟨some d, op, ty, pos, aft, gd⟩ (yielded ops a.tmps) = true) (hS : S w)
    (hv : ∀ w, S w → (execOp a.eval ⟨some d, op, ty, pos, aft, gd⟩).run P w = .ok (.value v) w)
    (h : wpAnyH P md ops Q S fuel (listed.setIfInBounds i true) ⟨a.tmps.setIfInBounds d v, a.defers⟩ w) : wpAnyH P md ops Q S (fuel + 1) listed a w :=
  wpAnyH_take hi hs.1 hs.2.1 hs.2.2 hQ (.inl ⟨hw, hv⟩) hS h
/-- Its guard says no. -/
theorem tkno (i : Nat) {d : Tmp} {op : Op} {ty : TypeId} {pos : String} {aft : Array Edge} {gd : Option (Nat × Bool)} (hi : ops[i]? = some ⟨some d, op, ty, pos, aft, gd⟩)
    (hs : Region.noSelect ops = true ∧ Region.free md ops listed i = true ∧ (Region.ready md ops listed).contains i = true)
    (hQ : ∀ c a w, Q (.panic c) (a.put (some d) undef) w → Q (.panic c) a w) (hw : Region.wanted ⟨some d, op, ty, pos, aft, gd⟩ (yielded ops a.tmps) = false) (hS : S w)
    (h : wpAnyH P md ops Q S fuel (listed.setIfInBounds i true) ⟨a.tmps.setIfInBounds d undef, a.defers⟩ w) : wpAnyH P md ops Q S (fuel + 1) listed a w :=
  wpAnyH_take hi hs.1 hs.2.1 hs.2.2 hQ (.inr ⟨hw, rfl⟩) hS h
/-- Carried out: nothing else may come up. -/
theorem cr (i : Nat) {d : Tmp} {op : Op} {ty : TypeId} {pos : String} {aft : Array Edge} {gd : Option (Nat × Bool)} (hi : ops[i]? = some ⟨some d, op, ty, pos, aft, gd⟩)
    (hr : Region.ready md ops listed = [i])
    (h : ∀ K' : Act → World → Prop, Shut (∀ a w, S w → (S w → wpAnyH P md ops Q S fuel (listed.setIfInBounds i true) a w) → K' a w) →
      if Region.wanted ⟨some d, op, ty, pos, aft, gd⟩ (yielded ops a.tmps) = true then Oper.wp P ⟨some d, op, ty, pos, aft, gd⟩ a w K' Q else K' (a.put (some d) undef) w) : wpAnyH P md ops Q S (fuel + 1) listed a w :=
  wpAnyH_ready hr (by simp) (AllReadyH.cons hi h AllReadyH.nil)
end
end Go.Proofs.YthdjddpomaendaaGreat.B
