/- One way through a region that draws its order and ends in stores: behind the last ones nothing is to be shown. -/
import Derived.Test.YthdjddpomaendaaGreatH
import Derived.Test.YthdjddpomaendaaGreatWLast
namespace Go.Proofs.YthdjddpomaendaaGreat.B
open Go.RowKit
open Go.Proofs.YthdjddpomaendaaGreatW.PrintLast (wpAnyLast take_ takeB wp_region_last_drew wpAnyLast_ready AllReadyL.cons AllReadyL.cons_last AllReadyL.nil wpAnyLast_done)
set_option linter.unusedVariables false

section
variable {P : Program} {ops : Array Oper} {Q : Exit → Act → World → Prop} {md : Region.Mode} {S : World → Prop} {ds : List Nat} {fuel : Nat} {listed : Array Bool} {a : Act} {w : World}
/-- Taken first: it yields v. -/
theorem lk (i : Nat) {d : Tmp} {op : Op} {ty : TypeId} {pos : String} {aft : Array Edge} {gd : Option (Nat × Bool)} {v : Value} (hi : ops[i]? = some ⟨some d, op, ty, pos, aft, gd⟩)
    (hc : takeB md ops ds listed (listed.setIfInBounds i true) i = true)
    (hQ : ∀ c a w, Q (.panic c) (a.put (some d) v) w → Q (.panic c) a w) (hw : Region.wanted ⟨some d, op, ty, pos, aft, gd⟩ (yielded ops a.tmps) = true) (hS : S w)
    (hv : ∀ w, S w → (execOp a.eval ⟨some d, op, ty, pos, aft, gd⟩).run P w = .ok (.value v) w)
    (h : wpAnyLast P md ops Q S ds fuel (listed.setIfInBounds i true) ⟨a.tmps.setIfInBounds d v, a.defers⟩ w) : wpAnyLast P md ops Q S ds (fuel + 1) listed a w :=
  take_ (N := some d) _ hi rfl hc hQ (.inl ⟨hw, hv⟩) hS rfl h
/-- Its guard says no. -/
theorem lkno (i : Nat) {d : Tmp} {op : Op} {ty : TypeId} {pos : String} {aft : Array Edge} {gd : Option (Nat × Bool)} (hi : ops[i]? = some ⟨some d, op, ty, pos, aft, gd⟩)
    (hc : takeB md ops ds listed (listed.setIfInBounds i true) i = true)
    (hQ : ∀ c a w, Q (.panic c) (a.put (some d) undef) w → Q (.panic c) a w) (hw : Region.wanted ⟨some d, op, ty, pos, aft, gd⟩ (yielded ops a.tmps) = false) (hS : S w)
    (h : wpAnyLast P md ops Q S ds fuel (listed.setIfInBounds i true) ⟨a.tmps.setIfInBounds d undef, a.defers⟩ w) : wpAnyLast P md ops Q S ds (fuel + 1) listed a w :=
  take_ (N := some d) _ hi rfl hc hQ (.inr ⟨hw, rfl⟩) hS rfl h
/-- Carried out: nothing else may come up. -/
theorem lr (i : Nat) {N : Option Tmp} {op : Op} {ty : TypeId} {pos : String} {aft : Array Edge} {gd : Option (Nat × Bool)} (hi : ops[i]? = some ⟨N, op, ty, pos, aft, gd⟩)
    (hr : Region.ready md ops listed = [i]) (hd : i ∉ ds)
    (h : ∀ K' : Act → World → Prop, Shut (∀ a w, S w → (S w → wpAnyLast P md ops Q S ds fuel (listed.setIfInBounds i true) a w) → K' a w) →
      if Region.wanted ⟨N, op, ty, pos, aft, gd⟩ (yielded ops a.tmps) = true then Oper.wp P ⟨N, op, ty, pos, aft, gd⟩ a w K' Q else K' (a.put N undef) w) : wpAnyLast P md ops Q S ds (fuel + 1) listed a w :=
  wpAnyLast_ready hr (by simp) (AllReadyL.cons hi hd h AllReadyL.nil)
/-- Carried out, one of the last: nothing is shown behind it. -/
theorem ll (i : Nat) {N : Option Tmp} {op : Op} {ty : TypeId} {pos : String} {aft : Array Edge} {gd : Option (Nat × Bool)} (hi : ops[i]? = some ⟨N, op, ty, pos, aft, gd⟩)
    (hr : Region.ready md ops listed = [i]) (hd : i ∈ ds)
    (h : ∀ K' : Act → World → Prop, Shut (∀ a w, wpAnyLast P md ops Q S ds fuel (listed.setIfInBounds i true) a w → K' a w) →
      if Region.wanted ⟨N, op, ty, pos, aft, gd⟩ (yielded ops a.tmps) = true then Oper.wp P ⟨N, op, ty, pos, aft, gd⟩ a w K' Q else K' (a.put N undef) w) : wpAnyLast P md ops Q S ds (fuel + 1) listed a w :=
  wpAnyLast_ready hr (by simp) (AllReadyL.cons_last hi hd h AllReadyL.nil)
theorem region_last {ops : Array Oper} {id : Nat} {a : Act} {w : World} (S : World → Prop) (ds : List Nat) (hm : P.follows .mixedOrders = true) (hS : S w.drew)
    (h : S w.drew → wpAnyLast P .any ops Q S ds ops.size (Array.replicate ops.size false) a w.drew) : (Code.region id ops true).wp P Q a w := wp_region_last_drew hm hS h
theorem last_done {listed : Array Bool} {a : Act} {w : World} (hr : Region.ready md ops listed = []) (h : Q .normal a w) : ∀ fuel, wpAnyLast P md ops Q S ds fuel listed a w := wpAnyLast_done hr h
end
end Go.Proofs.YthdjddpomaendaaGreat.B
