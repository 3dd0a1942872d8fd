/- Steps that lie in memory; a row of steps. -/
import Derived.Test.YthdjddpomaendaaO4
import Derived.Deep.Slices
namespace Go.Proofs.Ythdjddpomaendaa.B
open Go.RowKit
set_option linter.unusedVariables false
set_option linter.unusedSimpArgs false

/-- Steps that lie in memory. -/
def OpsAt (w : World) (As : Option Addr) (L : List OpV) : Prop :=
  ∀ (i : Nat) (o : OpV), L[i]? = some o → ∃ ad, As = some ad ∧ (∀ (j : Nat) (v : Value), o.cells[j]? = some v → w.cell? (ad.add (i * 6 + j)) = some v) ∧ o.Ok w ∧ (∀ (j : Nat), j < 6 → (ad.add (i * 6 + j)).block < w.heap.size)
theorem OpsAt.below {w w' : World} {As : Option Addr} {L : List OpV} (h : OpsAt w As L) (hb : Below w.heap.size w w') : OpsAt w' As L := by
  intro i o hi
  obtain ⟨ad, rfl, hc, hk, hl⟩ := h i o hi
  refine ⟨ad, rfl, fun j v hj => ?_, ⟨hk.n, hk.rd.below hb (Nat.le_refl _), hk.c, hk.m, hk.z⟩, fun j hj => Nat.lt_of_lt_of_le (hl j hj) hb.size⟩
  have h6 : j < 6 := (Array.getElem?_eq_some_iff.1 hj).1
  rw [hb.cell (hl j h6)]
  exact hc j v hj
theorem add_at (a : Addr) (i j : Nat) (hj : j ≠ 0) : a.add (i + j) = ⟨(a.add i).block, (a.add i).off + j, none⟩ := by
  rw [← Go.Deep.add_add]
  show (if j = 0 then a.add i else { a.add i with off := (a.add i).off + j, spot := none }) = _
  rw [if_neg hj]
def runS (bs : List UInt8) (L : List OpV) : Nat × Int := L.foldl (fun x o => (againA o bs x.1 x.2, againE o bs x.1 x.2)) (0, 0)
theorem runS_succ (bs : List UInt8) (L : List OpV) (k : Nat) (o : OpV) (h : L[k]? = some o) : runS bs (L.take (k + 1)) = (againA o bs (runS bs (L.take k)).1 (runS bs (L.take k)).2, againE o bs (runS bs (L.take k)).1 (runS bs (L.take k)).2) := by
  obtain ⟨hk, rfl⟩ := List.getElem?_eq_some_iff.1 h
  unfold runS
  rw [List.take_succ_eq_append_getElem hk, List.foldl_append]
  rfl
theorem Back.small {o : OpV} {bs : List UInt8} {at_ : Nat} {e : Int} {o' : OpV} {w : World} (h : Back o bs at_ e o' w) : o'.p.length ≤ bs.length ∧ o'.s.size ≤ bs.length ∧ o'.n < 18446744073709551616 := by
  refine ⟨?_, ?_, ?_⟩
  · rw [h.p]
    unfold againP bytesV
    split
    · split
      · simp; omega
      · simp
    · simp
  · rw [h.s]
    unfold againS rtextL
    split
    · split
      · rw [mkS_size]; simp; omega
      · exact Nat.zero_le _
    · exact Nat.zero_le _
  · rw [h.n]
    have h1 := numV_lt 1 bs at_ e
    have h2 := numV_lt 2 bs at_ e
    have h4 := numV_lt 4 bs at_ e
    have h8 := numV_lt 8 bs at_ e
    unfold againN
    split
    · omega
    split
    · omega
    split
    · omega
    split
    · omega
    · omega

end Go.Proofs.Ythdjddpomaendaa.B
