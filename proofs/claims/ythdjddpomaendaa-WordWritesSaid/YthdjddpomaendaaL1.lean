/- A writer and the reference's, side by side. -/
import Derived.Test.YthdjddpomaendaaW7
import Derived.Test.YthdjddpomaendaaO4
namespace Go.Proofs.Ythdjddpomaendaa.B
open Go.RowKit
set_option linter.unusedVariables false
set_option linter.unusedSimpArgs false

theorem leBytes_mod (s x : Nat) : leBytes s (x % 256 ^ s) = leBytes s x := by
  induction s generalizing x with
  | zero => rfl
  | succ s ih =>
    rw [leBytes_succ, leBytes_succ]
    congr 1
    · refine u8_of ?_
      rw [Nat.pow_succ', Nat.mod_mul_right_mod]
    · rw [Nat.pow_succ', Nat.mod_mul_right_div_self]
      exact ih (x / 256)
theorem blk_typed {w : World} {g b : Nat} {l : List Value} {t : TypeId} {v : Value} {base : Nat} {xs : List UInt8} (hk : Blk w g l t) (ho : Own w base v xs) (hb : v.ownBlock = some b) (ht : t ≠ 5) : b ≠ g := by
  rintro rfl
  exact own_ne ho hk ht hb.symm
/-- The two of them: the same bytes, the same refusal, apart in memory. -/
structure Pair (w : World) (b g : Nat) (vb : Option Nat) (gv : Nat) (vv : Option Nat) (bs : List UInt8) (e : Int) : Prop where
  hw : IsW w b g vb bs e
  hv : IsV w b gv vv bs e
  ne : ∀ k, vb = some k → vv ≠ some k
/-- Blocks of a writer are none of the reference's. -/
theorem wv_ne {w : World} {b g gv : Nat} {vb vv : Option Nat} {bs bs' : List UInt8} {e e' : Int} (hw : IsW w b g vb bs e) (hv : IsV w b gv vv bs' e') : g ≠ gv ∧ vb ≠ some gv ∧ vv ≠ some g := by
  obtain ⟨A, c, hvb, _, hk, ho⟩ := hw
  obtain ⟨A2, c2, hvv, _, hk2, ho2⟩ := hv
  refine ⟨?_, fun h => ?_, fun h => ?_⟩
  · rintro rfl
    unfold Blk at hk hk2
    rw [hk] at hk2
    injection hk2 with h
    injection h with _ h
    exact absurd h (by decide)
  · exact blk_typed hk2 ho (hvb.trans h) (by decide) rfl
  · exact blk_typed hk ho2 (hvv.trans h) (by decide) rfl
/-- The writer has gone on. -/
theorem Pair.step_w {w w1 : World} {b g gv : Nat} {vb vb1 vv : Option Nat} {bs bs1 : List UInt8} {e e1 : Int} (h : Pair w b g vb gv vv bs e) (hW : IsW w1 b g vb1 bs1 e1) (hF : FrW w w1 g vb vb1) :
    IsV w1 b gv vv bs e ∧ (∀ k, vb1 = some k → vv ≠ some k) := by
  obtain ⟨h1, h2, h3⟩ := wv_ne h.hw h.hv
  refine ⟨h.hv.fr (S := fun k => k = g ∨ vb = some k) hF.1 (fun hs => Or.elim hs (fun e => h1 e.symm) (fun e => h2 e)) (fun k hk hs => Or.elim hs (fun e => h3 (by rw [hk, e])) (fun e => h.ne k e hk)), fun k hk hv => ?_⟩
  rcases hF.2 with h4 | ⟨b', h4, h5⟩
  · exact h.ne k (h4 ▸ hk) hv
  · rw [h4] at hk
    obtain rfl := Option.some.inj hk
    have := (h.hv.lt.2.2 b' hv).2
    omega
/-- The reference's has gone on, too. -/
theorem Pair.step_v {w1 w2 : World} {b g gv : Nat} {vb vv vv2 : Option Nat} {bs bs2 : List UInt8} {e e2 : Int} (hW : IsW w1 b g vb bs2 e2) (hV : IsV w1 b gv vv bs e) (hne : ∀ k, vb = some k → vv ≠ some k) (hV2 : IsV w2 b gv vv2 bs2 e2) (hF : FrW w1 w2 gv vv vv2) :
    Pair w2 b g vb gv vv2 bs2 e2 := by
  obtain ⟨h1, h2, h3⟩ := wv_ne hW hV
  refine ⟨hW.fr (S := fun k => k = gv ∨ vv = some k) hF.1 (fun hs => Or.elim hs (fun e => h1 e) (fun e => h3 e)) (fun k hk hs => Or.elim hs (fun e => h2 (by rw [hk, e])) (fun e => hne k hk e)), hV2, fun k hk hv => ?_⟩
  rcases hF.2 with h4 | ⟨b', h4, h5⟩
  · exact hne k hk (h4 ▸ hv)
  · rw [h4] at hv
    obtain rfl := Option.some.inj hv
    have := (hW.lt.2.2 b' hk).2
    omega
end Go.Proofs.Ythdjddpomaendaa.B
