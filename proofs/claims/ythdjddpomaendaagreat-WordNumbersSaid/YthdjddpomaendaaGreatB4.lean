/- Cuts of slices; texts as bytes; Clone; gap. -/
import Derived.Test.YthdjddpomaendaaGreatB3
import Derived.Lib.ConvBytes
namespace Go.Proofs.YthdjddpomaendaaGreat.B
open Go.RowKit
set_option linter.unusedVariables false
set_option linter.unusedSimpArgs false

theorem Rd.drop {w : World} {A : Option Addr} {n c : Nat} {vs : List Value} (h : Rd w A n vs) (i : Nat) (hi : i ≤ n) (hc : n ≤ c) : Rd w (if c = i then A else A.map (·.add i)) (n - i) (vs.drop i) := by
  refine ⟨by rw [List.length_drop, h.1], by have := h.2.1; omega, fun hp => ?_⟩
  obtain ⟨ad, rfl, hcell⟩ := h.2.2 (by omega)
  rw [if_neg (by omega)]
  refine ⟨ad.add i, rfl, fun j u hu => ?_⟩
  have ha : (ad.add i).add j = ad.add (i + j) := by
    unfold Addr.add
    by_cases h1 : i = 0 <;> by_cases h2 : j = 0 <;> simp [h1, h2, Nat.add_assoc]
  rw [ha]
  exact hcell (i + j) u (by rwa [List.getElem?_drop] at hu)
/-- 's[m:]' of a slice of bytes, m an Int. -/
theorem cut_lo (A : Option Addr) (n c : Nat) (m : Int) (h0 : 0 ≤ m) (hm : m ≤ n) (hc : n ≤ c) :
    ∃ A' : Option Addr, (∀ W : World, (Instr.slice 23 (.slice A n c) (some (.int .i64 m)) none none).run Tryz.prog W = .ok (.slice A' (n - m.toNat) (c - m.toNat)) W) ∧
      ∀ (w : World) (xs : List UInt8), Rd w A n (bvs xs) → Rd w A' (n - m.toNat) (bvs (xs.drop m.toNat)) := by
  obtain ⟨m, rfl⟩ := Int.eq_ofNat_of_zero_le h0
  rw [Int.toNat_natCast]
  have hm' : m ≤ n := by omega
  obtain ⟨i0, hi, hzz⟩ := Option.map_eq_some_iff.1 info5
  simp only [Prod.mk.injEq] at hzz
  obtain ⟨hz0, hz1, hz2⟩ := hzz
  refine ⟨if c = m then A else A.map (·.add m), fun W => ?_, fun w xs h => by rw [bvs_drop]; exact h.drop m hm' hc⟩
  have ht := Tryz.underlying23
  have hel : Tryz.prog.elem 23 = 5 := by simp [Program.elem, ht]
  have hu : Tryz.prog.underlying 23 = some (.slice (Tryz.prog.elem 23)) := by rw [hel]; exact ht
  rw [run_slice_l W 23 A n c hu .i64 (m : Int) (Int.natCast_nonneg _) (by omega), hel]
  simp [sizeOf, typeInfo, hi, hz1, sliced, Result.andThen]

end Go.Proofs.YthdjddpomaendaaGreat.B
