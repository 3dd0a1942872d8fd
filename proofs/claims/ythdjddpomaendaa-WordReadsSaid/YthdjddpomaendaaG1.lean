/- Small words that several walks share. -/
import Derived.Test.YthdjddpomaendaaO5
import Derived.Test.YthdjddpomaendaaK3
import Derived.IntWalk
namespace Go.Proofs.Ythdjddpomaendaa.B
open Go.RowKit
set_option linter.unusedVariables false
set_option linter.unusedSimpArgs false

theorem roomyG (A : Option Addr) (n c : Nat) (xs : List UInt8) (m : UInt8) (w : World) (hr : Rd w A n (bvs xs)) (hlen : n ≤ 140737488351232) :
    Calls Try.prog 13 #[.slice A n c, bv m] w fun e w' => ∃ F, w.heap.size ≤ F ∧ e = .returned (.slice (some ⟨F, 0, none⟩) (n + 80) (n + 80)) ∧ Blk w' F (bvs (xs ++ List.replicate 80 m)) 5 ∧ Below w.heap.size w w' :=
  (roomy A n c xs m w hr hlen).mono fun _ _ h => ⟨_, Nat.le_refl _, h.1, h.2.1, h.2.2⟩

/-- The place that a step names. -/
theorem at_exG (a : Int) (m : Nat) (hm : 0 < m) : ∃ i : Nat, a % ((m : Int) - 1 + 1) = (i : Int) ∧ i < m := by
  have h1 := Int.emod_nonneg a (show (m : Int) ≠ 0 by omega)
  have h2 := Int.emod_lt_of_pos a (show (0 : Int) < (m : Int) by omega)
  refine ⟨(a % (m : Int)).toNat, ?_, by omega⟩
  rw [Int.sub_add_cancel]
  omega

theorem ptr_atG {w : World} {base m c : Nat} {t : TypeId} {a : Addr} {L : List (List Value)} {i : Nat} {v : Value} (h : Row w base t 1 (.slice (some a) m c) L) (hi : L[i]? = some [v]) : w.cell? (a.add i) = some v := by
  obtain ⟨ad, e, hc⟩ := row_one h i v hi
  injection e with e
  subst e
  exact hc
/-- The six cells of a step, as the walk reads them. -/
theorem op_cellsG {w : World} {ad : Addr} {k : Nat} {o : OpV} (hcell : ∀ (j : Nat) (v : Value), o.cells[j]? = some v → w.cell? (ad.add (k * 6 + j)) = some v) :
    w.cell? (ad.add (k * 6)) = some (.int .i64 o.kind) ∧ w.cell? ⟨(ad.add (k * 6)).block, (ad.add (k * 6)).off + 1, none⟩ = some (.int .i64 o.at_) ∧ w.cell? ⟨(ad.add (k * 6)).block, (ad.add (k * 6)).off + 2, none⟩ = some (.int .u64 (o.n : Int)) ∧
    w.cell? ⟨(ad.add (k * 6)).block, (ad.add (k * 6)).off + 3, none⟩ = some (.int .i64 o.num) ∧ w.cell? ⟨(ad.add (k * 6)).block, (ad.add (k * 6)).off + 4, none⟩ = some (.slice o.A o.p.length o.c) ∧ w.cell? ⟨(ad.add (k * 6)).block, (ad.add (k * 6)).off + 5, none⟩ = some (.string o.s) := by
  have e0 := hcell 0 (.int .i64 o.kind) rfl
  rw [Nat.add_zero] at e0
  have e1 := hcell 1 (.int .i64 o.at_) rfl
  rw [add_at _ _ 1 (by decide)] at e1
  have e2 := hcell 2 (.int .u64 (o.n : Int)) rfl
  rw [add_at _ _ 2 (by decide)] at e2
  have e3 := hcell 3 (.int .i64 o.num) rfl
  rw [add_at _ _ 3 (by decide)] at e3
  have e4 := hcell 4 (.slice o.A o.p.length o.c) rfl
  rw [add_at _ _ 4 (by decide)] at e4
  have e5 := hcell 5 (.string o.s) rfl
  rw [add_at _ _ 5 (by decide)] at e5
  exact ⟨e0, e1, e2, e3, e4, e5⟩
theorem gapN_refG (a al : Nat) (h : 0 < al) : gapN a al = if 0 < a % al then al - a % al else 0 := by
  have hb := Nat.mod_lt a h
  unfold gapN
  by_cases h0 : 0 < a % al
  · rw [if_pos h0, Nat.mod_eq_of_lt (by omega)]
  · rw [if_neg h0, show al - a % al = al by omega, Nat.mod_self]
set_option maxHeartbeats 800000 in
set_option maxRecDepth 100000 in
theorem refgapG (a al : Nat) (w : World) (h0 : 1 ≤ al) (h1 : al ≤ 4096) (ha : a ≤ 9223372036854775807) :
    Calls Try.prog 128 #[.int .i64 (a : Int), .int .i64 (al : Int)] w fun e w' => e = .returned (.int .i64 ((gapN a al : Nat) : Int)) ∧ w' = w := by
  have hb := Nat.mod_lt a (show 0 < al by omega)
  have HG := Lib.hid (gapN_refG a al (by omega))
  obtain ⟨q, hq⟩ : ∃ q : Nat, a % al = q := ⟨_, rfl⟩
  have e1 : (a : Int) % (al : Int) = (q : Int) := by rw [← hq]; exact (Int.natCast_emod a al).symm
  rw [hq] at hb
  have HQ := Lib.hid hq
  clear hq
  by_cases hz : 0 < q
  · have t1 : decide ((0 : Int) < (q : Int)) = true := decide_eq_true (by omega)
    have t2 : decide (0 < q) = true := decide_eq_true hz
    go_enter Try.func128, Try.ntmps128
    go_wp2_with fail
    go_ret
    exact ⟨ret_int (by rw [HG.out, HQ.out, if_pos hz]; omega), rfl⟩
  · obtain rfl : q = 0 := by omega
    go_enter Try.func128, Try.ntmps128
    go_wp2_with fail
    go_ret
    exact ⟨ret_int (by rw [HG.out, HQ.out, if_neg (by omega)]; exact e1), rfl⟩

end Go.Proofs.Ythdjddpomaendaa.B
