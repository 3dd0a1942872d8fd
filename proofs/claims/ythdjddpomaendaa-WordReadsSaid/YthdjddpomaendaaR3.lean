/- The Reader: Bytes, Seal. -/
import Derived.Test.YthdjddpomaendaaR2
namespace Go.Proofs.Ythdjddpomaendaa.B
open Go.RowKit
set_option linter.unusedVariables false
set_option linter.unusedSimpArgs false

def bytesV (n : Int) (bs : List UInt8) (at_ : Nat) (e : Int) : List UInt8 := if e = 0 ∧ 0 ≤ n ∧ at_ + n ≤ bs.length then (bs.drop at_).take n.toNat else []
def bytesA (n : Int) (bs : List UInt8) (at_ : Nat) (e : Int) : Nat := if e = 0 ∧ 0 ≤ n ∧ at_ + n ≤ bs.length then at_ + n.toNat else at_
def bytesE (n : Int) (bs : List UInt8) (at_ : Nat) (e : Int) : Int := if e = 0 then (if n < 0 then 1 else if bs.length < at_ + n then 10 else 0) else e
theorem IsR.to_base {w : World} {base g : Nat} {A : Option Addr} {c : Nat} {bs : List UInt8} {at_ : Nat} {e : Int} (h : IsR w base g A c bs at_ e) : base ≤ w.heap.size := Nat.le_of_lt (Nat.lt_of_le_of_lt h.hg h.lt)

section
variable (base g : Nat) (A : Option Addr) (c : Nat) (bs : List UInt8) (at_ : Nat) (e : Int) (w : World) (hR : IsR w base g A c bs at_ e)
include hR
set_option maxHeartbeats 1600000 in
set_option maxRecDepth 100000 in
theorem rBytes (n : Int) (hn : n ≤ 9223372036854775807) : Calls Try.prog 38 #[.pointer (some ⟨g, 0, none⟩), .int .i64 n] w fun r w' => ∃ A' n' c', r = .returned (.slice A' n' c') ∧ n' = (bytesV n bs at_ e).length ∧ Own w' w.heap.size (.slice A' n' c') (bytesV n bs at_ e) ∧ IsR w' base g A c bs (bytesA n bs at_ e) (bytesE n bs at_ e) ∧ Fr (fun k => k = g) w w' := by
  have c0 := hR.blk.cell 0 _ rfl
  have c1 := hR.blk.cell 1 _ rfl
  have c2 := hR.blk.cell 2 _ rfl
  have f1 := hR.blk.free 1
  have f2 := hR.blk.free 2
  have ha := hR.hat
  have hl := hR.hlen
  by_cases he : e = 0
  · subst he
    by_cases hn0 : n < 0
    · have t1 : decide (n < 0) = true := decide_eq_true hn0
      have HE := Lib.hid (show bytesV n bs at_ 0 = [] ∧ bytesA n bs at_ 0 = at_ ∧ bytesE n bs at_ 0 = 1 from ⟨if_neg (by omega), if_neg (by omega), by unfold bytesE; rw [if_pos rfl, if_pos hn0]⟩)
      go_enter Try.func38, Try.ntmps38
      go_wp2_with fail
      go_ret
      have h := hR.set_err 1
      exact ⟨none, 0, 0, rfl, by rw [HE.out.1]; rfl, by rw [HE.out.1]; exact Own.nil _ _, h.1.eq_ HE.out.2.1.symm HE.out.2.2.symm, h.2⟩
    · have t1 : decide (n < 0) = false := decide_eq_false hn0
      obtain ⟨n, rfl⟩ := Int.eq_ofNat_of_zero_le (show 0 ≤ n by omega)
      by_cases hlt : bs.length < at_ + n
      · have HE := Lib.hid (show bytesV n bs at_ 0 = [] ∧ bytesA n bs at_ 0 = at_ ∧ bytesE n bs at_ 0 = 10 from ⟨if_neg (by omega), if_neg (by omega), by unfold bytesE; rw [if_pos rfl, if_neg hn0, if_pos (by omega)]⟩)
        go_enter Try.func38, Try.ntmps38
        go_wp2_with fail
        refine (next_no base g A c bs at_ 0 _ hR 0 n 0 n rfl rfl (by omega) (by omega) (.inr (by omega))).mono ?_
        rintro r w1 ⟨rfl, hR1, hF1⟩
        have HR1 := Lib.hid hR1
        clear hR1
        go_wp2_with fail
        go_ret
        exact ⟨none, 0, 0, rfl, by rw [HE.out.1]; rfl, by rw [HE.out.1]; exact Own.nil _ _, HR1.out.eq_ HE.out.2.1.symm HE.out.2.2.symm, hF1⟩
      · have HE := Lib.hid (show bytesV n bs at_ 0 = (bs.drop at_).take n ∧ bytesA n bs at_ 0 = at_ + n ∧ bytesE n bs at_ 0 = 0 from ⟨by unfold bytesV; rw [if_pos ⟨rfl, by omega, by omega⟩, Int.toNat_natCast], by unfold bytesA; rw [if_pos ⟨rfl, by omega, by omega⟩, Int.toNat_natCast], by unfold bytesE; rw [if_pos rfl, if_neg hn0, if_neg (by omega)]⟩)
        go_enter Try.func38, Try.ntmps38
        go_wp2_with fail
        refine (next_ok base g A c bs at_ w hR 0 n 0 n rfl rfl (by omega) (by omega)).mono ?_
        rintro r w1 ⟨A', c', rfl, hc', hrd, ⟨nd, rfl⟩⟩
        have hR1 := hR.below (below_drewN (Below.refl _ w) nd)
        have h := hR1.set_at (at_ + n) (by omega)
        have hrd1 := hrd _ h.1.own
        rw [Nat.add_zero] at hrd1
        have HF := Lib.hid ((Fr.of_below (below_drewN (Below.refl _ w) nd) (fun k => k = g)).trans_g h.2)
        have HR2 := Lib.hid h.1
        clear hrd h hR1
        go_wp2_with fail
        refine (clone_ A' n c' _ _ hrd1 (by omega)).mono ?_
        rintro r w2 ⟨A2, c2', rfl, hO, hb⟩
        have HO := Lib.hid hO
        clear hO
        go_wp2_with fail
        go_ret
        have hs : w.heap.size ≤ ((w.drewN nd).setCell ⟨g, 1, none⟩ (.int .i64 ((at_ + n : Nat) : Int))).heap.size := HF.out.size
        exact ⟨A2, n, c2', rfl, by rw [HE.out.1]; simp; omega, by rw [HE.out.1]; exact HO.out.mono hs, (HR2.out.below hb).eq_ HE.out.2.1.symm HE.out.2.2.symm, HF.out.then_b hb⟩
  · have t1 : (e == 0) = false := beq_eq_false_iff_ne.2 he
    have t2 : (e != 0) = true := bne_iff_ne.2 he
    have HE := Lib.hid (show bytesV n bs at_ e = [] ∧ bytesA n bs at_ e = at_ ∧ bytesE n bs at_ e = e from ⟨if_neg (fun h => he h.1), if_neg (fun h => he h.1), if_neg he⟩)
    go_enter Try.func38, Try.ntmps38
    go_wp2_with fail
    go_ret
    exact ⟨none, 0, 0, rfl, by rw [HE.out.1]; rfl, by rw [HE.out.1]; exact Own.nil _ _, hR.eq_ HE.out.2.1.symm HE.out.2.2.symm, Fr.refl _ _⟩
end
end Go.Proofs.Ythdjddpomaendaa.B
