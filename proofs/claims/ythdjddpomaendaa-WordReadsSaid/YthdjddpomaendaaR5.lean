/- The Reader: Pad. -/
import Derived.Test.YthdjddpomaendaaR4
namespace Go.Proofs.Ythdjddpomaendaa.B
open Go.RowKit
set_option linter.unusedVariables false
set_option linter.unusedSimpArgs false

/-- The bytes that a Pad takes. -/
def padL (al : Int) (bs : List UInt8) (at_ : Nat) : List UInt8 := (bs.drop at_).take (gapN at_ al.toNat)
def rpadOk (al : Int) (bs : List UInt8) (at_ : Nat) (e : Int) : Prop := e = 0 ∧ 1 ≤ al ∧ al ≤ 4096 ∧ at_ + gapN at_ al.toNat ≤ bs.length ∧ padL al bs at_ = List.replicate (gapN at_ al.toNat) 0
instance (al : Int) (bs : List UInt8) (at_ : Nat) (e : Int) : Decidable (rpadOk al bs at_ e) := by unfold rpadOk; infer_instance
def rpadA (al : Int) (bs : List UInt8) (at_ : Nat) (e : Int) : Nat := if rpadOk al bs at_ e then at_ + gapN at_ al.toNat else at_
def rpadE (al : Int) (bs : List UInt8) (at_ : Nat) (e : Int) : Int := if e = 0 then (if ¬ (1 ≤ al ∧ al ≤ 4096) then 1 else if bs.length < at_ + gapN at_ al.toNat then 10 else if rpadOk al bs at_ e then 0 else 5) else e

section
variable (base g : Nat) (A : Option Addr) (c : Nat) (bs : List UInt8) (at_ : Nat) (e : Int) (w : World) (hR : IsR w base g A c bs at_ e)
include hR
set_option maxHeartbeats 3200000 in
set_option maxRecDepth 100000 in
theorem rPad (al : Int) : Calls Try.prog 52 #[.pointer (some ⟨g, 0, none⟩), .int .i64 al] w fun r w' => r = .returned (.tuple #[]) ∧ IsR w' base g A c bs (rpadA al bs at_ e) (rpadE al bs at_ e) ∧ Fr (fun k => k = g) w w' := by
  have c0 := hR.blk.cell 0 _ rfl
  have c1 := hR.blk.cell 1 _ rfl
  have c2 := hR.blk.cell 2 _ rfl
  have f1 := hR.blk.free 1
  have f2 := hR.blk.free 2
  have ha := hR.hat
  have hl := hR.hlen
  by_cases he : e = 0
  · subst he
    by_cases hbad : ¬ (1 ≤ al ∧ al ≤ 4096)
    · have HE := Lib.hid (show rpadA al bs at_ 0 = at_ ∧ rpadE al bs at_ 0 = 1 from ⟨if_neg (fun h => hbad ⟨h.2.1, h.2.2.1⟩), by unfold rpadE; rw [if_pos rfl, if_pos hbad]⟩)
      have h := hR.set_err 1
      by_cases h1 : al < 1
      · have t1 : decide (al < 1) = true := decide_eq_true h1
        clear hbad
        go_enter Try.func52, Try.ntmps52
        go_wp2_with fail
        ((try simp only [Exit.inBlock, Exit.then]); refine bodyPost_ret (results_none rfl _ _ _) rfl ?_)
        exact ⟨rfl, h.1.eq_ HE.out.1.symm HE.out.2.symm, h.2⟩
      · have t1 : decide (al < 1) = false := decide_eq_false h1
        have t2 : decide (4096 < al) = true := decide_eq_true (by omega)
        clear hbad
        go_enter Try.func52, Try.ntmps52
        go_wp2_with fail
        ((try simp only [Exit.inBlock, Exit.then]); refine bodyPost_ret (results_none rfl _ _ _) rfl ?_)
        exact ⟨rfl, h.1.eq_ HE.out.1.symm HE.out.2.symm, h.2⟩
    · have hok : 1 ≤ al ∧ al ≤ 4096 := Classical.not_not.1 hbad
      obtain ⟨al, rfl⟩ := Int.eq_ofNat_of_zero_le (show 0 ≤ al by omega)
      have t1 : decide ((al : Int) < 1) = false := decide_eq_false (by omega)
      have t2 : decide (4096 < al) = false := decide_eq_false (by omega)
      have hgl := gapN_lt at_ al (by omega)
      obtain ⟨K, hK⟩ : ∃ K, gapN at_ al = K := ⟨_, rfl⟩
      rw [hK] at hgl
      by_cases hsh : bs.length < at_ + K
      · have HE := Lib.hid (show rpadA (al : Int) bs at_ 0 = at_ ∧ rpadE (al : Int) bs at_ 0 = 10 from ⟨if_neg (fun h => by have := h.2.2.2.1; rw [Int.toNat_natCast, hK] at this; omega), by unfold rpadE; rw [if_pos rfl, if_neg hbad, Int.toNat_natCast, hK, if_pos hsh]⟩)
        have HK := Lib.hid hK
        clear hbad hK
        go_enter Try.func52, Try.ntmps52
        go_wp2_with fail
        refine (gap_ at_ al (al : Int) _ rfl (by omega) (by omega) (by omega)).mono ?_
        rintro r w1 ⟨rfl, rfl⟩
        rw [HK.out]
        go_wp2_with fail
        refine (next_no base g A c bs at_ 0 _ hR 0 K 0 K rfl rfl (by omega) (by omega) (.inr (by omega))).mono ?_
        rintro r w1 ⟨rfl, hR1, hF1⟩
        have HR1 := Lib.hid hR1
        clear hR1
        go_wp2_with fail
        ((try simp only [Exit.inBlock, Exit.then]); refine bodyPost_ret (results_none rfl _ _ _) rfl ?_)
        exact ⟨rfl, HR1.out.eq_ HE.out.1.symm HE.out.2.symm, hF1⟩
      · obtain ⟨z, hz⟩ : ∃ z : List UInt8, (bs.drop at_).take K = z := ⟨_, rfl⟩
        have hzl : z.length = K := by rw [← hz]; simp; omega
        have HE1 := Lib.hid (show z = List.replicate K 0 → rpadA (al : Int) bs at_ 0 = at_ + K ∧ rpadE (al : Int) bs at_ 0 = 0 from fun hzz => by
          have hk : rpadOk (al : Int) bs at_ 0 := ⟨rfl, by omega, by omega, by rw [Int.toNat_natCast, hK]; omega, by unfold padL; rw [Int.toNat_natCast, hK, hz, hzz]⟩
          exact ⟨by unfold rpadA; rw [if_pos hk, Int.toNat_natCast, hK], by unfold rpadE; rw [if_pos rfl, if_neg hbad, Int.toNat_natCast, hK, if_neg hsh, if_pos hk]⟩)
        have HE2 := Lib.hid (show z ≠ List.replicate K 0 → rpadA (al : Int) bs at_ 0 = at_ ∧ rpadE (al : Int) bs at_ 0 = 5 from fun hzz => by
          have hk : ¬ rpadOk (al : Int) bs at_ 0 := fun h => by have h5 := h.2.2.2.2; unfold padL at h5; rw [Int.toNat_natCast, hK, hz] at h5; exact hzz h5
          exact ⟨by unfold rpadA; rw [if_neg hk], by unfold rpadE; rw [if_pos rfl, if_neg hbad, Int.toNat_natCast, hK, if_neg hsh, if_neg hk]⟩)
        have HK := Lib.hid hK
        have HZ := Lib.hid hz
        clear hbad hK hz
        go_enter Try.func52, Try.ntmps52
        go_wp2_with fail
        refine (gap_ at_ al (al : Int) _ rfl (by omega) (by omega) (by omega)).mono ?_
        rintro r w1 ⟨rfl, rfl⟩
        rw [HK.out]
        go_wp2_with fail
        refine (next_ok base g A c bs at_ w1 hR 0 K 0 K rfl rfl (by omega) (by omega)).mono ?_
        rintro r w2 ⟨A', c', rfl, hc', hrd, ⟨nd, rfl⟩⟩
        have hR2 := hR.below (below_drewN (Below.refl _ w1) nd)
        have hrd2 := hrd _ hR2.own
        rw [Nat.add_zero, HZ.out] at hrd2
        clear hrd
        go_wp2_with fail
        go_loopw [44] (fun i wr => ∃ k : Nat, k ≤ K ∧ i = .int .i64 k ∧ wr = w1.drewN nd ∧ ∀ j, j < k → z[j]? = some 0) (fun i _ => K - (intOf i).toNat)
        case atStart => exact ⟨0, by omega, rfl, rfl, fun j hj => by omega⟩
        case round =>
          obtain ⟨k, hk, rfl, rfl, hzero⟩ := hrel
          have HZ0 := Lib.hid hzero
          clear hzero
          by_cases hlt : k < K
          · have hkz : k < z.length := by rw [hzl]; exact hlt
            obtain ⟨ad, rfl, ha⟩ := hrd2.byte k hkz
            by_cases h0 : z[k] = 0
            · rw [h0] at ha
              go_wp2
              go_roundw
              case rel => exact ⟨k + 1, by omega, by go_num, by first | rfl | trivial, fun j hj => by
                by_cases hjk : j < k
                · exact HZ0.out j hjk
                · obtain rfl : j = k := by omega
                  rw [List.getElem?_eq_getElem hkz, h0]⟩
              case measure => simp [intOf]; omega
            · have t3 : ((z[k].toNat : Int) != 0) = true := by
                rw [bne_iff_ne]
                intro h
                exact h0 (UInt8.toNat_inj.1 (by rw [UInt8.toNat_zero]; omega))
              have HN := Lib.hid (HE2.out (fun h => h0 (by simp [h])))
              have h := hR2.set_err 5
              go_wp2
              ((try simp only [Exit.inBlock, Exit.then]); refine bodyPost_ret (results_none rfl _ _ _) rfl ?_)
              exact ⟨rfl, h.1.eq_ HN.out.1.symm HN.out.2.symm, (Fr.of_below (below_drewN (Below.refl _ w1) nd) _).trans_g h.2⟩
          · obtain rfl : k = K := by omega
            have HN := Lib.hid (HE1.out (by
              apply List.ext_getElem?
              intro j
              by_cases hj : j < k
              · rw [HZ0.out j hj]; simp [hj]
              · rw [List.getElem?_eq_none (by omega), List.getElem?_eq_none (by simp; omega)]))
            have h := hR2.set_at (at_ + k) (by omega)
            go_wp2
            go_end0
            exact ⟨rfl, h.1.eq_ HN.out.1.symm HN.out.2.symm, (Fr.of_below (below_drewN (Below.refl _ w1) nd) _).trans_g h.2⟩
  · have t1 : (e == 0) = false := beq_eq_false_iff_ne.2 he
    have t2 : (e != 0) = true := bne_iff_ne.2 he
    have HE := Lib.hid (show rpadA al bs at_ e = at_ ∧ rpadE al bs at_ e = e from ⟨if_neg (fun h => he h.1), if_neg he⟩)
    go_enter Try.func52, Try.ntmps52
    go_wp2_with fail
    ((try simp only [Exit.inBlock, Exit.then]); refine bodyPost_ret (results_none rfl _ _ _) rfl ?_)
    exact ⟨rfl, hR.eq_ HE.out.1.symm HE.out.2.symm, Fr.refl _ _⟩
end
end Go.Proofs.Ythdjddpomaendaa.B
