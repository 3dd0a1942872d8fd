/- The Reader: Seal. -/
import Derived.Test.YthdjddpomaendaaR3
namespace Go.Proofs.Ythdjddpomaendaa.B
open Go.RowKit
set_option linter.unusedVariables false
set_option linter.unusedSimpArgs false

theorem same_goal {X : Prop} (h : X) : X := h
def rsealOk (fr : Int) (bs : List UInt8) (at_ : Nat) (e : Int) : Prop := e = 0 ∧ 0 ≤ fr ∧ fr ≤ at_ ∧ at_ + 4 ≤ bs.length ∧ leNum ((bs.drop at_).take 4) = (moreC 0 ((bs.drop fr.toNat).take (at_ - fr.toNat))).toNat
instance (fr : Int) (bs : List UInt8) (at_ : Nat) (e : Int) : Decidable (rsealOk fr bs at_ e) := by unfold rsealOk; infer_instance
def rsealA (fr : Int) (bs : List UInt8) (at_ : Nat) (e : Int) : Nat := if rsealOk fr bs at_ e then at_ + 4 else at_
def rsealE (fr : Int) (bs : List UInt8) (at_ : Nat) (e : Int) : Int := if e = 0 then (if fr < 0 ∨ (at_ : Int) < fr then 1 else if bs.length < at_ + 4 then 10 else if rsealOk fr bs at_ e then 0 else 11) else e

section
variable (base g : Nat) (A : Option Addr) (c : Nat) (bs : List UInt8) (at_ : Nat) (e : Int) (w : World) (hR : IsR w base g A c bs at_ e)
include hR
set_option maxHeartbeats 3200000 in
set_option maxRecDepth 100000 in
theorem rSeal (fr : Int) : Calls Try.prog 39 #[.pointer (some ⟨g, 0, none⟩), .int .i64 fr] w fun r w' => r = .returned (.tuple #[]) ∧ IsR w' base g A c bs (rsealA fr bs at_ e) (rsealE fr bs at_ e) ∧ Fr (fun k => k = g) w w' := by
  have c0 := hR.blk.cell 0 _ rfl
  have c1 := hR.blk.cell 1 _ rfl
  have c2 := hR.blk.cell 2 _ rfl
  have f2 := hR.blk.free 2
  have ha := hR.hat
  have hl := hR.hlen
  obtain ⟨hc1, hc2⟩ := hR.cap
  by_cases he : e = 0
  · subst he
    by_cases hbad : fr < 0 ∨ (at_ : Int) < fr
    · have HE := Lib.hid (show rsealA fr bs at_ 0 = at_ ∧ rsealE fr bs at_ 0 = 1 from ⟨if_neg (by unfold rsealOk; omega), by unfold rsealE; rw [if_pos rfl, if_pos hbad]⟩)
      by_cases h1 : fr < 0
      · have t1 : decide (fr < 0) = true := decide_eq_true h1
        clear hbad
        go_enter Try.func39, Try.ntmps39
        go_wp2_with fail
        have h := hR.set_err 1
        refine (next_no base g A c bs at_ 1 _ h.1 0 4 0 4 rfl rfl (by omega) (by omega) (.inl (by decide))).mono ?_
        rintro r w1 ⟨rfl, hR1, hF1⟩
        have HR1 := Lib.hid hR1
        have HF := Lib.hid (h.2.trans_g hF1)
        clear hR1 hF1 h
        go_wp2_with fail
        ((try simp only [Exit.inBlock, Exit.then]); refine bodyPost_ret (results_none rfl _ _ _) rfl ?_)
        exact ⟨rfl, HR1.out.eq_ HE.out.1.symm (by rw [HE.out.2]; rfl), HF.out⟩
      · have t1 : decide (fr < 0) = false := decide_eq_false h1
        have t2 : decide ((at_ : Int) < fr) = true := decide_eq_true (by omega)
        clear hbad
        go_enter Try.func39, Try.ntmps39
        go_wp2_with fail
        have h := hR.set_err 1
        refine (next_no base g A c bs at_ 1 _ h.1 0 4 0 4 rfl rfl (by omega) (by omega) (.inl (by decide))).mono ?_
        rintro r w1 ⟨rfl, hR1, hF1⟩
        have HR1 := Lib.hid hR1
        have HF := Lib.hid (h.2.trans_g hF1)
        clear hR1 hF1 h
        go_wp2_with fail
        ((try simp only [Exit.inBlock, Exit.then]); refine bodyPost_ret (results_none rfl _ _ _) rfl ?_)
        exact ⟨rfl, HR1.out.eq_ HE.out.1.symm (by rw [HE.out.2]; rfl), HF.out⟩
    · have t1 : decide (fr < 0) = false := decide_eq_false (by omega)
      obtain ⟨fr, rfl⟩ := Int.eq_ofNat_of_zero_le (show 0 ≤ fr by omega)
      have t2 : decide (at_ < fr) = false := decide_eq_false (by omega)
      by_cases hsh : bs.length < at_ + 4
      · have HE := Lib.hid (show rsealA (fr : Int) bs at_ 0 = at_ ∧ rsealE (fr : Int) bs at_ 0 = 10 from ⟨if_neg (by unfold rsealOk; omega), by unfold rsealE; rw [if_pos rfl, if_neg hbad, if_pos hsh]⟩)
        clear hbad
        go_enter Try.func39, Try.ntmps39
        go_wp2_with fail
        refine (next_no base g A c bs at_ 0 _ hR 0 4 0 4 rfl rfl (by omega) (by omega) (.inr (by omega))).mono ?_
        rintro r w1 ⟨rfl, hR1, hF1⟩
        have HR1 := Lib.hid hR1
        clear hR1
        go_wp2_with fail
        ((try simp only [Exit.inBlock, Exit.then]); refine bodyPost_ret (results_none rfl _ _ _) rfl ?_)
        exact ⟨rfl, HR1.out.eq_ HE.out.1.symm HE.out.2.symm, hF1⟩
      · obtain ⟨A5, hcut, hrd5⟩ := cut_lohi A bs.length c fr (at_ - fr) (fr : Int) (at_ : Int) rfl (by omega) (by omega) hc1 hc2
        have HRD5 := Lib.hid hrd5
        clear hrd5
        by_cases hs : leNum ((bs.drop at_).take 4) = (moreC 0 ((bs.drop fr).take (at_ - fr))).toNat
        · have HE := Lib.hid (show rsealA (fr : Int) bs at_ 0 = at_ + 4 ∧ rsealE (fr : Int) bs at_ 0 = 0 from by
            have hk : rsealOk (fr : Int) bs at_ 0 := ⟨rfl, by omega, by omega, by omega, by rw [Int.toNat_natCast]; exact hs⟩
            exact ⟨if_pos hk, by unfold rsealE; rw [if_pos rfl, if_neg hbad, if_neg hsh, if_pos hk]⟩)
          have t3 : ((((leNum ((bs.drop at_).take 4) : Nat) : Int)) != ((moreC 0 ((bs.drop fr).take (at_ - fr))).toNat : Int)) = false := by rw [bne_eq_false_iff_eq, hs]
          clear hbad hs
          go_enter Try.func39, Try.ntmps39
          go_wp2_with fail
          refine (next_ok base g A c bs at_ w hR 0 4 0 4 rfl rfl (by omega) (by omega)).mono ?_
          rintro r w1 ⟨A', c', rfl, hc', hrd, ⟨nd, rfl⟩⟩
          have hR1 := hR.below (below_drewN (Below.refl _ w) nd)
          have hrd1 := hrd _ hR1.own
          rw [Nat.add_zero] at hrd1
          clear hrd
          go_wp2_with fail
          refine (get_uint32 A' 4 c' _ _ hrd1 hc' (Nat.le_refl _)).mono ?_
          rintro r w3 ⟨rfl, ⟨nd2, rfl⟩⟩
          rw [List.take_of_length_le (by rw [hrd1.len]; exact Nat.le_refl _)]
          clear hrd1
          go_wp2_with fail
          go_region_law (refine goes Try.func14 (by kernel_rfl) rfl #[.slice A5 (at_ - fr) (c - fr)] rfl rfl (by simp only [List.map_toArray, List.map_cons, List.map_nil]; rfl) ?_; have hb3 : Below w.heap.size w (w.drewN (nd + nd2 + 1)) := below_drewN (Below.refl _ w) (nd + nd2 + 1); refine (crc_ A5 _ _ ((bs.drop fr).take (at_ - fr)) _ (HRD5.out (w.drewN (nd + nd2 + 1)) bs (hR.own.below hb3).rd_)).mono ?_; rintro e w4 ⟨rfl, hb4⟩; refine ⟨_, rfl, ?_⟩; have hb5 := hb3.trans (hb4.mono hb3.size); have hR5 := hR.below hb5; have c15 := hR5.blk.cell 1 _ rfl; have c25 := hR5.blk.cell 2 _ rfl; have f15 := hR5.blk.free 1; have f25 := hR5.blk.free 2)
          all_goals
            go_wp2
            go_end0
            have h := hR5.set_at (at_ + 4) (by omega)
            exact ⟨rfl, h.1.eq_ HE.out.1.symm HE.out.2.symm, (Fr.of_below hb5 _).trans_g h.2⟩
        · have HE := Lib.hid (show rsealA (fr : Int) bs at_ 0 = at_ ∧ rsealE (fr : Int) bs at_ 0 = 11 from by
            have hk : ¬ rsealOk (fr : Int) bs at_ 0 := fun h => hs (by have h2 := h.2.2.2.2; rw [Int.toNat_natCast] at h2; exact h2)
            exact ⟨if_neg hk, by unfold rsealE; rw [if_pos rfl, if_neg hbad, if_neg hsh, if_neg hk]⟩)
          have t3 : ((((leNum ((bs.drop at_).take 4) : Nat) : Int)) != ((moreC 0 ((bs.drop fr).take (at_ - fr))).toNat : Int)) = true := by rw [bne_iff_ne]; omega
          clear hbad hs
          go_enter Try.func39, Try.ntmps39
          go_wp2_with fail
          refine (next_ok base g A c bs at_ w hR 0 4 0 4 rfl rfl (by omega) (by omega)).mono ?_
          rintro r w1 ⟨A', c', rfl, hc', hrd, ⟨nd, rfl⟩⟩
          have hR1 := hR.below (below_drewN (Below.refl _ w) nd)
          have hrd1 := hrd _ hR1.own
          rw [Nat.add_zero] at hrd1
          clear hrd
          go_wp2_with fail
          refine (get_uint32 A' 4 c' _ _ hrd1 hc' (Nat.le_refl _)).mono ?_
          rintro r w3 ⟨rfl, ⟨nd2, rfl⟩⟩
          rw [List.take_of_length_le (by rw [hrd1.len]; exact Nat.le_refl _)]
          clear hrd1
          go_wp2_with fail
          go_region_law (refine goes Try.func14 (by kernel_rfl) rfl #[.slice A5 (at_ - fr) (c - fr)] rfl rfl (by simp only [List.map_toArray, List.map_cons, List.map_nil]; rfl) ?_; have hb3 : Below w.heap.size w (w.drewN (nd + nd2 + 1)) := below_drewN (Below.refl _ w) (nd + nd2 + 1); refine (crc_ A5 _ _ ((bs.drop fr).take (at_ - fr)) _ (HRD5.out (w.drewN (nd + nd2 + 1)) bs (hR.own.below hb3).rd_)).mono ?_; rintro e w4 ⟨rfl, hb4⟩; refine ⟨_, rfl, ?_⟩; have hb5 := hb3.trans (hb4.mono hb3.size); have hR5 := hR.below hb5; have c15 := hR5.blk.cell 1 _ rfl; have c25 := hR5.blk.cell 2 _ rfl; have f15 := hR5.blk.free 1; have f25 := hR5.blk.free 2)
          all_goals
            go_wp2
            ((try simp only [Exit.inBlock, Exit.then]); refine bodyPost_ret (results_none rfl _ _ _) rfl ?_)
            have h := hR5.set_err 11
            exact ⟨rfl, h.1.eq_ HE.out.1.symm HE.out.2.symm, (Fr.of_below hb5 _).trans_g h.2⟩
  · have t1 : (e == 0) = false := beq_eq_false_iff_ne.2 he
    have HE := Lib.hid (show rsealA fr bs at_ e = at_ ∧ rsealE fr bs at_ e = e from ⟨if_neg (fun h => he h.1), if_neg he⟩)
    go_enter Try.func39, Try.ntmps39
    go_wp2_with fail
    refine (next_no base g A c bs at_ e _ hR 0 4 0 4 rfl rfl (by omega) (by omega) (.inl he)).mono ?_
    rintro r w1 ⟨rfl, hR1, hF1⟩
    rw [if_neg he] at hR1
    have HR1 := Lib.hid hR1
    clear hR1
    go_wp2_with fail
    ((try simp only [Exit.inBlock, Exit.then]); refine bodyPost_ret (results_none rfl _ _ _) rfl ?_)
    exact ⟨rfl, HR1.out.eq_ HE.out.1.symm HE.out.2.symm, hF1⟩
end
end Go.Proofs.Ythdjddpomaendaa.B
