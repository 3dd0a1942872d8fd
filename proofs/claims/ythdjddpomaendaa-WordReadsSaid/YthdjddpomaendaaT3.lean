/- The reference's Reader: Pad, Seal. -/
import Derived.Test.YthdjddpomaendaaT2
namespace Go.Proofs.Ythdjddpomaendaa.B
open Go.RowKit
set_option linter.unusedVariables false
set_option linter.unusedSimpArgs false

section
variable (base g : Nat) (A : Option Addr) (c : Nat) (bs : List UInt8) (at_ : Nat) (e : Int) (w : World) (hU : IsU w base g A c bs at_ e)
include hU
set_option maxHeartbeats 3200000 in
set_option maxRecDepth 100000 in
theorem uPad (al : Int) : Calls Try.prog 118 #[.pointer (some ⟨g, 0, none⟩), .int .i64 al] w fun r w' => r = .returned (.tuple #[]) ∧ IsU w' base g A c bs (rpadA al bs at_ e) (rpadE al bs at_ e) ∧ Fr (fun k => k = g) w w' := by
  have c1 := hU.blk.cell 1 _ rfl
  have c2 := hU.blk.cell 2 _ rfl
  have f2 := hU.blk.free 2
  have ha := hU.hat
  have hl := hU.hlen
  by_cases he : e = 0
  · subst he
    by_cases hbad : ¬ (1 ≤ al ∧ al ≤ 4096)
    · have HE := Lib.hid (show rpadA al bs at_ 0 = at_ ∧ rpadE al bs at_ 0 = 1 from ⟨if_neg (fun h => hbad ⟨h.2.1, h.2.2.1⟩), by unfold rpadE; rw [if_pos rfl, if_pos hbad]⟩)
      have h := hU.set_err 1
      by_cases h1 : al < 1
      · have t1 : decide (al < 1) = true := decide_eq_true h1
        clear hbad
        go_enter Try.func118, Try.ntmps118
        go_wp2_with fail
        ((try simp only [Exit.inBlock, Exit.then]); refine bodyPost_ret (results_none rfl _ _ _) rfl ?_)
        exact ⟨rfl, h.1.eq_ HE.out.1.symm HE.out.2.symm, h.2⟩
      · have t1 : decide (al < 1) = false := decide_eq_false h1
        have t2 : decide (4096 < al) = true := decide_eq_true (by omega)
        clear hbad
        go_enter Try.func118, Try.ntmps118
        go_wp2_with fail
        ((try simp only [Exit.inBlock, Exit.then]); refine bodyPost_ret (results_none rfl _ _ _) rfl ?_)
        exact ⟨rfl, h.1.eq_ HE.out.1.symm HE.out.2.symm, h.2⟩
    · have hok : 1 ≤ al ∧ al ≤ 4096 := Classical.not_not.1 hbad
      obtain ⟨al, rfl⟩ := Int.eq_ofNat_of_zero_le (show 0 ≤ al by omega)
      have t1 : decide ((al : Int) < 1) = false := decide_eq_false (by omega)
      have t2 : decide (4096 < al) = false := decide_eq_false (by omega)
      have hgl := gapN_lt at_ al (by omega)
      obtain ⟨K, hK⟩ : ∃ K, gapN at_ al = K := ⟨_, rfl⟩
      rw [hK] at hgl
      by_cases hsh : bs.length < at_ + K
      · have HE := Lib.hid (show rpadA (al : Int) bs at_ 0 = at_ ∧ rpadE (al : Int) bs at_ 0 = 10 from ⟨if_neg (fun h => by have := h.2.2.2.1; rw [Int.toNat_natCast, hK] at this; omega), by unfold rpadE; rw [if_pos rfl, if_neg hbad, Int.toNat_natCast, hK, if_pos hsh]⟩)
        have HK := Lib.hid hK
        clear hbad hK
        go_enter Try.func118, Try.ntmps118
        go_wp2_with fail
        refine (refgapG at_ al _ (by omega) (by omega) (by omega)).mono ?_
        rintro r w1 ⟨rfl, rfl⟩
        rw [HK.out]
        go_wp2_with fail
        refine (utake_no base g A c bs at_ 0 _ hU K K rfl (by omega) (.inr (by omega))).mono ?_
        rintro r w2 ⟨rfl, hU2, hF2⟩
        have HU2 := Lib.hid (And.intro (show IsU w2 base g A c bs at_ 10 from hU2) hF2)
        clear hU2 hF2 c1 c2 f2
        go_wp2_with fail
        refine wp_loop_rounds 1 ?_
        rw [rounds_succ]
        go_wp2_with fail
        refine (uback base g A c bs at_ 10 _ HU2.out.1 at_ ha).mono ?_
        rintro r w3 ⟨rfl, hU3, hF3⟩
        rw [if_neg (by decide)] at hU3
        have HU3 := Lib.hid (And.intro hU3 (HU2.out.2.trans_g hF3))
        clear hU3 hF3
        go_wp2_with fail
        go_end0
        exact ⟨rfl, HU3.out.1.eq_ HE.out.1.symm HE.out.2.symm, HU3.out.2⟩
      · obtain ⟨z, hz⟩ : ∃ z : List UInt8, (bs.drop at_).take K = z := ⟨_, rfl⟩
        have hzl : z.length = K := by rw [← hz]; simp; omega
        have HE1 := Lib.hid (show z = List.replicate K 0 → rpadA (al : Int) bs at_ 0 = at_ + K ∧ rpadE (al : Int) bs at_ 0 = 0 from fun hzz => by
          have hk : rpadOk (al : Int) bs at_ 0 := ⟨rfl, by omega, by omega, by rw [Int.toNat_natCast, hK]; omega, by unfold padL; rw [Int.toNat_natCast, hK, hz, hzz]⟩
          exact ⟨by unfold rpadA; rw [if_pos hk, Int.toNat_natCast, hK], by unfold rpadE; rw [if_pos rfl, if_neg hbad, Int.toNat_natCast, hK, if_neg hsh, if_pos hk]⟩)
        have HE2 := Lib.hid (show z ≠ List.replicate K 0 → rpadA (al : Int) bs at_ 0 = at_ ∧ rpadE (al : Int) bs at_ 0 = 5 from fun hzz => by
          have hk : ¬ rpadOk (al : Int) bs at_ 0 := fun h => by have h5 := h.2.2.2.2; unfold padL at h5; rw [Int.toNat_natCast, hK, hz] at h5; exact hzz h5
          exact ⟨by unfold rpadA; rw [if_neg hk], by unfold rpadE; rw [if_pos rfl, if_neg hbad, Int.toNat_natCast, hK, if_neg hsh, if_neg hk]⟩)
        have HK := Lib.hid hK
        have HZ := Lib.hid hz
        clear hbad hK hz
        go_enter Try.func118, Try.ntmps118
        go_wp2_with fail
        refine (refgapG at_ al _ (by omega) (by omega) (by omega)).mono ?_
        rintro r w1 ⟨rfl, rfl⟩
        rw [HK.out]
        go_wp2_with fail
        refine (utake_ok base g A c bs at_ w1 hU K K rfl (by omega)).mono ?_
        rintro r w2 ⟨A', c', rfl, hc', hS, hU2, hF2⟩
        rw [HZ.out] at hS
        have HS := Lib.hid hS
        have HU2 := Lib.hid (And.intro hU2 hF2)
        clear hS hU2 hF2 c1 c2 f2
        go_wp2_with fail
        go_loopw [6] (fun i wr => ∃ (k : Nat) (e' : Int), k ≤ K ∧ i = .int .i64 (k : Int) ∧ Hid (IsU wr base g A c bs (at_ + K) e' ∧ Fr (fun k => k = g) w2 wr ∧ ((e' = 0 ∧ ∀ j, j < k → z[j]? = some 0) ∨ (e' = 5 ∧ z ≠ List.replicate K 0)))) (fun i _ => K - (intOf i).toNat)
        case atStart => exact ⟨0, 0, by omega, rfl, Lib.hid ⟨HU2.out.1, Fr.refl _ _, .inl ⟨rfl, fun j hj => by omega⟩⟩⟩
        case round =>
          obtain ⟨k, e', hk, rfl, HB⟩ := hrel
          have hrd : Rd wr A' z.length (bvs z) := HS.out wr (HB.out.2.1.below (fun k hk => by rw [hk]; exact HB.out.1.hg) (by have := HU2.out.1.hg; have := HU2.out.1.lt; omega))
          by_cases hlt : k < K
          · have hkz : k < z.length := by rw [hzl]; exact hlt
            obtain ⟨ad, rfl, hcell⟩ := hrd.byte k hkz
            by_cases h0 : z[k] = 0
            · rw [h0] at hcell
              have H0 := Lib.hid h0
              clear hrd h0
              go_wp2_with fail
              go_roundw
              case rel => exact ⟨k + 1, e', by omega, by go_num, Lib.hid ⟨HB.out.1, HB.out.2.1, HB.out.2.2.elim (fun h => .inl ⟨h.1, fun j hj => by
                by_cases hjk : j < k
                · exact h.2 j hjk
                · obtain rfl : j = k := by omega
                  rw [List.getElem?_eq_getElem hkz, H0.out]⟩) .inr⟩⟩
              case measure => simp [intOf]; omega
            · have t3 : ((z[k].toNat : Int) != 0) = true := by
                rw [bne_iff_ne]
                intro h
                exact h0 (UInt8.toNat_inj.1 (by rw [UInt8.toNat_zero]; omega))
              have t4 : ((z[k].toNat : Int) == 0) = false := by
                rw [beq_eq_false_iff_ne]
                intro h
                exact h0 (UInt8.toNat_inj.1 (by rw [UInt8.toNat_zero]; omega))
              have f2 := HB.out.1.blk.free 2
              have c2 := HB.out.1.blk.cell 2 _ rfl
              have h := HB.out.1.set_err 5
              have HX := Lib.hid (And.intro h.1 (And.intro (HB.out.2.1.trans_g h.2) (show z ≠ List.replicate K 0 from fun hzz => h0 (by simp [hzz]))))
              clear hrd h h0
              go_wp2_with fail
              go_roundw
              case rel => exact ⟨k + 1, 5, by omega, by go_num, Lib.hid ⟨HX.out.1, HX.out.2.1, .inr ⟨rfl, HX.out.2.2⟩⟩⟩
              case measure => simp [intOf]; omega
          · obtain rfl : k = K := by omega
            clear hrd
            go_wp2_with fail
            refine (uback base g A c bs (at_ + k) e' _ HB.out.1 at_ ha).mono ?_
            rintro r w3 ⟨rfl, hU3, hF3⟩
            have HU3 := Lib.hid (And.intro hU3 ((HU2.out.2.trans_g HB.out.2.1).trans_g hF3))
            clear hU3 hF3
            go_wp2_with fail
            go_end0
            rcases HB.out.2.2 with ⟨rfl, hz0⟩ | ⟨rfl, hz0⟩
            · have HN := HE1.out (by
                apply List.ext_getElem?
                intro j
                by_cases hj : j < k
                · rw [hz0 j hj]; simp [hj]
                · rw [List.getElem?_eq_none (by omega), List.getElem?_eq_none (by simp; omega)])
              exact ⟨rfl, HU3.out.1.eq_ HN.1.symm HN.2.symm, HU3.out.2⟩
            · have HN := HE2.out hz0
              exact ⟨rfl, HU3.out.1.eq_ HN.1.symm HN.2.symm, HU3.out.2⟩
  · have t1 : (e == 0) = false := beq_eq_false_iff_ne.2 he
    have t2 : (e != 0) = true := bne_iff_ne.2 he
    have HE := Lib.hid (show rpadA al bs at_ e = at_ ∧ rpadE al bs at_ e = e from ⟨if_neg (fun h => he h.1), if_neg he⟩)
    go_enter Try.func118, Try.ntmps118
    go_wp2_with fail
    ((try simp only [Exit.inBlock, Exit.then]); refine bodyPost_ret (results_none rfl _ _ _) rfl ?_)
    exact ⟨rfl, hU.eq_ HE.out.1.symm HE.out.2.symm, Fr.refl _ _⟩

set_option maxHeartbeats 3200000 in
set_option maxRecDepth 100000 in
theorem uSeal (fr : Int) : Calls Try.prog 119 #[.pointer (some ⟨g, 0, none⟩), .int .i64 fr] w fun r w' => r = .returned (.tuple #[]) ∧ IsU w' base g A c bs (rsealA fr bs at_ e) (rsealE fr bs at_ e) ∧ Fr (fun k => k = g) w w' := by
  have c1 := hU.blk.cell 1 _ rfl
  have c2 := hU.blk.cell 2 _ rfl
  have f2 := hU.blk.free 2
  have ha := hU.hat
  have hl := hU.hlen
  obtain ⟨hc1, hc2⟩ := hU.cap
  by_cases he : e = 0
  · subst he
    by_cases hbad : fr < 0 ∨ (at_ : Int) < fr
    · have HE := Lib.hid (show rsealA fr bs at_ 0 = at_ ∧ rsealE fr bs at_ 0 = 1 from ⟨if_neg (by unfold rsealOk; omega), by unfold rsealE; rw [if_pos rfl, if_pos hbad]⟩)
      have h := hU.set_err 1
      by_cases h1 : fr < 0
      · have t1 : decide (fr < 0) = true := decide_eq_true h1
        clear hbad
        go_enter Try.func119, Try.ntmps119
        go_wp2_with fail
        ((try simp only [Exit.inBlock, Exit.then]); refine bodyPost_ret (results_none rfl _ _ _) rfl ?_)
        exact ⟨rfl, h.1.eq_ HE.out.1.symm HE.out.2.symm, h.2⟩
      · have t1 : decide (fr < 0) = false := decide_eq_false h1
        have t2 : decide ((at_ : Int) < fr) = true := decide_eq_true (by omega)
        clear hbad
        go_enter Try.func119, Try.ntmps119
        go_wp2_with fail
        ((try simp only [Exit.inBlock, Exit.then]); refine bodyPost_ret (results_none rfl _ _ _) rfl ?_)
        exact ⟨rfl, h.1.eq_ HE.out.1.symm HE.out.2.symm, h.2⟩
    · have t1 : decide (fr < 0) = false := decide_eq_false (by omega)
      obtain ⟨fr, rfl⟩ := Int.eq_ofNat_of_zero_le (show 0 ≤ fr by omega)
      have t2 : decide (at_ < fr) = false := decide_eq_false (by omega)
      by_cases hsh : bs.length < at_ + 4
      · have HE := Lib.hid (show rsealA (fr : Int) bs at_ 0 = at_ ∧ rsealE (fr : Int) bs at_ 0 = 10 from ⟨if_neg (by unfold rsealOk; omega), by unfold rsealE; rw [if_pos rfl, if_neg hbad, if_pos hsh]⟩)
        have HN := Lib.hid (show numV 4 bs at_ 0 = 0 ∧ stepA 4 bs at_ 0 = at_ ∧ shortE 4 bs at_ 0 = 10 from num_no (.inr hsh))
        clear hbad
        go_enter Try.func119, Try.ntmps119
        go_wp2_with fail
        refine (uNumber4 base g A c bs at_ 0 w hU).mono ?_
        rintro r w1 ⟨rfl, hU1, hF1⟩
        rw [HN.out.1]
        rw [HN.out.2.1, HN.out.2.2] at hU1
        have e2 := hU1.blk.cell 2 _ rfl
        have HU1 := Lib.hid (And.intro hU1 hF1)
        clear hU1 hF1 c1 c2 f2
        go_wp2_with fail
        refine (uback base g A c bs at_ 10 _ HU1.out.1 at_ ha).mono ?_
        rintro r w3 ⟨rfl, hU3, hF3⟩
        rw [if_neg (by decide)] at hU3
        have HU3 := Lib.hid (And.intro hU3 (HU1.out.2.trans_g hF3))
        clear hU3 hF3
        go_wp2_with fail
        go_end0
        exact ⟨rfl, HU3.out.1.eq_ HE.out.1.symm HE.out.2.symm, HU3.out.2⟩
      · obtain ⟨A5, hcut, hrd5⟩ := cut_lohi A bs.length c fr (at_ - fr) (fr : Int) (at_ : Int) rfl (by omega) (by omega) hc1 hc2
        have HRD5 := Lib.hid hrd5
        have HN := Lib.hid (num_ok (z := 4) (show at_ + 4 ≤ bs.length by omega))
        clear hrd5
        by_cases hs : leNum ((bs.drop at_).take 4) = (moreC 0 ((bs.drop fr).take (at_ - fr))).toNat
        · have HE := Lib.hid (show rsealA (fr : Int) bs at_ 0 = at_ + 4 ∧ rsealE (fr : Int) bs at_ 0 = 0 from by
            have hk : rsealOk (fr : Int) bs at_ 0 := ⟨rfl, by omega, by omega, by omega, by rw [Int.toNat_natCast]; exact hs⟩
            exact ⟨if_pos hk, by unfold rsealE; rw [if_pos rfl, if_neg hbad, if_neg hsh, if_pos hk]⟩)
          have t3 : ((((leNum ((bs.drop at_).take 4) : Nat) : Int)) != ((moreC 0 ((bs.drop fr).take (at_ - fr))).toNat : Int)) = false := by rw [bne_eq_false_iff_eq, hs]
          have t4 : (leNum ((bs.drop at_).take 4) != (moreC 0 ((bs.drop fr).take (at_ - fr))).toNat) = false := by rw [bne_eq_false_iff_eq, hs]
          have t5 : (leNum ((bs.drop at_).take 4) == (moreC 0 ((bs.drop fr).take (at_ - fr))).toNat) = true := by rw [beq_iff_eq, hs]
          have hq : IntKind.u64.wrap ((moreC 0 ((bs.drop fr).take (at_ - fr))).toNat : Int) = ((moreC 0 ((bs.drop fr).take (at_ - fr))).toNat : Int) := by rw [IntKind.wrap_u64]; have := (moreC 0 ((bs.drop fr).take (at_ - fr))).toNat_lt; omega
          clear hbad hs
          go_enter Try.func119, Try.ntmps119
          go_wp2_with fail
          refine (uNumber4 base g A c bs at_ 0 w hU).mono ?_
          rintro r w1 ⟨rfl, hU1, hF1⟩
          rw [HN.out.1]
          rw [HN.out.2.1, HN.out.2.2] at hU1
          have e2 := hU1.blk.cell 2 _ rfl
          have e0 := hU1.blk.cell 0 _ rfl
          have hrd := HRD5.out w1 bs hU1.src.rd
          have HU1 := Lib.hid (And.intro hU1 hF1)
          clear hU1 hF1 c1 c2 f2
          go_wp2_with fail
          refine (refCRC A5 _ _ ((bs.drop fr).take (at_ - fr)) _ hrd).mono ?_
          rintro r w2 ⟨rfl, ⟨n2, rfl⟩⟩
          have hU2 := HU1.out.1.below (below_drewN (Below.refl _ w1) n2)
          have HU2 := Lib.hid (And.intro hU2 (HU1.out.2.then_b (below_drewN (Below.refl _ w1) n2)))
          clear hU2 hrd
          go_wp2_with fail
          refine (uback base g A c bs (at_ + 4) 0 _ HU2.out.1 at_ ha).mono ?_
          rintro r w3 ⟨rfl, hU3, hF3⟩
          rw [if_pos rfl] at hU3
          have HU3 := Lib.hid (And.intro hU3 (HU2.out.2.trans_g hF3))
          clear hU3 hF3
          go_wp2_with fail
          go_end0
          exact ⟨rfl, HU3.out.1.eq_ HE.out.1.symm HE.out.2.symm, HU3.out.2⟩
        · have HE := Lib.hid (show rsealA (fr : Int) bs at_ 0 = at_ ∧ rsealE (fr : Int) bs at_ 0 = 11 from by
            have hk : ¬ rsealOk (fr : Int) bs at_ 0 := fun h => hs (by have h2 := h.2.2.2.2; rw [Int.toNat_natCast] at h2; exact h2)
            exact ⟨if_neg hk, by unfold rsealE; rw [if_pos rfl, if_neg hbad, if_neg hsh, if_neg hk]⟩)
          have t3 : ((((leNum ((bs.drop at_).take 4) : Nat) : Int)) != ((moreC 0 ((bs.drop fr).take (at_ - fr))).toNat : Int)) = true := by rw [bne_iff_ne]; omega
          have t4 : (leNum ((bs.drop at_).take 4) != (moreC 0 ((bs.drop fr).take (at_ - fr))).toNat) = true := by rw [bne_iff_ne]; exact hs
          have t5 : (leNum ((bs.drop at_).take 4) == (moreC 0 ((bs.drop fr).take (at_ - fr))).toNat) = false := by rw [beq_eq_false_iff_ne]; exact hs
          have hq : IntKind.u64.wrap ((moreC 0 ((bs.drop fr).take (at_ - fr))).toNat : Int) = ((moreC 0 ((bs.drop fr).take (at_ - fr))).toNat : Int) := by rw [IntKind.wrap_u64]; have := (moreC 0 ((bs.drop fr).take (at_ - fr))).toNat_lt; omega
          clear hbad hs
          go_enter Try.func119, Try.ntmps119
          go_wp2_with fail
          refine (uNumber4 base g A c bs at_ 0 w hU).mono ?_
          rintro r w1 ⟨rfl, hU1, hF1⟩
          rw [HN.out.1]
          rw [HN.out.2.1, HN.out.2.2] at hU1
          have e2 := hU1.blk.cell 2 _ rfl
          have e0 := hU1.blk.cell 0 _ rfl
          have hrd := HRD5.out w1 bs hU1.src.rd
          have HU1 := Lib.hid (And.intro hU1 hF1)
          clear hU1 hF1 c1 c2 f2
          go_wp2_with fail
          refine (refCRC A5 _ _ ((bs.drop fr).take (at_ - fr)) _ hrd).mono ?_
          rintro r w2 ⟨rfl, ⟨n2, rfl⟩⟩
          have hU2 := HU1.out.1.below (below_drewN (Below.refl _ w1) n2)
          have f2 := hU2.blk.free 2
          have h := hU2.set_err 11
          have HU2 := Lib.hid (And.intro h.1 ((HU1.out.2.then_b (below_drewN (Below.refl _ w1) n2)).trans_g h.2))
          clear hU2 hrd h
          go_wp2_with fail
          refine (uback base g A c bs (at_ + 4) 11 _ HU2.out.1 at_ ha).mono ?_
          rintro r w3 ⟨rfl, hU3, hF3⟩
          rw [if_neg (by decide)] at hU3
          have HU3 := Lib.hid (And.intro hU3 (HU2.out.2.trans_g hF3))
          clear hU3 hF3
          go_wp2_with fail
          go_end0
          exact ⟨rfl, HU3.out.1.eq_ HE.out.1.symm HE.out.2.symm, HU3.out.2⟩
  · have t1 : (e == 0) = false := beq_eq_false_iff_ne.2 he
    have t2 : (e != 0) = true := bne_iff_ne.2 he
    have HE := Lib.hid (show rsealA fr bs at_ e = at_ ∧ rsealE fr bs at_ e = e from ⟨if_neg (fun h => he h.1), if_neg he⟩)
    go_enter Try.func119, Try.ntmps119
    go_wp2_with fail
    ((try simp only [Exit.inBlock, Exit.then]); refine bodyPost_ret (results_none rfl _ _ _) rfl ?_)
    exact ⟨rfl, hU.eq_ HE.out.1.symm HE.out.2.symm, Fr.refl _ _⟩
end
end Go.Proofs.Ythdjddpomaendaa.B
