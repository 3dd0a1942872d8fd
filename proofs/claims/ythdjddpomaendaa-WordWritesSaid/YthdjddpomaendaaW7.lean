/- The reference's Writer: Pad, Seal. -/
import Derived.Test.YthdjddpomaendaaW6
namespace Go.Proofs.Ythdjddpomaendaa.B
open Go.RowKit
set_option linter.unusedVariables false
set_option linter.unusedSimpArgs false

theorem gapN_ref (a al : Nat) (h : 0 < al) : gapN a al = if 0 < a % al then al - a % al else 0 := by
  have hb := Nat.mod_lt a h
  unfold gapN
  by_cases h0 : 0 < a % al
  · rw [if_pos h0, Nat.mod_eq_of_lt (by omega)]
  · rw [if_neg h0, show al - a % al = al by omega, Nat.mod_self]
set_option maxHeartbeats 800000 in
set_option maxRecDepth 100000 in
theorem refgap_ (a al : Nat) (w : World) (h0 : 1 ≤ al) (h1 : al ≤ 4096) (ha : a ≤ 9223372036854775807) :
    Calls Try.prog 128 #[.int .i64 (a : Int), .int .i64 (al : Int)] w fun e w' => e = .returned (.int .i64 ((gapN a al : Nat) : Int)) ∧ w' = w := by
  have hb := Nat.mod_lt a (show 0 < al by omega)
  have HG := Lib.hid (gapN_ref a al (by omega))
  obtain ⟨q, hq⟩ : ∃ q : Nat, a % al = q := ⟨_, rfl⟩
  have e1 : (a : Int) % (al : Int) = (q : Int) := by rw [← hq]; exact (Int.natCast_emod a al).symm
  rw [hq] at hb
  have HQ := Lib.hid hq
  clear hq
  by_cases hz : 0 < q
  · have t1 : decide ((0 : Int) < (q : Int)) = true := decide_eq_true (by omega)
    have t2 : decide (0 < q) = true := decide_eq_true hz
    go_enter Try.func128, Try.ntmps128
    go_wp2_with fail
    go_ret
    exact ⟨ret_int (by rw [HG.out, HQ.out, if_pos hz]; omega), rfl⟩
  · obtain rfl : q = 0 := by omega
    go_enter Try.func128, Try.ntmps128
    go_wp2_with fail
    go_ret
    exact ⟨ret_int (by rw [HG.out, HQ.out, if_neg (by omega)]; exact e1), rfl⟩

section
variable (base g : Nat) (vb : Option Nat) (bs : List UInt8) (e : Int) (w : World)
theorem rd_zeros (W : World) (k : Nat) (hk : k ≤ 9223372036854775807) : Rd (W.alloc (.cells (bvs (List.replicate k 0)).toArray 5)) (some ⟨W.heap.size, 0, none⟩) k (bvs (List.replicate k 0)) :=
  (Blk.new W (bvs (List.replicate k 0)) 5).rd _ (by rw [bvs_length, List.length_replicate]) hk (fun j u hu => by rw [Nat.zero_add]; exact hu)
set_option maxHeartbeats 1600000 in
set_option maxRecDepth 100000 in
theorem vPad (al : Int) (hW : IsV w base g vb bs e) (hl : bs.length + 4096 ≤ 140737488355328) :
    Calls Try.prog 111 #[.pointer (some ⟨g, 0, none⟩), .int .i64 al] w fun r w' => r = .returned (.tuple #[]) ∧ ∃ vb', IsV w' base g vb' (padB bs e al) (padE e al) ∧ FrW w w' g vb vb' := by
  obtain ⟨A, c, hvb, hbg, hk, ho⟩ := id hW
  have c0 := hk.cell 0 _ rfl
  have c1 := hk.cell 1 _ rfl
  have f1 := hk.free 1
  by_cases he : e = 0
  · subst he
    by_cases h1 : al < 1
    · have e1 : decide (al < 1) = true := decide_eq_true h1
      obtain ⟨hW1, hF1⟩ := hW.set_err 1
      have HE := Lib.hid (show padB bs 0 al = bs ∧ padE 0 al = 1 from ⟨if_neg (by omega), if_pos ⟨rfl, by omega⟩⟩)
      clear hvb
      go_enter Try.func111, Try.ntmps111
      go_wp2_with fail
      first | go_end0 | (refine bodyPost_ret (results_none rfl _ _ _) rfl ?_)
      exact ⟨rfl, vb, by rw [HE.out.1, HE.out.2]; exact hW1, hF1⟩
    · have e1 : decide (al < 1) = false := decide_eq_false h1
      by_cases h2 : 4096 < al
      · have e2 : decide (4096 < al) = true := decide_eq_true h2
        obtain ⟨hW1, hF1⟩ := hW.set_err 1
        have HE := Lib.hid (show padB bs 0 al = bs ∧ padE 0 al = 1 from ⟨if_neg (by omega), if_pos ⟨rfl, by omega⟩⟩)
        clear hvb
        go_enter Try.func111, Try.ntmps111
        go_wp2_with fail
        first | go_end0 | (refine bodyPost_ret (results_none rfl _ _ _) rfl ?_)
        exact ⟨rfl, vb, by rw [HE.out.1, HE.out.2]; exact hW1, hF1⟩
      · have e2 : decide (4096 < al) = false := decide_eq_false h2
        obtain ⟨al, rfl⟩ := Int.eq_ofNat_of_zero_le (show 0 ≤ al by omega)
        have HE := Lib.hid (show padB bs 0 al = bs ++ List.replicate (gapN bs.length al) 0 ∧ padE 0 al = 0 from ⟨by rw [padB, if_pos ⟨rfl, by omega, by omega⟩, Int.toNat_natCast], if_neg (by omega)⟩)
        have hgl := gapN_lt bs.length al (by omega)
        clear hvb hk ho
        obtain ⟨gp, hgp⟩ : ∃ gp, gapN bs.length al = gp := ⟨_, rfl⟩
        have hrg := fun W => refgap_ bs.length al W (by omega) (by omega) (by omega)
        rw [hgp] at hrg hgl HE
        clear hgp
        have HRG := Lib.hid hrg
        have hmk := make_u8 gp (by omega) (gp : Int) rfl
        clear hrg
        go_enter Try.func111, Try.ntmps111
        go_wp2_with fail
        refine (HRG.out w).mono ?_
        rintro r w1 ⟨rfl, rfl⟩
        have hb2 := below_alloc (Below.refl w1.heap.size w1) (.cells (bvs (List.replicate gp 0)).toArray 5)
        have HW2 := Lib.hid (hW.below hb2)
        have HF2 := Lib.hid (FrW.then_below (FrW.refl w1 g vb) hb2)
        have hgw := hW.lt.1
        clear hW hb2
        go_wp2_with fail
        refine (vBytes base g vb bs 0 _ _ _ gp (List.replicate gp 0) (rd_zeros w1 gp (by omega)) HW2.out (by omega)).mono ?_
        rintro r w3 ⟨rfl, vb3, hW3, hF3⟩
        rw [okB_ok] at hW3
        have HW3 := Lib.hid hW3
        have HF3 := Lib.hid (HF2.out.trans hF3 hgw)
        clear hW3 hF3
        go_wp2_with fail
        first | go_end0 | (refine bodyPost_ret (results_none rfl _ _ _) rfl ?_)
        exact ⟨rfl, vb3, by rw [HE.out.1, HE.out.2]; exact HW3.out, HF3.out⟩
  · have he0 : (e != 0) = true := bne_iff_ne.2 he
    have HE := Lib.hid (show padB bs e al = bs ∧ padE e al = e from ⟨if_neg (fun h => he h.1), if_neg (fun h => he h.1)⟩)
    go_enter Try.func111, Try.ntmps111
    go_wp2_with fail
    first | go_end0 | (refine bodyPost_ret (results_none rfl _ _ _) rfl ?_)
    exact ⟨rfl, vb, by rw [HE.out.1, HE.out.2]; exact hW, FrW.refl _ _ _⟩
set_option maxHeartbeats 1600000 in
set_option maxRecDepth 100000 in
theorem vSeal (fr : Int) (hW : IsV w base g vb bs e) (hl : bs.length + 8 ≤ 140737488355328) :
    Calls Try.prog 112 #[.pointer (some ⟨g, 0, none⟩), .int .i64 fr] w fun r w' => r = .returned (.tuple #[]) ∧ ∃ vb', IsV w' base g vb' (sealB bs e fr) (sealE bs e fr) ∧ FrW w w' g vb vb' := by
  obtain ⟨A, c, hvb, hbg, hk, ho⟩ := id hW
  have c0 := hk.cell 0 _ rfl
  have c1 := hk.cell 1 _ rfl
  have f1 := hk.free 1
  have hlen : bs.length ≤ c := by
    obtain ⟨A', c', e', hc', _⟩ := ho.rd
    injection e' with _ _ e3
    omega
  by_cases he : e = 0
  · subst he
    by_cases h1 : fr < 0
    · have e1 : decide (fr < 0) = true := decide_eq_true h1
      obtain ⟨hW1, hF1⟩ := hW.set_err 1
      have HE := Lib.hid (show sealB bs 0 fr = bs ∧ sealE bs 0 fr = 1 from ⟨if_neg (by omega), if_pos ⟨rfl, by omega⟩⟩)
      clear hvb
      go_enter Try.func112, Try.ntmps112
      go_wp2_with fail
      first | go_end0 | (refine bodyPost_ret (results_none rfl _ _ _) rfl ?_)
      exact ⟨rfl, vb, by rw [HE.out.1, HE.out.2]; exact hW1, hF1⟩
    · have e1 : decide (fr < 0) = false := decide_eq_false h1
      by_cases h2 : (bs.length : Int) < fr
      · have e2 : decide ((bs.length : Int) < fr) = true := decide_eq_true h2
        obtain ⟨hW1, hF1⟩ := hW.set_err 1
        have HE := Lib.hid (show sealB bs 0 fr = bs ∧ sealE bs 0 fr = 1 from ⟨if_neg (by omega), if_pos ⟨rfl, by omega⟩⟩)
        clear hvb
        go_enter Try.func112, Try.ntmps112
        go_wp2_with fail
        first | go_end0 | (refine bodyPost_ret (results_none rfl _ _ _) rfl ?_)
        exact ⟨rfl, vb, by rw [HE.out.1, HE.out.2]; exact hW1, hF1⟩
      · have e2 : decide ((bs.length : Int) < fr) = false := decide_eq_false h2
        obtain ⟨A5, hcut, hrd⟩ := cut_lo A bs.length c fr (by omega) (by omega) hlen
        have hr5 := hrd w bs ho.rd_
        have HE := Lib.hid (show sealB bs 0 fr = bs ++ leBytes 4 (moreC 0 (bs.drop fr.toNat)).toNat ∧ sealE bs 0 fr = 0 from ⟨if_pos ⟨rfl, by omega, by omega⟩, if_neg (by omega)⟩)
        have hlt := (moreC 0 (bs.drop fr.toNat)).toNat_lt
        have HRB := Lib.hid (fun W => refBytes4 (moreC 0 (bs.drop fr.toNat)).toNat W (by omega))
        clear hvb hrd
        go_enter Try.func112, Try.ntmps112
        go_wp2_with fail
        refine (refCRC A5 _ _ (bs.drop fr.toNat) w hr5).mono ?_
        rintro r w1 ⟨rfl, ⟨n1, rfl⟩⟩
        have hW1 := hW.below (below_drewN (Below.refl _ w) n1)
        have HF1 := Lib.hid (FrW.then_below (FrW.refl w g vb) (below_drewN (Below.refl _ w) n1))
        have hgw := hW.lt.1
        go_wp2_with fail
        refine (vNumber base g vb bs 0 4 _ _ HRB.out hW1 (by omega)).mono ?_
        rintro r w2 ⟨rfl, vb2, hW2, hF2⟩
        rw [okB_ok] at hW2
        have HW2 := Lib.hid hW2
        have HF2 := Lib.hid (HF1.out.trans hF2 hgw)
        clear hW2 hF2 hW1 hW
        go_wp2_with fail
        first | go_end0 | (refine bodyPost_ret (results_none rfl _ _ _) rfl ?_)
        exact ⟨rfl, vb2, by rw [HE.out.1, HE.out.2]; exact HW2.out, HF2.out⟩
  · have he0 : (e != 0) = true := bne_iff_ne.2 he
    have HE := Lib.hid (show sealB bs e fr = bs ∧ sealE bs e fr = e from ⟨if_neg (fun h => he h.1), if_neg (fun h => he h.1)⟩)
    go_enter Try.func112, Try.ntmps112
    go_wp2_with fail
    first | go_end0 | (refine bodyPost_ret (results_none rfl _ _ _) rfl ?_)
    exact ⟨rfl, vb, by rw [HE.out.1, HE.out.2]; exact hW, FrW.refl _ _ _⟩
end
end Go.Proofs.Ythdjddpomaendaa.B
