/- The Reader: Text. -/
import Derived.Test.YthdjddpomaendaaR5
namespace Go.Proofs.Ythdjddpomaendaa.B
open Go.RowKit
set_option linter.unusedVariables false
set_option linter.unusedSimpArgs false

/-- How long the text is said to be. -/
def textN (bs : List UInt8) (at_ : Nat) : Nat := leNum ((bs.drop at_).take 2)
def rtextOk (most : Int) (bs : List UInt8) (at_ : Nat) (e : Int) : Prop := e = 0 ∧ at_ + 2 ≤ bs.length ∧ (textN bs at_ : Int) ≤ most ∧ at_ + 2 + textN bs at_ ≤ bs.length
instance (most : Int) (bs : List UInt8) (at_ : Nat) (e : Int) : Decidable (rtextOk most bs at_ e) := by unfold rtextOk; infer_instance
def rtextL (most : Int) (bs : List UInt8) (at_ : Nat) (e : Int) : List UInt8 := if rtextOk most bs at_ e then (bs.drop (at_ + 2)).take (textN bs at_) else []
def rtextA (most : Int) (bs : List UInt8) (at_ : Nat) (e : Int) : Nat := if rtextOk most bs at_ e then at_ + 2 + textN bs at_ else at_
def rtextE (most : Int) (bs : List UInt8) (at_ : Nat) (e : Int) : Int := if e = 0 then (if bs.length < at_ + 2 then 10 else if most < textN bs at_ then 3 else if bs.length < at_ + 2 + textN bs at_ then 10 else 0) else e
theorem leNum_lt' (s : List UInt8) : leNum s < 256 ^ s.length := by
  induction s with
  | nil => decide
  | cons b t ih =>
    have := b.toNat_lt
    simp only [leNum, List.length_cons, Nat.pow_succ]
    omega
theorem textN_lt (bs : List UInt8) (at_ : Nat) : textN bs at_ < 65536 := by
  have h := leNum_lt' ((bs.drop at_).take 2)
  have h2 : 256 ^ ((bs.drop at_).take 2).length ≤ 256 ^ 2 := Nat.pow_le_pow_right (by decide) (by simp; omega)
  unfold textN
  omega
theorem ret_str {a b : ByteArray} (h : a = b) : Ending.returned (.string a) = .returned (.string b) := by rw [h]

section
variable (base g : Nat) (A : Option Addr) (c : Nat) (bs : List UInt8) (at_ : Nat) (e : Int) (w : World) (hR : IsR w base g A c bs at_ e)
include hR
set_option maxHeartbeats 3200000 in
set_option maxRecDepth 100000 in
theorem rText (most : Int) : Calls Try.prog 103 #[.pointer (some ⟨g, 0, none⟩), .int .i64 most] w fun r w' => r = .returned (.string (mkS (rtextL most bs at_ e))) ∧ IsR w' base g A c bs (rtextA most bs at_ e) (rtextE most bs at_ e) ∧ Fr (fun k => k = g) w w' := by
  have hl := hR.hlen
  by_cases hno : e ≠ 0 ∨ bs.length < at_ + 2
  · have HE := Lib.hid (show rtextL most bs at_ e = [] ∧ rtextA most bs at_ e = at_ ∧ rtextE most bs at_ e = (if e = 0 then 10 else e) from by
      have hk : ¬ rtextOk most bs at_ e := fun h => by have h1 := h.1; have h2 := h.2.1; omega
      refine ⟨if_neg hk, if_neg hk, ?_⟩
      unfold rtextE
      by_cases he : e = 0
      · rw [if_pos he, if_pos he, if_pos (by omega)]
      · rw [if_neg he, if_neg he])
    go_enter Try.func103, Try.ntmps103
    go_wp2_with fail
    refine (next_no base g A c bs at_ e _ hR 0 2 0 2 rfl rfl (by omega) (by omega) hno).mono ?_
    rintro r w1 ⟨rfl, hR1, hF1⟩
    have HR1 := Lib.hid hR1
    clear hR1
    go_wp2_with fail
    go_ret
    exact ⟨ret_str (by rw [HE.out.1]; rfl), HR1.out.eq_ HE.out.2.1.symm HE.out.2.2.symm, hF1⟩
  · obtain rfl : e = 0 := Classical.byContradiction fun h => hno (.inl h)
    have hok : at_ + 2 ≤ bs.length := Nat.le_of_not_lt fun h => hno (.inr h)
    have hnl := textN_lt bs at_
    clear hno
    obtain ⟨n, hn⟩ : ∃ n, textN bs at_ = n := ⟨_, rfl⟩
    rw [hn] at hnl
    have HN := Lib.hid (show leNum ((bs.drop at_).take 2) = n from hn)
    by_cases hm : most < n
    · have t1 : decide (most < (n : Int)) = true := decide_eq_true hm
      have HE := Lib.hid (show rtextL most bs at_ 0 = [] ∧ rtextA most bs at_ 0 = at_ ∧ rtextE most bs at_ 0 = 3 from by
        have hk : ¬ rtextOk most bs at_ 0 := fun h => by have h3 := h.2.2.1; rw [hn] at h3; omega
        refine ⟨if_neg hk, if_neg hk, ?_⟩
        unfold rtextE
        rw [if_pos rfl, if_neg (by omega), hn, if_pos hm])
      clear hn
      go_enter Try.func103, Try.ntmps103
      go_wp2_with fail
      refine (next_ok base g A c bs at_ w hR 0 2 0 2 rfl rfl (by omega) hok).mono ?_
      rintro r w2 ⟨A', c', rfl, hc', hrd, ⟨nd, rfl⟩⟩
      have hrd1 := hrd (w.drewN nd) (hR.own.below (below_drewN (Below.refl _ w) nd))
      rw [Nat.add_zero] at hrd1
      clear hrd
      go_wp2_with fail
      refine (get_uint16 A' 2 c' _ _ hrd1 hc' (Nat.le_refl _)).mono ?_
      rintro r w3 ⟨rfl, ⟨nd2, rfl⟩⟩
      rw [List.take_of_length_le (by rw [hrd1.len]; exact Nat.le_refl _), HN.out]
      have hR3 := hR.below (below_drewN (Below.refl _ w) (nd + nd2))
      have c2 := hR3.blk.cell 2 _ rfl
      have f2 := hR3.blk.free 2
      have h := hR3.set_err 3
      clear hrd1
      go_wp2_with fail
      go_ret
      exact ⟨ret_str (by rw [HE.out.1]; rfl), h.1.eq_ HE.out.2.1.symm HE.out.2.2.symm, (Fr.of_below (below_drewN (Below.refl _ w) (nd + nd2)) _).trans_g h.2⟩
    · have t1 : decide (most < (n : Int)) = false := decide_eq_false hm
      by_cases hsh : bs.length < at_ + 2 + n
      · have HE := Lib.hid (show rtextL most bs at_ 0 = [] ∧ rtextA most bs at_ 0 = at_ ∧ rtextE most bs at_ 0 = 10 from by
          have hk : ¬ rtextOk most bs at_ 0 := fun h => by have h3 := h.2.2.2; rw [hn] at h3; omega
          refine ⟨if_neg hk, if_neg hk, ?_⟩
          unfold rtextE
          rw [if_pos rfl, if_neg (by omega), hn, if_neg hm, if_pos hsh])
        clear hn
        go_enter Try.func103, Try.ntmps103
        go_wp2_with fail
        refine (next_ok base g A c bs at_ w hR 0 2 0 2 rfl rfl (by omega) hok).mono ?_
        rintro r w2 ⟨A', c', rfl, hc', hrd, ⟨nd, rfl⟩⟩
        have hrd1 := hrd (w.drewN nd) (hR.own.below (below_drewN (Below.refl _ w) nd))
        rw [Nat.add_zero] at hrd1
        clear hrd
        go_wp2_with fail
        refine (get_uint16 A' 2 c' _ _ hrd1 hc' (Nat.le_refl _)).mono ?_
        rintro r w3 ⟨rfl, ⟨nd2, rfl⟩⟩
        rw [List.take_of_length_le (by rw [hrd1.len]; exact Nat.le_refl _), HN.out]
        have hR3 := hR.below (below_drewN (Below.refl _ w) (nd + nd2))
        clear hrd1
        go_wp2_with fail
        refine (next_no base g A c bs at_ 0 _ hR3 2 n 2 n rfl rfl (by omega) (by omega) (.inr hsh)).mono ?_
        rintro r w4 ⟨rfl, hR4, hF4⟩
        have HR4 := Lib.hid hR4
        clear hR4
        go_wp2_with fail
        go_ret
        exact ⟨ret_str (by rw [HE.out.1]; rfl), HR4.out.eq_ HE.out.2.1.symm HE.out.2.2.symm, (Fr.of_below (below_drewN (Below.refl _ w) (nd + nd2)) _).trans_g hF4⟩
      · have HE := Lib.hid (show rtextL most bs at_ 0 = (bs.drop (at_ + 2)).take n ∧ rtextA most bs at_ 0 = at_ + 2 + n ∧ rtextE most bs at_ 0 = 0 from by
          have hk : rtextOk most bs at_ 0 := ⟨rfl, hok, by rw [hn]; omega, by rw [hn]; omega⟩
          refine ⟨by unfold rtextL; rw [if_pos hk, hn], by unfold rtextA; rw [if_pos hk, hn], ?_⟩
          unfold rtextE
          rw [if_pos rfl, if_neg (by omega), hn, if_neg hm, if_neg hsh])
        clear hn
        go_enter Try.func103, Try.ntmps103
        go_wp2_with fail
        refine (next_ok base g A c bs at_ w hR 0 2 0 2 rfl rfl (by omega) hok).mono ?_
        rintro r w2 ⟨A', c', rfl, hc', hrd, ⟨nd, rfl⟩⟩
        have hrd1 := hrd (w.drewN nd) (hR.own.below (below_drewN (Below.refl _ w) nd))
        rw [Nat.add_zero] at hrd1
        clear hrd
        go_wp2_with fail
        refine (get_uint16 A' 2 c' _ _ hrd1 hc' (Nat.le_refl _)).mono ?_
        rintro r w3 ⟨rfl, ⟨nd2, rfl⟩⟩
        rw [List.take_of_length_le (by rw [hrd1.len]; exact Nat.le_refl _), HN.out]
        have hR3 := hR.below (below_drewN (Below.refl _ w) (nd + nd2))
        clear hrd1
        go_wp2_with fail
        refine (next_ok base g A c bs at_ _ hR3 2 n 2 n rfl rfl (by omega) (by omega)).mono ?_
        rintro r w4 ⟨A4, c4, rfl, hc4, hrd4, ⟨nd4, rfl⟩⟩
        have hR4 := hR.below (below_drewN (Below.refl _ w) (nd + nd2 + nd4))
        have c14 := hR4.blk.cell 1 _ rfl
        have f14 := hR4.blk.free 1
        have h := hR4.set_at (at_ + (2 + n)) (by omega)
        have hrd5 := hrd4 _ h.1.own
        have ks := conv_string (c := c4) hrd5
        rw [show ((at_ + (2 + n) : Nat) : Int) = (at_ : Int) + (2 + (n : Int)) by omega] at ks
        clear hrd4
        go_wp2_with fail
        go_ret
        exact ⟨ret_str (by rw [HE.out.1]), h.1.eq_ (by rw [HE.out.2.1]; omega) HE.out.2.2.symm, (Fr.of_below (below_drewN (Below.refl _ w) (nd + nd2 + nd4)) _).trans_g h.2⟩
end
end Go.Proofs.Ythdjddpomaendaa.B
