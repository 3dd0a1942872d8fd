/- The reference's Reader: Number, Bytes, Text. Printed by gen_refr2.py. -/
import Derived.Test.YthdjddpomaendaaT1
import Derived.Test.YthdjddpomaendaaG1
namespace Go.Proofs.Ythdjddpomaendaa.B
open Go.RowKit
set_option linter.unusedVariables false
set_option linter.unusedSimpArgs false

set_option maxHeartbeats 1600000 in
set_option maxRecDepth 100000 in
theorem refNumNil (z : Int) (w : World) (hz : 0 < z) (hz2 : z ≤ 8) : Calls Try.prog 129 #[.slice none 0 0, .int .i64 z] w fun r w' => r = .returned (.tuple #[.int .u64 0, .bool false]) ∧ w' = w := by
  have t1 : decide (0 < z) = true := decide_eq_true hz
  go_enter Try.func129, Try.ntmps129
  go_wp2_with fail
  go_ret2
  exact ⟨rfl, rfl⟩
theorem list1 (l : List UInt8) (h : l.length = 1) : ∃ b0, l = [b0] := by
  match l, h with
  | [b0], _ => exact ⟨b0, rfl⟩
theorem list2 (l : List UInt8) (h : l.length = 2) : ∃ b0 b1, l = [b0, b1] := by
  match l, h with
  | [b0, b1], _ => exact ⟨b0, b1, rfl⟩
theorem list4 (l : List UInt8) (h : l.length = 4) : ∃ b0 b1 b2 b3, l = [b0, b1, b2, b3] := by
  match l, h with
  | [b0, b1, b2, b3], _ => exact ⟨b0, b1, b2, b3, rfl⟩
theorem list8 (l : List UInt8) (h : l.length = 8) : ∃ b0 b1 b2 b3 b4 b5 b6 b7, l = [b0, b1, b2, b3, b4, b5, b6, b7] := by
  match l, h with
  | [b0, b1, b2, b3, b4, b5, b6, b7], _ => exact ⟨b0, b1, b2, b3, b4, b5, b6, b7, rfl⟩

section
variable (base g : Nat) (A : Option Addr) (c : Nat) (bs : List UInt8) (at_ : Nat) (e : Int) (w : World) (hU : IsU w base g A c bs at_ e)
include hU
set_option maxHeartbeats 1600000 in
set_option maxRecDepth 100000 in
theorem uNumber1 : Calls Try.prog 115 #[.pointer (some ⟨g, 0, none⟩), .int .i64 1] w fun r w' => r = .returned (.int .u64 ((numV 1 bs at_ e : Nat) : Int)) ∧ IsU w' base g A c bs (stepA 1 bs at_ e) (shortE 1 bs at_ e) ∧ Fr (fun k => k = g) w w' := by
  by_cases hno : e ≠ 0 ∨ bs.length < at_ + 1
  · have HE := Lib.hid (num_no hno)
    go_enter Try.func115, Try.ntmps115
    go_wp2_with fail
    refine (utake_no base g A c bs at_ e _ hU 1 1 rfl (by decide) hno).mono ?_
    rintro r w1 ⟨rfl, hU1, hF1⟩
    have HU1 := Lib.hid hU1
    clear hU1
    go_wp2_with fail
    refine (refNumNil 1 _ (by decide) (by decide)).mono ?_
    rintro r w2 ⟨rfl, rfl⟩
    go_wp2_with fail
    go_ret
    exact ⟨ret_int (by rw [HE.out.1]; rfl), HU1.out.eq_ HE.out.2.1.symm HE.out.2.2.symm, hF1⟩
  · obtain rfl : e = 0 := Classical.byContradiction fun h => hno (.inl h)
    have hok : at_ + 1 ≤ bs.length := Nat.le_of_not_lt fun h => hno (.inr h)
    have HE := Lib.hid (num_ok hok)
    clear hno
    obtain ⟨b0, hb⟩ := list1 ((bs.drop at_).take 1) (by simp; omega)
    have HB := Lib.hid hb
    clear hb
    go_enter Try.func115, Try.ntmps115
    go_wp2_with fail
    refine (utake_ok base g A c bs at_ w hU 1 1 rfl hok).mono ?_
    rintro r w1 ⟨A', c', rfl, hc', hS, hU1, hF1⟩
    rw [HB.out] at hS
    have hrd : Rd w1 A' 1 (bvs [b0]) := hS.rd
    have HU1 := Lib.hid (And.intro hU1 hF1)
    clear hU1 hF1 hS
    go_wp2_with fail
    refine (refNum1 A' c' b0 _ hrd).mono ?_
    rintro r w2 ⟨rfl, rfl⟩
    clear hrd
    go_wp2_with fail
    go_ret
    exact ⟨ret_int (by rw [HE.out.1, HB.out]), HU1.out.1.eq_ HE.out.2.1.symm HE.out.2.2.symm, HU1.out.2⟩
set_option maxHeartbeats 1600000 in
set_option maxRecDepth 100000 in
theorem uNumber2 : Calls Try.prog 115 #[.pointer (some ⟨g, 0, none⟩), .int .i64 2] w fun r w' => r = .returned (.int .u64 ((numV 2 bs at_ e : Nat) : Int)) ∧ IsU w' base g A c bs (stepA 2 bs at_ e) (shortE 2 bs at_ e) ∧ Fr (fun k => k = g) w w' := by
  by_cases hno : e ≠ 0 ∨ bs.length < at_ + 2
  · have HE := Lib.hid (num_no hno)
    go_enter Try.func115, Try.ntmps115
    go_wp2_with fail
    refine (utake_no base g A c bs at_ e _ hU 2 2 rfl (by decide) hno).mono ?_
    rintro r w1 ⟨rfl, hU1, hF1⟩
    have HU1 := Lib.hid hU1
    clear hU1
    go_wp2_with fail
    refine (refNumNil 2 _ (by decide) (by decide)).mono ?_
    rintro r w2 ⟨rfl, rfl⟩
    go_wp2_with fail
    go_ret
    exact ⟨ret_int (by rw [HE.out.1]; rfl), HU1.out.eq_ HE.out.2.1.symm HE.out.2.2.symm, hF1⟩
  · obtain rfl : e = 0 := Classical.byContradiction fun h => hno (.inl h)
    have hok : at_ + 2 ≤ bs.length := Nat.le_of_not_lt fun h => hno (.inr h)
    have HE := Lib.hid (num_ok hok)
    clear hno
    obtain ⟨b0, b1, hb⟩ := list2 ((bs.drop at_).take 2) (by simp; omega)
    have HB := Lib.hid hb
    clear hb
    go_enter Try.func115, Try.ntmps115
    go_wp2_with fail
    refine (utake_ok base g A c bs at_ w hU 2 2 rfl hok).mono ?_
    rintro r w1 ⟨A', c', rfl, hc', hS, hU1, hF1⟩
    rw [HB.out] at hS
    have hrd : Rd w1 A' 2 (bvs [b0, b1]) := hS.rd
    have HU1 := Lib.hid (And.intro hU1 hF1)
    clear hU1 hF1 hS
    go_wp2_with fail
    refine (refNum2 A' c' b0 b1 _ hrd).mono ?_
    rintro r w2 ⟨rfl, rfl⟩
    clear hrd
    go_wp2_with fail
    go_ret
    exact ⟨ret_int (by rw [HE.out.1, HB.out]), HU1.out.1.eq_ HE.out.2.1.symm HE.out.2.2.symm, HU1.out.2⟩
set_option maxHeartbeats 1600000 in
set_option maxRecDepth 100000 in
theorem uNumber4 : Calls Try.prog 115 #[.pointer (some ⟨g, 0, none⟩), .int .i64 4] w fun r w' => r = .returned (.int .u64 ((numV 4 bs at_ e : Nat) : Int)) ∧ IsU w' base g A c bs (stepA 4 bs at_ e) (shortE 4 bs at_ e) ∧ Fr (fun k => k = g) w w' := by
  by_cases hno : e ≠ 0 ∨ bs.length < at_ + 4
  · have HE := Lib.hid (num_no hno)
    go_enter Try.func115, Try.ntmps115
    go_wp2_with fail
    refine (utake_no base g A c bs at_ e _ hU 4 4 rfl (by decide) hno).mono ?_
    rintro r w1 ⟨rfl, hU1, hF1⟩
    have HU1 := Lib.hid hU1
    clear hU1
    go_wp2_with fail
    refine (refNumNil 4 _ (by decide) (by decide)).mono ?_
    rintro r w2 ⟨rfl, rfl⟩
    go_wp2_with fail
    go_ret
    exact ⟨ret_int (by rw [HE.out.1]; rfl), HU1.out.eq_ HE.out.2.1.symm HE.out.2.2.symm, hF1⟩
  · obtain rfl : e = 0 := Classical.byContradiction fun h => hno (.inl h)
    have hok : at_ + 4 ≤ bs.length := Nat.le_of_not_lt fun h => hno (.inr h)
    have HE := Lib.hid (num_ok hok)
    clear hno
    obtain ⟨b0, b1, b2, b3, hb⟩ := list4 ((bs.drop at_).take 4) (by simp; omega)
    have HB := Lib.hid hb
    clear hb
    go_enter Try.func115, Try.ntmps115
    go_wp2_with fail
    refine (utake_ok base g A c bs at_ w hU 4 4 rfl hok).mono ?_
    rintro r w1 ⟨A', c', rfl, hc', hS, hU1, hF1⟩
    rw [HB.out] at hS
    have hrd : Rd w1 A' 4 (bvs [b0, b1, b2, b3]) := hS.rd
    have HU1 := Lib.hid (And.intro hU1 hF1)
    clear hU1 hF1 hS
    go_wp2_with fail
    refine (refNum4 A' c' b0 b1 b2 b3 _ hrd).mono ?_
    rintro r w2 ⟨rfl, rfl⟩
    clear hrd
    go_wp2_with fail
    go_ret
    exact ⟨ret_int (by rw [HE.out.1, HB.out]), HU1.out.1.eq_ HE.out.2.1.symm HE.out.2.2.symm, HU1.out.2⟩
set_option maxHeartbeats 1600000 in
set_option maxRecDepth 100000 in
theorem uNumber8 : Calls Try.prog 115 #[.pointer (some ⟨g, 0, none⟩), .int .i64 8] w fun r w' => r = .returned (.int .u64 ((numV 8 bs at_ e : Nat) : Int)) ∧ IsU w' base g A c bs (stepA 8 bs at_ e) (shortE 8 bs at_ e) ∧ Fr (fun k => k = g) w w' := by
  by_cases hno : e ≠ 0 ∨ bs.length < at_ + 8
  · have HE := Lib.hid (num_no hno)
    go_enter Try.func115, Try.ntmps115
    go_wp2_with fail
    refine (utake_no base g A c bs at_ e _ hU 8 8 rfl (by decide) hno).mono ?_
    rintro r w1 ⟨rfl, hU1, hF1⟩
    have HU1 := Lib.hid hU1
    clear hU1
    go_wp2_with fail
    refine (refNumNil 8 _ (by decide) (by decide)).mono ?_
    rintro r w2 ⟨rfl, rfl⟩
    go_wp2_with fail
    go_ret
    exact ⟨ret_int (by rw [HE.out.1]; rfl), HU1.out.eq_ HE.out.2.1.symm HE.out.2.2.symm, hF1⟩
  · obtain rfl : e = 0 := Classical.byContradiction fun h => hno (.inl h)
    have hok : at_ + 8 ≤ bs.length := Nat.le_of_not_lt fun h => hno (.inr h)
    have HE := Lib.hid (num_ok hok)
    clear hno
    obtain ⟨b0, b1, b2, b3, b4, b5, b6, b7, hb⟩ := list8 ((bs.drop at_).take 8) (by simp; omega)
    have HB := Lib.hid hb
    clear hb
    go_enter Try.func115, Try.ntmps115
    go_wp2_with fail
    refine (utake_ok base g A c bs at_ w hU 8 8 rfl hok).mono ?_
    rintro r w1 ⟨A', c', rfl, hc', hS, hU1, hF1⟩
    rw [HB.out] at hS
    have hrd : Rd w1 A' 8 (bvs [b0, b1, b2, b3, b4, b5, b6, b7]) := hS.rd
    have HU1 := Lib.hid (And.intro hU1 hF1)
    clear hU1 hF1 hS
    go_wp2_with fail
    refine (refNum8 A' c' b0 b1 b2 b3 b4 b5 b6 b7 _ hrd).mono ?_
    rintro r w2 ⟨rfl, rfl⟩
    clear hrd
    go_wp2_with fail
    go_ret
    exact ⟨ret_int (by rw [HE.out.1, HB.out]), HU1.out.1.eq_ HE.out.2.1.symm HE.out.2.2.symm, HU1.out.2⟩

set_option maxHeartbeats 1600000 in
set_option maxRecDepth 100000 in
theorem uBytes (n : Int) (hn : n ≤ 9223372036854775807) : Calls Try.prog 116 #[.pointer (some ⟨g, 0, none⟩), .int .i64 n] w fun r w' => ∃ A' n' c', r = .returned (.slice A' n' c') ∧ n' = (bytesV n bs at_ e).length ∧ Own w' w.heap.size (.slice A' n' c') (bytesV n bs at_ e) ∧ IsU w' base g A c bs (bytesA n bs at_ e) (bytesE n bs at_ e) ∧ Fr (fun k => k = g) w w' := by
  have c2 := hU.blk.cell 2 _ rfl
  have f2 := hU.blk.free 2
  have ha := hU.hat
  have hl := hU.hlen
  by_cases he : e = 0
  · subst he
    by_cases hn0 : n < 0
    · have t1 : decide (n < 0) = true := decide_eq_true hn0
      have HE := Lib.hid (show bytesV n bs at_ 0 = [] ∧ bytesA n bs at_ 0 = at_ ∧ bytesE n bs at_ 0 = 1 from ⟨if_neg (by omega), if_neg (by omega), by unfold bytesE; rw [if_pos rfl, if_pos hn0]⟩)
      go_enter Try.func116, Try.ntmps116
      go_wp2_with fail
      go_ret
      have h := hU.set_err 1
      exact ⟨none, 0, 0, rfl, by rw [HE.out.1]; rfl, by rw [HE.out.1]; exact Own.nil _ _, h.1.eq_ HE.out.2.1.symm HE.out.2.2.symm, h.2⟩
    · have t1 : decide (n < 0) = false := decide_eq_false hn0
      obtain ⟨n, rfl⟩ := Int.eq_ofNat_of_zero_le (show 0 ≤ n by omega)
      by_cases hlt : bs.length < at_ + n
      · have HE := Lib.hid (show bytesV n bs at_ 0 = [] ∧ bytesA n bs at_ 0 = at_ ∧ bytesE n bs at_ 0 = 10 from ⟨if_neg (by omega), if_neg (by omega), by unfold bytesE; rw [if_pos rfl, if_neg hn0, if_pos (by omega)]⟩)
        go_enter Try.func116, Try.ntmps116
        go_wp2_with fail
        refine (utake_no base g A c bs at_ 0 _ hU n n rfl (by omega) (.inr hlt)).mono ?_
        rintro r w1 ⟨rfl, hU1, hF1⟩
        have HU1 := Lib.hid hU1
        clear hU1
        go_wp2_with ((with_reducible refine at_builtin_ (b := .append) rfl ?_); go_must (refine app_u8 rfl _ _ rfl w1.heap.size (.slice none 0 0) [] none 0 0 [] rfl rfl (Own.nil _ _) (Rd.nil _ _) (Nat.le_refl _) 0 rfl (by omega) w1.heap.size w1 (Below.refl _ _) (Nat.le_refl _) ?_); intro A2 c2' w2 hO2 hb2 _ _)
        go_ret
        have hs := hF1.size
        exact ⟨A2, 0, c2', rfl, by rw [HE.out.1]; rfl, by rw [HE.out.1]; exact hO2.mono hs, (HU1.out.below hb2).eq_ HE.out.2.1.symm HE.out.2.2.symm, hF1.then_b hb2⟩
      · have HE := Lib.hid (show bytesV n bs at_ 0 = (bs.drop at_).take n ∧ bytesA n bs at_ 0 = at_ + n ∧ bytesE n bs at_ 0 = 0 from ⟨by unfold bytesV; rw [if_pos ⟨rfl, by omega, by omega⟩, Int.toNat_natCast], by unfold bytesA; rw [if_pos ⟨rfl, by omega, by omega⟩, Int.toNat_natCast], by unfold bytesE; rw [if_pos rfl, if_neg hn0, if_neg (by omega)]⟩)
        go_enter Try.func116, Try.ntmps116
        go_wp2_with fail
        refine (utake_ok base g A c bs at_ w hU n n rfl (by omega)).mono ?_
        rintro r w1 ⟨A', c', rfl, hc', hS, hU1, hF1⟩
        have hlen : ((bs.drop at_).take n).length = n := by simp; omega
        have hrd := hS.rd
        rw [hlen] at hrd
        have HU1 := Lib.hid (And.intro hU1 hF1)
        have HL := Lib.hid hlen
        clear hU1 hF1 hS hlen
        go_wp2_with ((with_reducible refine at_builtin_ (b := .append) rfl ?_); go_must (refine app_u8 rfl _ _ rfl w1.heap.size (.slice none 0 0) [] A' n c' ((bs.drop at_).take n) rfl rfl (Own.nil _ _) hrd (Nat.le_refl _) n (by simp) (by omega) w1.heap.size w1 (Below.refl _ _) (Nat.le_refl _) ?_); intro A2 c2' w2 hO2 hb2 _ _)
        have HO := Lib.hid hO2
        clear hO2 hrd
        go_ret
        have hs := HU1.out.2.size
        exact ⟨A2, n, c2', rfl, by rw [HE.out.1, HL.out], by rw [HE.out.1]; exact HO.out.mono hs, (HU1.out.1.below hb2).eq_ HE.out.2.1.symm HE.out.2.2.symm, HU1.out.2.then_b hb2⟩
  · have t1 : (e == 0) = false := beq_eq_false_iff_ne.2 he
    have t2 : (e != 0) = true := bne_iff_ne.2 he
    have HE := Lib.hid (show bytesV n bs at_ e = [] ∧ bytesA n bs at_ e = at_ ∧ bytesE n bs at_ e = e from ⟨if_neg (fun h => he h.1), if_neg (fun h => he h.1), if_neg he⟩)
    go_enter Try.func116, Try.ntmps116
    go_wp2_with fail
    go_ret
    exact ⟨none, 0, 0, rfl, by rw [HE.out.1]; rfl, by rw [HE.out.1]; exact Own.nil _ _, hU.eq_ HE.out.2.1.symm HE.out.2.2.symm, Fr.refl _ _⟩
set_option maxHeartbeats 3200000 in
set_option maxRecDepth 100000 in
theorem uText (most : Int) : Calls Try.prog 117 #[.pointer (some ⟨g, 0, none⟩), .int .i64 most] w fun r w' => r = .returned (.string (mkS (rtextL most bs at_ e))) ∧ IsU w' base g A c bs (rtextA most bs at_ e) (rtextE most bs at_ e) ∧ Fr (fun k => k = g) w w' := by
  have c1 := hU.blk.cell 1 _ rfl
  have c2 := hU.blk.cell 2 _ rfl
  have ha := hU.hat
  have hl := hU.hlen
  by_cases he : e = 0
  · subst he
    by_cases hsh : bs.length < at_ + 2
    · have HE := Lib.hid (show rtextL most bs at_ 0 = [] ∧ rtextA most bs at_ 0 = at_ ∧ rtextE most bs at_ 0 = 10 from by
        have hk : ¬ rtextOk most bs at_ 0 := fun h => by have h2 := h.2.1; omega
        exact ⟨if_neg hk, if_neg hk, by unfold rtextE; rw [if_pos rfl, if_pos hsh]⟩)
      have HN := Lib.hid (show numV 2 bs at_ 0 = 0 ∧ stepA 2 bs at_ 0 = at_ ∧ shortE 2 bs at_ 0 = 10 from num_no (.inr hsh))
      go_enter Try.func117, Try.ntmps117
      go_wp2_with fail
      refine (uNumber2 base g A c bs at_ 0 w hU).mono ?_
      rintro r w1 ⟨rfl, hU1, hF1⟩
      rw [HN.out.1]
      rw [HN.out.2.1, HN.out.2.2] at hU1
      have e2 := hU1.blk.cell 2 _ rfl
      have HU1 := Lib.hid (And.intro hU1 hF1)
      clear hU1 hF1 c1 c2
      go_wp2_with fail
      refine (uBytes base g A c bs at_ 10 _ HU1.out.1 0 (by omega)).mono ?_
      rintro r w2 ⟨A2, n2, c2', rfl, hn2, hO2, hU2, hF2⟩
      have HB := Lib.hid (show bytesV 0 bs at_ 10 = [] ∧ bytesA 0 bs at_ 10 = at_ ∧ bytesE 0 bs at_ 10 = 10 from ⟨if_neg (by omega), if_neg (by omega), if_neg (by decide)⟩)
      rw [HB.out.1] at hO2
      rw [HB.out.2.1, HB.out.2.2] at hU2
      have kc := conv_string (c := c2') hO2.rd_
      have HU2 := Lib.hid (And.intro hU2 (HU1.out.2.trans_g hF2))
      clear hU2 hF2 hO2 e2 hn2
      go_wp2_with fail
      refine (uback base g A c bs at_ 10 _ HU2.out.1 at_ ha).mono ?_
      rintro r w3 ⟨rfl, hU3, hF3⟩
      rw [if_neg (by decide)] at hU3
      have HU3 := Lib.hid (And.intro hU3 (HU2.out.2.trans_g hF3))
      clear hU3 hF3 kc
      go_wp2_with fail
      go_ret
      exact ⟨ret_str (by rw [HE.out.1]), HU3.out.1.eq_ HE.out.2.1.symm HE.out.2.2.symm, HU3.out.2⟩
    · have hnl := textN_lt bs at_
      obtain ⟨n, hn⟩ : ∃ n, textN bs at_ = n := ⟨_, rfl⟩
      rw [hn] at hnl
      have HN := Lib.hid (num_ok (z := 2) (show at_ + 2 ≤ bs.length by omega))
      have HN2 := Lib.hid (show leNum ((bs.drop at_).take 2) = n from hn)
      by_cases hm : most < n
      · have t1 : decide (most < (n : Int)) = true := decide_eq_true hm
        have HE := Lib.hid (show rtextL most bs at_ 0 = [] ∧ rtextA most bs at_ 0 = at_ ∧ rtextE most bs at_ 0 = 3 from by
          have hk : ¬ rtextOk most bs at_ 0 := fun h => by have h3 := h.2.2.1; rw [hn] at h3; omega
          exact ⟨if_neg hk, if_neg hk, by unfold rtextE; rw [if_pos rfl, if_neg hsh, hn, if_pos hm]⟩)
        clear hn
        go_enter Try.func117, Try.ntmps117
        go_wp2_with fail
        refine (uNumber2 base g A c bs at_ 0 w hU).mono ?_
        rintro r w1 ⟨rfl, hU1, hF1⟩
        rw [HN.out.1, HN2.out]
        rw [HN.out.2.1, HN.out.2.2] at hU1
        have e2 := hU1.blk.cell 2 _ rfl
        have k2 := hU1.blk.free 2
        have h := hU1.set_err 3
        have HU1 := Lib.hid (And.intro h.1 (hF1.trans_g h.2))
        clear hU1 hF1 c1 c2 h
        go_wp2_with fail
        refine (uBytes base g A c bs (at_ + 2) 3 _ HU1.out.1 n (by omega)).mono ?_
        rintro r w2 ⟨A2, n2, c2', rfl, hn2, hO2, hU2, hF2⟩
        have HB := Lib.hid (show bytesV n bs (at_ + 2) 3 = [] ∧ bytesA n bs (at_ + 2) 3 = at_ + 2 ∧ bytesE n bs (at_ + 2) 3 = 3 from ⟨if_neg (by omega), if_neg (by omega), if_neg (by decide)⟩)
        rw [HB.out.1] at hO2
        rw [HB.out.2.1, HB.out.2.2] at hU2
        have kc := conv_string (c := c2') hO2.rd_
        have HU2 := Lib.hid (And.intro hU2 (HU1.out.2.trans_g hF2))
        clear hU2 hF2 hO2 e2 k2 hn2
        go_wp2_with fail
        refine (uback base g A c bs (at_ + 2) 3 _ HU2.out.1 at_ ha).mono ?_
        rintro r w3 ⟨rfl, hU3, hF3⟩
        rw [if_neg (by decide)] at hU3
        have HU3 := Lib.hid (And.intro hU3 (HU2.out.2.trans_g hF3))
        clear hU3 hF3 kc
        go_wp2_with fail
        go_ret
        exact ⟨ret_str (by rw [HE.out.1]), HU3.out.1.eq_ HE.out.2.1.symm HE.out.2.2.symm, HU3.out.2⟩
      · have t1 : decide (most < (n : Int)) = false := decide_eq_false hm
        by_cases hs2 : bs.length < at_ + 2 + n
        · have HE := Lib.hid (show rtextL most bs at_ 0 = [] ∧ rtextA most bs at_ 0 = at_ ∧ rtextE most bs at_ 0 = 10 from by
            have hk : ¬ rtextOk most bs at_ 0 := fun h => by have h3 := h.2.2.2; rw [hn] at h3; omega
            exact ⟨if_neg hk, if_neg hk, by unfold rtextE; rw [if_pos rfl, if_neg hsh, hn, if_neg hm, if_pos hs2]⟩)
          clear hn
          go_enter Try.func117, Try.ntmps117
          go_wp2_with fail
          refine (uNumber2 base g A c bs at_ 0 w hU).mono ?_
          rintro r w1 ⟨rfl, hU1, hF1⟩
          rw [HN.out.1, HN2.out]
          rw [HN.out.2.1, HN.out.2.2] at hU1
          have e2 := hU1.blk.cell 2 _ rfl
          have HU1 := Lib.hid (And.intro hU1 hF1)
          clear hU1 hF1 c1 c2
          go_wp2_with fail
          refine (uBytes base g A c bs (at_ + 2) 0 _ HU1.out.1 n (by omega)).mono ?_
          rintro r w2 ⟨A2, n2, c2', rfl, hn2, hO2, hU2, hF2⟩
          have HB := Lib.hid (show bytesV n bs (at_ + 2) 0 = [] ∧ bytesA n bs (at_ + 2) 0 = at_ + 2 ∧ bytesE n bs (at_ + 2) 0 = 10 from ⟨if_neg (by omega), if_neg (by omega), by unfold bytesE; rw [if_pos rfl, if_neg (by omega), if_pos (by omega)]⟩)
          rw [HB.out.1] at hO2
          rw [HB.out.2.1, HB.out.2.2] at hU2
          have kc := conv_string (c := c2') hO2.rd_
          have HU2 := Lib.hid (And.intro hU2 (HU1.out.2.trans_g hF2))
          clear hU2 hF2 hO2 e2 hn2
          go_wp2_with fail
          refine (uback base g A c bs (at_ + 2) 10 _ HU2.out.1 at_ ha).mono ?_
          rintro r w3 ⟨rfl, hU3, hF3⟩
          rw [if_neg (by decide)] at hU3
          have HU3 := Lib.hid (And.intro hU3 (HU2.out.2.trans_g hF3))
          clear hU3 hF3 kc
          go_wp2_with fail
          go_ret
          exact ⟨ret_str (by rw [HE.out.1]), HU3.out.1.eq_ HE.out.2.1.symm HE.out.2.2.symm, HU3.out.2⟩
        · have HE := Lib.hid (show rtextL most bs at_ 0 = (bs.drop (at_ + 2)).take n ∧ rtextA most bs at_ 0 = at_ + 2 + n ∧ rtextE most bs at_ 0 = 0 from by
            have hk : rtextOk most bs at_ 0 := ⟨rfl, by omega, by rw [hn]; omega, by rw [hn]; omega⟩
            exact ⟨by unfold rtextL; rw [if_pos hk, hn], by unfold rtextA; rw [if_pos hk, hn], by unfold rtextE; rw [if_pos rfl, if_neg hsh, hn, if_neg hm, if_neg hs2]⟩)
          clear hn
          go_enter Try.func117, Try.ntmps117
          go_wp2_with fail
          refine (uNumber2 base g A c bs at_ 0 w hU).mono ?_
          rintro r w1 ⟨rfl, hU1, hF1⟩
          rw [HN.out.1, HN2.out]
          rw [HN.out.2.1, HN.out.2.2] at hU1
          have e2 := hU1.blk.cell 2 _ rfl
          have HU1 := Lib.hid (And.intro hU1 hF1)
          clear hU1 hF1 c1 c2
          go_wp2_with fail
          refine (uBytes base g A c bs (at_ + 2) 0 _ HU1.out.1 n (by omega)).mono ?_
          rintro r w2 ⟨A2, n2, c2', rfl, hn2, hO2, hU2, hF2⟩
          have HB := Lib.hid (show bytesV n bs (at_ + 2) 0 = (bs.drop (at_ + 2)).take n ∧ bytesA n bs (at_ + 2) 0 = at_ + 2 + n ∧ bytesE n bs (at_ + 2) 0 = 0 from ⟨by unfold bytesV; rw [if_pos ⟨rfl, by omega, by omega⟩, Int.toNat_natCast], by unfold bytesA; rw [if_pos ⟨rfl, by omega, by omega⟩, Int.toNat_natCast], by unfold bytesE; rw [if_pos rfl, if_neg (by omega), if_neg (by omega)]⟩)
          rw [HB.out.1] at hO2
          rw [HB.out.2.1, HB.out.2.2] at hU2
          have kc := conv_string (c := c2') hO2.rd_
          have HU2 := Lib.hid (And.intro hU2 (HU1.out.2.trans_g hF2))
          clear hU2 hF2 hO2 e2 hn2
          go_wp2_with fail
          refine (uback base g A c bs (at_ + 2 + n) 0 _ HU2.out.1 at_ ha).mono ?_
          rintro r w3 ⟨rfl, hU3, hF3⟩
          rw [if_pos rfl] at hU3
          have HU3 := Lib.hid (And.intro hU3 (HU2.out.2.trans_g hF3))
          clear hU3 hF3 kc
          go_wp2_with fail
          go_ret
          exact ⟨ret_str (by rw [HE.out.1]), HU3.out.1.eq_ HE.out.2.1.symm HE.out.2.2.symm, HU3.out.2⟩
  · have t1 : (e == 0) = false := beq_eq_false_iff_ne.2 he
    have t2 : (e != 0) = true := bne_iff_ne.2 he
    have HE := Lib.hid (show rtextL most bs at_ e = [] ∧ rtextA most bs at_ e = at_ ∧ rtextE most bs at_ e = e from by
      have hk : ¬ rtextOk most bs at_ e := fun h => he h.1
      exact ⟨if_neg hk, if_neg hk, if_neg he⟩)
    go_enter Try.func117, Try.ntmps117
    go_wp2_with fail
    go_ret
    exact ⟨ret_str (by rw [HE.out.1]; rfl), hU.eq_ HE.out.2.1.symm HE.out.2.2.symm, Fr.refl _ _⟩
end
end Go.Proofs.Ythdjddpomaendaa.B
