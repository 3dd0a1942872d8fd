/- The Reader: numbers. -/
import Derived.Test.YthdjddpomaendaaR1
namespace Go.Proofs.Ythdjddpomaendaa.B
open Go.RowKit
set_option linter.unusedVariables false
set_option linter.unusedSimpArgs false

/-- A number that is taken: its value, the place behind it, the refusal. -/
def numV (z : Nat) (bs : List UInt8) (at_ : Nat) (e : Int) : Nat := if e = 0 ∧ at_ + z ≤ bs.length then leNum ((bs.drop at_).take z) else 0
def stepA (z : Nat) (bs : List UInt8) (at_ : Nat) (e : Int) : Nat := if e = 0 ∧ at_ + z ≤ bs.length then at_ + z else at_
def shortE (z : Nat) (bs : List UInt8) (at_ : Nat) (e : Int) : Int := if e = 0 ∧ bs.length < at_ + z then 10 else e
theorem num_ok {z : Nat} {bs : List UInt8} {at_ : Nat} (h : at_ + z ≤ bs.length) : numV z bs at_ 0 = leNum ((bs.drop at_).take z) ∧ stepA z bs at_ 0 = at_ + z ∧ shortE z bs at_ 0 = 0 := ⟨if_pos ⟨rfl, h⟩, if_pos ⟨rfl, h⟩, if_neg (by omega)⟩
theorem num_no {z : Nat} {bs : List UInt8} {at_ : Nat} {e : Int} (h : e ≠ 0 ∨ bs.length < at_ + z) : numV z bs at_ e = 0 ∧ stepA z bs at_ e = at_ ∧ shortE z bs at_ e = (if e = 0 then 10 else e) := by
  refine ⟨if_neg (by omega), if_neg (by omega), ?_⟩
  unfold shortE
  by_cases he : e = 0
  · rw [if_pos ⟨he, by omega⟩, if_pos he]
  · rw [if_neg (fun h => he h.1), if_neg he]
theorem IsR.eq_ {w : World} {base g : Nat} {A : Option Addr} {c : Nat} {bs : List UInt8} {at_ at2 : Nat} {e e2 : Int} (h : IsR w base g A c bs at_ e) (h1 : at_ = at2) (h2 : e = e2) : IsR w base g A c bs at2 e2 := h1 ▸ h2 ▸ h

section
variable (base g : Nat) (A : Option Addr) (c : Nat) (bs : List UInt8) (at_ : Nat) (e : Int) (w : World) (hR : IsR w base g A c bs at_ e)
include hR
set_option maxHeartbeats 1600000 in
set_option maxRecDepth 100000 in
theorem take_uint8 : Calls Try.prog 123 #[.pointer (some ⟨g, 0, none⟩)] w fun r w' => r = .returned (.int .u8 ((numV 1 bs at_ e : Nat) : Int)) ∧ IsR w' base g A c bs (stepA 1 bs at_ e) (shortE 1 bs at_ e) ∧ Fr (fun k => k = g) w w' := by
  by_cases hno : e ≠ 0 ∨ bs.length < at_ + 1
  · have HE := Lib.hid (num_no hno)
    go_enter Try.func123, Try.ntmps123
    go_wp2_with fail
    refine (width_uint8 _).mono ?_
    rintro r w1 ⟨rfl, rfl⟩
    go_wp2_with fail
    refine (next_no base g A c bs at_ e _ hR 0 1 0 1 rfl rfl (by omega) (by omega) hno).mono ?_
    rintro r w2 ⟨rfl, hR2, hF2⟩
    have HR2 := Lib.hid hR2
    clear hR2
    go_wp2_with fail
    go_ret
    exact ⟨ret_int (by rw [HE.out.1]; rfl), HR2.out.eq_ HE.out.2.1.symm HE.out.2.2.symm, hF2⟩
  · obtain rfl : e = 0 := Classical.byContradiction fun h => hno (.inl h)
    have hok : at_ + 1 ≤ bs.length := Nat.le_of_not_lt fun h => hno (.inr h)
    have HE := Lib.hid (num_ok hok)
    have hl := hR.hlen
    clear hno
    go_enter Try.func123, Try.ntmps123
    go_wp2_with fail
    refine (width_uint8 _).mono ?_
    rintro r w1 ⟨rfl, rfl⟩
    go_wp2_with fail
    refine (next_ok base g A c bs at_ _ hR 0 1 0 1 rfl rfl (by omega) hok).mono ?_
    rintro r w2 ⟨A', c', rfl, hc', hrd, ⟨nd, rfl⟩⟩
    have hrd1 := hrd (w1.drewN nd) (hR.own.below (below_drewN (Below.refl _ w1) nd))
    rw [Nat.add_zero] at hrd1
    clear hrd
    go_wp2_with fail
    refine (get_uint8 A' 1 c' _ _ hrd1 hc' (Nat.le_refl _)).mono ?_
    rintro r w3 ⟨rfl, ⟨nd2, rfl⟩⟩
    rw [List.take_of_length_le (by rw [hrd1.len]; exact Nat.le_refl _)]
    have hR3 := hR.below (below_drewN (Below.refl _ w1) (nd + nd2))
    have c1 := hR3.blk.cell 1 _ rfl
    have f1 := hR3.blk.free 1
    clear hrd1
    go_wp2_with fail
    go_ret
    have h := hR3.set_at (at_ + 1) hok
    exact ⟨ret_int (by rw [HE.out.1]), h.1.eq_ HE.out.2.1.symm HE.out.2.2.symm, (Fr.of_below (below_drewN (Below.refl _ w1) (nd + nd2)) _).trans_g h.2⟩
set_option maxHeartbeats 800000 in
set_option maxRecDepth 100000 in
theorem rByte : Calls Try.prog 100 #[.pointer (some ⟨g, 0, none⟩)] w fun r w' => r = .returned (.int .u8 ((numV 1 bs at_ e : Nat) : Int)) ∧ IsR w' base g A c bs (stepA 1 bs at_ e) (shortE 1 bs at_ e) ∧ Fr (fun k => k = g) w w' := by
  go_enter Try.func100, Try.ntmps100
  go_wp2_with fail
  refine (take_uint8 base g A c bs at_ e w hR).mono ?_
  rintro r w' ⟨rfl, h⟩
  have H := Lib.hid h
  clear h
  go_wp2_with fail
  go_ret
  exact ⟨rfl, H.out⟩
end

section
variable (base g : Nat) (A : Option Addr) (c : Nat) (bs : List UInt8) (at_ : Nat) (e : Int) (w : World) (hR : IsR w base g A c bs at_ e)
include hR
set_option maxHeartbeats 1600000 in
set_option maxRecDepth 100000 in
theorem take_uint16 : Calls Try.prog 124 #[.pointer (some ⟨g, 0, none⟩)] w fun r w' => r = .returned (.int .u16 ((numV 2 bs at_ e : Nat) : Int)) ∧ IsR w' base g A c bs (stepA 2 bs at_ e) (shortE 2 bs at_ e) ∧ Fr (fun k => k = g) w w' := by
  by_cases hno : e ≠ 0 ∨ bs.length < at_ + 2
  · have HE := Lib.hid (num_no hno)
    go_enter Try.func124, Try.ntmps124
    go_wp2_with fail
    refine (width_uint16 _).mono ?_
    rintro r w1 ⟨rfl, rfl⟩
    go_wp2_with fail
    refine (next_no base g A c bs at_ e _ hR 0 2 0 2 rfl rfl (by omega) (by omega) hno).mono ?_
    rintro r w2 ⟨rfl, hR2, hF2⟩
    have HR2 := Lib.hid hR2
    clear hR2
    go_wp2_with fail
    go_ret
    exact ⟨ret_int (by rw [HE.out.1]; rfl), HR2.out.eq_ HE.out.2.1.symm HE.out.2.2.symm, hF2⟩
  · obtain rfl : e = 0 := Classical.byContradiction fun h => hno (.inl h)
    have hok : at_ + 2 ≤ bs.length := Nat.le_of_not_lt fun h => hno (.inr h)
    have HE := Lib.hid (num_ok hok)
    have hl := hR.hlen
    clear hno
    go_enter Try.func124, Try.ntmps124
    go_wp2_with fail
    refine (width_uint16 _).mono ?_
    rintro r w1 ⟨rfl, rfl⟩
    go_wp2_with fail
    refine (next_ok base g A c bs at_ _ hR 0 2 0 2 rfl rfl (by omega) hok).mono ?_
    rintro r w2 ⟨A', c', rfl, hc', hrd, ⟨nd, rfl⟩⟩
    have hrd1 := hrd (w1.drewN nd) (hR.own.below (below_drewN (Below.refl _ w1) nd))
    rw [Nat.add_zero] at hrd1
    clear hrd
    go_wp2_with fail
    refine (get_uint16 A' 2 c' _ _ hrd1 hc' (Nat.le_refl _)).mono ?_
    rintro r w3 ⟨rfl, ⟨nd2, rfl⟩⟩
    rw [List.take_of_length_le (by rw [hrd1.len]; exact Nat.le_refl _)]
    have hR3 := hR.below (below_drewN (Below.refl _ w1) (nd + nd2))
    have c1 := hR3.blk.cell 1 _ rfl
    have f1 := hR3.blk.free 1
    clear hrd1
    go_wp2_with fail
    go_ret
    have h := hR3.set_at (at_ + 2) hok
    exact ⟨ret_int (by rw [HE.out.1]), h.1.eq_ HE.out.2.1.symm HE.out.2.2.symm, (Fr.of_below (below_drewN (Below.refl _ w1) (nd + nd2)) _).trans_g h.2⟩
set_option maxHeartbeats 800000 in
set_option maxRecDepth 100000 in
theorem rHalf : Calls Try.prog 101 #[.pointer (some ⟨g, 0, none⟩)] w fun r w' => r = .returned (.int .u16 ((numV 2 bs at_ e : Nat) : Int)) ∧ IsR w' base g A c bs (stepA 2 bs at_ e) (shortE 2 bs at_ e) ∧ Fr (fun k => k = g) w w' := by
  go_enter Try.func101, Try.ntmps101
  go_wp2_with fail
  refine (take_uint16 base g A c bs at_ e w hR).mono ?_
  rintro r w' ⟨rfl, h⟩
  have H := Lib.hid h
  clear h
  go_wp2_with fail
  go_ret
  exact ⟨rfl, H.out⟩
end

section
variable (base g : Nat) (A : Option Addr) (c : Nat) (bs : List UInt8) (at_ : Nat) (e : Int) (w : World) (hR : IsR w base g A c bs at_ e)
include hR
set_option maxHeartbeats 1600000 in
set_option maxRecDepth 100000 in
theorem take_uint32 : Calls Try.prog 94 #[.pointer (some ⟨g, 0, none⟩)] w fun r w' => r = .returned (.int .u32 ((numV 4 bs at_ e : Nat) : Int)) ∧ IsR w' base g A c bs (stepA 4 bs at_ e) (shortE 4 bs at_ e) ∧ Fr (fun k => k = g) w w' := by
  by_cases hno : e ≠ 0 ∨ bs.length < at_ + 4
  · have HE := Lib.hid (num_no hno)
    go_enter Try.func94, Try.ntmps94
    go_wp2_with fail
    refine (width_uint32 _).mono ?_
    rintro r w1 ⟨rfl, rfl⟩
    go_wp2_with fail
    refine (next_no base g A c bs at_ e _ hR 0 4 0 4 rfl rfl (by omega) (by omega) hno).mono ?_
    rintro r w2 ⟨rfl, hR2, hF2⟩
    have HR2 := Lib.hid hR2
    clear hR2
    go_wp2_with fail
    go_ret
    exact ⟨ret_int (by rw [HE.out.1]; rfl), HR2.out.eq_ HE.out.2.1.symm HE.out.2.2.symm, hF2⟩
  · obtain rfl : e = 0 := Classical.byContradiction fun h => hno (.inl h)
    have hok : at_ + 4 ≤ bs.length := Nat.le_of_not_lt fun h => hno (.inr h)
    have HE := Lib.hid (num_ok hok)
    have hl := hR.hlen
    clear hno
    go_enter Try.func94, Try.ntmps94
    go_wp2_with fail
    refine (width_uint32 _).mono ?_
    rintro r w1 ⟨rfl, rfl⟩
    go_wp2_with fail
    refine (next_ok base g A c bs at_ _ hR 0 4 0 4 rfl rfl (by omega) hok).mono ?_
    rintro r w2 ⟨A', c', rfl, hc', hrd, ⟨nd, rfl⟩⟩
    have hrd1 := hrd (w1.drewN nd) (hR.own.below (below_drewN (Below.refl _ w1) nd))
    rw [Nat.add_zero] at hrd1
    clear hrd
    go_wp2_with fail
    refine (get_uint32 A' 4 c' _ _ hrd1 hc' (Nat.le_refl _)).mono ?_
    rintro r w3 ⟨rfl, ⟨nd2, rfl⟩⟩
    rw [List.take_of_length_le (by rw [hrd1.len]; exact Nat.le_refl _)]
    have hR3 := hR.below (below_drewN (Below.refl _ w1) (nd + nd2))
    have c1 := hR3.blk.cell 1 _ rfl
    have f1 := hR3.blk.free 1
    clear hrd1
    go_wp2_with fail
    go_ret
    have h := hR3.set_at (at_ + 4) hok
    exact ⟨ret_int (by rw [HE.out.1]), h.1.eq_ HE.out.2.1.symm HE.out.2.2.symm, (Fr.of_below (below_drewN (Below.refl _ w1) (nd + nd2)) _).trans_g h.2⟩
set_option maxHeartbeats 800000 in
set_option maxRecDepth 100000 in
theorem rWord : Calls Try.prog 51 #[.pointer (some ⟨g, 0, none⟩)] w fun r w' => r = .returned (.int .u32 ((numV 4 bs at_ e : Nat) : Int)) ∧ IsR w' base g A c bs (stepA 4 bs at_ e) (shortE 4 bs at_ e) ∧ Fr (fun k => k = g) w w' := by
  go_enter Try.func51, Try.ntmps51
  go_wp2_with fail
  refine (take_uint32 base g A c bs at_ e w hR).mono ?_
  rintro r w' ⟨rfl, h⟩
  have H := Lib.hid h
  clear h
  go_wp2_with fail
  go_ret
  exact ⟨rfl, H.out⟩
end

section
variable (base g : Nat) (A : Option Addr) (c : Nat) (bs : List UInt8) (at_ : Nat) (e : Int) (w : World) (hR : IsR w base g A c bs at_ e)
include hR
set_option maxHeartbeats 1600000 in
set_option maxRecDepth 100000 in
theorem take_uint64 : Calls Try.prog 125 #[.pointer (some ⟨g, 0, none⟩)] w fun r w' => r = .returned (.int .u64 ((numV 8 bs at_ e : Nat) : Int)) ∧ IsR w' base g A c bs (stepA 8 bs at_ e) (shortE 8 bs at_ e) ∧ Fr (fun k => k = g) w w' := by
  by_cases hno : e ≠ 0 ∨ bs.length < at_ + 8
  · have HE := Lib.hid (num_no hno)
    go_enter Try.func125, Try.ntmps125
    go_wp2_with fail
    refine (width_uint64 _).mono ?_
    rintro r w1 ⟨rfl, rfl⟩
    go_wp2_with fail
    refine (next_no base g A c bs at_ e _ hR 0 8 0 8 rfl rfl (by omega) (by omega) hno).mono ?_
    rintro r w2 ⟨rfl, hR2, hF2⟩
    have HR2 := Lib.hid hR2
    clear hR2
    go_wp2_with fail
    go_ret
    exact ⟨ret_int (by rw [HE.out.1]; rfl), HR2.out.eq_ HE.out.2.1.symm HE.out.2.2.symm, hF2⟩
  · obtain rfl : e = 0 := Classical.byContradiction fun h => hno (.inl h)
    have hok : at_ + 8 ≤ bs.length := Nat.le_of_not_lt fun h => hno (.inr h)
    have HE := Lib.hid (num_ok hok)
    have hl := hR.hlen
    clear hno
    go_enter Try.func125, Try.ntmps125
    go_wp2_with fail
    refine (width_uint64 _).mono ?_
    rintro r w1 ⟨rfl, rfl⟩
    go_wp2_with fail
    refine (next_ok base g A c bs at_ _ hR 0 8 0 8 rfl rfl (by omega) hok).mono ?_
    rintro r w2 ⟨A', c', rfl, hc', hrd, ⟨nd, rfl⟩⟩
    have hrd1 := hrd (w1.drewN nd) (hR.own.below (below_drewN (Below.refl _ w1) nd))
    rw [Nat.add_zero] at hrd1
    clear hrd
    go_wp2_with fail
    refine (get_uint64 A' 8 c' _ _ hrd1 hc' (Nat.le_refl _)).mono ?_
    rintro r w3 ⟨rfl, ⟨nd2, rfl⟩⟩
    rw [List.take_of_length_le (by rw [hrd1.len]; exact Nat.le_refl _)]
    have hR3 := hR.below (below_drewN (Below.refl _ w1) (nd + nd2))
    have c1 := hR3.blk.cell 1 _ rfl
    have f1 := hR3.blk.free 1
    clear hrd1
    go_wp2_with fail
    go_ret
    have h := hR3.set_at (at_ + 8) hok
    exact ⟨ret_int (by rw [HE.out.1]), h.1.eq_ HE.out.2.1.symm HE.out.2.2.symm, (Fr.of_below (below_drewN (Below.refl _ w1) (nd + nd2)) _).trans_g h.2⟩
set_option maxHeartbeats 800000 in
set_option maxRecDepth 100000 in
theorem rLong : Calls Try.prog 102 #[.pointer (some ⟨g, 0, none⟩)] w fun r w' => r = .returned (.int .u64 ((numV 8 bs at_ e : Nat) : Int)) ∧ IsR w' base g A c bs (stepA 8 bs at_ e) (shortE 8 bs at_ e) ∧ Fr (fun k => k = g) w w' := by
  go_enter Try.func102, Try.ntmps102
  go_wp2_with fail
  refine (take_uint64 base g A c bs at_ e w hR).mono ?_
  rintro r w' ⟨rfl, h⟩
  have H := Lib.hid h
  clear h
  go_wp2_with fail
  go_ret
  exact ⟨rfl, H.out⟩
end

end Go.Proofs.Ythdjddpomaendaa.B
