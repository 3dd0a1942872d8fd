/- WordKin over numbers alone: of every two numbers, in each of the six number types, the sums that the program tells fit one another. No condition. -/
import Derived.Test.YthdjddpomaendaaKx7
import Derived.Lib.Mul64
import Derived.Laws.Bits64b
namespace Go.Proofs.Ythdjddpomaendaa.Pure
open Go.RowKit Go.Proofs.Ythdjddpomaendaa.PWordKin Go.Proofs.YthdjddpomaendaaW.PrintWords Go.Proofs.YthdjddpomaendaaW.PrintLast
set_option linter.unusedVariables false
set_option linter.unusedSimpArgs false

namespace Kin
theorem wu16 (n : Int) : IntKind.u16.wrap n = n % 65536 := by simp [IntKind.wrap, IntKind.bits, IntKind.signed]
theorem wu64 (n : Int) : IntKind.u64.wrap n = n % 18446744073709551616 := by simp [IntKind.wrap, IntKind.bits, IntKind.signed]
theorem maskN (a : Nat) (ha : a < 18446744073709551616) : Go.bits .and .u64 (a : Int) 4294967295 = ((a % 4294967296 : Nat) : Int) := by
  have h := bits_and_u64_nat a 4294967295 ha (by omega)
  have e : a &&& 4294967295 = a % 4294967296 := Nat.and_two_pow_sub_one_eq_mod a 32
  rw [e] at h
  exact h
theorem divN (a : Nat) : (a : Int) / 4294967296 = ((a / 4294967296 : Nat) : Int) := by omega
theorem mulN (a b : Nat) : (a : Int) * (b : Int) = ((a * b : Nat) : Int) := (Int.natCast_mul a b).symm
theorem addN (a b : Nat) : (a : Int) + (b : Int) = ((a + b : Nat) : Int) := (Int.natCast_add a b).symm
theorem wrapN (a : Nat) (ha : a < 18446744073709551616) : IntKind.u64.wrap (a : Int) = (a : Int) := by rw [wu64]; omega
theorem wrapM (a : Nat) : IntKind.u64.wrap (a : Int) = ((a % 18446744073709551616 : Nat) : Int) := by rw [wu64]; omega
theorem mul64N (x y : Nat) (hx : x < 18446744073709551616) (hy : y < 18446744073709551616) :
    bits_Mul64.f x y = some (((x * y / 18446744073709551616 : Nat) : Int), ((x * y % 18446744073709551616 : Nat) : Int)) := by
  obtain ⟨bd, bt, bw, hhi⟩ := Lib.mul64_hi x y hx hy
  have ba := Lib.half_mul_le (a := x / 4294967296) (b := y / 4294967296) (by omega) (by omega)
  have bb := Lib.half_mul_le (a := x / 4294967296) (b := y % 4294967296) (by omega) (by omega)
  have bc := Lib.half_mul_le (a := x % 4294967296) (b := y / 4294967296) (by omega) (by omega)
  have ba' : x / 4294967296 * (y / 4294967296) < 18446744073709551616 := by omega
  have bb' : x / 4294967296 * (y % 4294967296) < 18446744073709551616 := by omega
  have bc' : x % 4294967296 * (y / 4294967296) < 18446744073709551616 := by omega
  have bh1 : x / 4294967296 * (y / 4294967296) + (x / 4294967296 * (y % 4294967296) + x % 4294967296 * (y % 4294967296) / 4294967296) / 4294967296 < 18446744073709551616 := by omega
  have bh : x / 4294967296 * (y / 4294967296) + (x / 4294967296 * (y % 4294967296) + x % 4294967296 * (y % 4294967296) / 4294967296) / 4294967296 + ((x / 4294967296 * (y % 4294967296) + x % 4294967296 * (y % 4294967296) / 4294967296) % 4294967296 + x % 4294967296 * (y / 4294967296)) / 4294967296 < 18446744073709551616 := by omega
  unfold bits_Mul64.f
  simp only [maskN x hx, maskN y hy, divN, mulN, addN, wrapN _ bd, wrapN _ bb', wrapN _ bt, maskN _ bt, wrapN _ bc', wrapN _ bw, wrapN _ ba', wrapN _ bh1, wrapN _ bh, wrapM (x * y)]
  rw [hhi]
theorem mul64 (a b : Int) (ha0 : 0 ≤ a) (ha : a < 18446744073709551616) (hb0 : 0 ≤ b) (hb : b < 18446744073709551616) :
    bits_Mul64.f a b = some (a * b / 18446744073709551616, a * b % 18446744073709551616) := by
  obtain ⟨x, rfl⟩ := Int.eq_ofNat_of_zero_le ha0
  obtain ⟨y, rfl⟩ := Int.eq_ofNat_of_zero_le hb0
  have h := mul64N x y (by omega) (by omega)
  have e : (x : Int) * (y : Int) = ((x * y : Nat) : Int) := (Int.natCast_mul x y).symm
  rw [e]
  exact h
/-- Up's facts. -/
theorem up_bounds (a b : Int) (ha : 0 ≤ a) (hb : 0 < b) : 0 ≤ a % b ∧ a % b < b ∧ a % b ≤ a := by
  have h1 := Int.emod_nonneg a (show b ≠ 0 by omega)
  have h2 := Int.emod_lt_of_pos a hb
  have h4 := Int.mul_ediv_add_emod a b
  have h5 := Int.mul_nonneg (show (0 : Int) ≤ b by omega) (Int.ediv_nonneg ha (show (0 : Int) ≤ b by omega))
  have h3 : a % b ≤ a := by omega
  exact ⟨h1, h2, h3⟩
theorem up_mod (a b : Int) : (a - a % b + b) % b = 0 := by
  have h := Int.mul_ediv_add_emod a b
  have e : a - a % b + b = b * (a / b + 1) := by rw [Int.mul_add, Int.mul_one]; omega
  rw [e]
  exact Int.mul_emod_right b _
end Kin

namespace Kin
theorem uint8_add (a b : Int) (ha0 : 0 ≤ a) (ha : a < 256) (hb0 : 0 ≤ b) (hb : b < 256) : word_Add_uint8.f a b = some (if a + b < 256 then (a + b, true) else (0, false)) := by
  unfold word_Add_uint8.f
  simp only [ge_iff_le]
  by_cases h : a + b < 256
  · rw [if_pos h, if_pos (by omega), show (a + b) % 256 = a + b by omega]
  · rw [if_neg h, if_neg (by omega)]
theorem uint8_sub (a b : Int) (ha0 : 0 ≤ a) (ha : a < 256) (hb0 : 0 ≤ b) (hb : b < 256) : word_Sub_uint8.f a b = some (if b ≤ a then (a - b, true) else (0, false)) := by
  unfold word_Sub_uint8.f
  simp only [gt_iff_lt]
  by_cases h : b ≤ a
  · rw [if_pos h, if_neg (by omega), show (a - b) % 256 = a - b by omega]
  · rw [if_neg h, if_pos (by omega)]
theorem uint8_to (x : Int) (h0 : 0 ≤ x) (h1 : x < 18446744073709551616) : word_To_uint8_uint64.f x = some (if x < 256 then (x, true) else (0, false)) := by
  unfold word_To_uint8_uint64.f
  try simp only [wu64]
  by_cases h : x < 256
  · rw [if_pos h, if_pos (by omega), show x % 256 = x by omega]
  · rw [if_neg h, if_neg (by omega)]
theorem uint8_mul (a b : Int) (ha0 : 0 ≤ a) (ha : a < 256) (hb0 : 0 ≤ b) (hb : b < 256) : word_Mul_uint8.f a b = some (if a * b < 256 then (a * b, true) else (0, false)) := by
  unfold word_Mul_uint8.f
  rw [show IntKind.u64.wrap a = a by rw [wu64]; omega, show IntKind.u64.wrap b = b by rw [wu64]; omega]
  rw [mul64 a b ha0 (by omega) hb0 (by omega)]
  have hp : 0 ≤ a * b := Int.mul_nonneg ha0 hb0
  simp only [Option.bind_some]
  generalize a * b = c at *
  by_cases h : c / 18446744073709551616 = 0
  · rw [if_pos h, show c % 18446744073709551616 = c by omega, uint8_to c hp (by omega)]
    simp only [Option.bind_some]
  · rw [if_neg h, if_neg (by omega)]
theorem uint8_up0 (a : Int) : word_Up_uint8.f a 0 = some (0, false) := by
  unfold word_Up_uint8.f
  rw [if_pos rfl]
theorem uint8_up (a b : Int) (ha0 : 0 ≤ a) (ha : a < 256) (hb0 : 0 ≤ b) (hb : b < 256) (hp : 0 < b) : word_Up_uint8.f a b = some (if a % b = 0 then (a, true) else if a - a % b + b < 256 then (a - a % b + b, true) else (0, false)) := by
  obtain ⟨h1, h2, h3⟩ := up_bounds a b ha0 hp
  unfold word_Up_uint8.f
  rw [if_neg (by omega), Int.tmod_eq_emod_of_nonneg ha0]
  by_cases h : a % b = 0
  · rw [if_pos h, if_pos h]
  · rw [if_neg h, if_neg h]
    try simp only [wu64]
    rw [show (a - a % b) % 256 = a - a % b by omega, uint8_add (a - a % b) b (by omega) (by omega) hb0 hb]
    simp only [Option.bind_some]
theorem uint8_j3 (a : Int) (ha0 : 0 ≤ a) (ha : a < 256) (k : Nat) : bulkheadlaw1_kin_uint8.j3 (k + 1) a false = some true := by
  simp only [bulkheadlaw1_kin_uint8.j3]
  rw [uint8_up0, uint8_up a 1 ha0 ha (by omega) (by omega) (by omega), if_pos (Int.emod_one a)]
  simp
theorem uint8_j2 (a b : Int) (ha0 : 0 ≤ a) (ha : a < 256) (hb0 : 0 ≤ b) (hb : b < 256) (k : Nat) : bulkheadlaw1_kin_uint8.j2 (k + 2) a b false = some true := by
  simp only [bulkheadlaw1_kin_uint8.j2]
  rw [if_neg (by simp)]
  by_cases hp : 0 < b
  · obtain ⟨h1, h2, h3⟩ := up_bounds a b ha0 hp
    have h4 := up_mod a b
    rw [uint8_up a b ha0 ha hb0 hb hp]
    simp only [Option.bind_some]
    by_cases h : a % b = 0
    · simp only [if_pos h, if_true]
      rw [if_neg (by omega)]
      try simp only [wu64]
      rw [if_neg (by omega), if_neg (by omega), Int.tmod_eq_emod_of_nonneg ha0, h]
      exact uint8_j3 a ha0 ha k
    · simp only [if_neg h]
      by_cases hs : a - a % b + b < 256
      · simp only [if_pos hs, if_true]
        rw [if_neg (by omega)]
        try simp only [wu64]
        rw [if_neg (by omega), if_neg (by omega), Int.tmod_eq_emod_of_nonneg (by omega), h4]
        exact uint8_j3 a ha0 ha k
      · simp only [if_neg hs]
        exact uint8_j3 a ha0 ha k
  · obtain rfl : b = 0 := by omega
    rw [uint8_up0]
    exact uint8_j3 a ha0 ha k
theorem uint8_j1 (a b : Int) (ha0 : 0 ≤ a) (ha : a < 256) (hb0 : 0 ≤ b) (hb : b < 256) (k : Nat) : bulkheadlaw1_kin_uint8.j1 (k + 3) a b = some true := by
  simp only [bulkheadlaw1_kin_uint8.j1]
  rw [uint8_mul a b ha0 ha hb0 hb]
  simp only [Option.bind_some]
  by_cases h : a * b < 256
  · simp only [if_pos h, if_true]
    by_cases hp : 0 < b
    · have hq : 0 ≤ a * b := Int.mul_nonneg ha0 hb0
      rw [if_pos hp, if_neg (by omega), Int.tdiv_eq_ediv_of_nonneg hq, Int.tmod_eq_emod_of_nonneg hq, Int.mul_ediv_cancel a (by omega), Int.mul_emod_left]
      try simp only [wu64]
      rw [if_pos (by omega)]
      exact uint8_j2 a b ha0 ha hb0 hb k
    · rw [if_neg hp]
      exact uint8_j2 a b ha0 ha hb0 hb k
  · simp only [if_neg h]
    exact uint8_j2 a b ha0 ha hb0 hb k
theorem uint8_j0 (a b : Int) (ha0 : 0 ≤ a) (ha : a < 256) (hb0 : 0 ≤ b) (hb : b < 256) (k : Nat) : bulkheadlaw1_kin_uint8.j0 (k + 4) a b = some true := by
  simp only [bulkheadlaw1_kin_uint8.j0]
  rw [uint8_sub a b ha0 ha hb0 hb]
  simp only [Option.bind_some]
  by_cases h : b ≤ a
  · simp only [if_pos h]
    rw [if_neg (by simp [h]), if_pos trivial, uint8_add (a - b) b (by omega) (by omega) hb0 hb, if_pos (by omega)]
    simp only [Option.bind_some]
    rw [if_pos trivial, if_pos (by omega)]
    exact uint8_j1 a b ha0 ha hb0 hb k
  · simp only [if_neg h]
    rw [if_neg (by simp [h])]
    exact uint8_j1 a b ha0 ha hb0 hb k
theorem uint8_kin (a b : Int) (ha0 : 0 ≤ a) (ha : a < 256) (hb0 : 0 ≤ b) (hb : b < 256) (k : Nat) : bulkheadlaw1_kin_uint8.f (k + 4) a b = some true := by
  unfold bulkheadlaw1_kin_uint8.f
  rw [uint8_add a b ha0 ha hb0 hb]
  simp only [Option.bind_some]
  by_cases h : a + b < 256
  · simp only [if_pos h, if_true]
    rw [uint8_sub (a + b) b (by omega) h hb0 hb, if_pos (by omega)]
    simp only [Option.bind_some]
    rw [if_pos trivial, if_pos (by omega), if_neg (by omega)]
    exact uint8_j0 a b ha0 ha hb0 hb k
  · simp only [if_neg h]
    exact uint8_j0 a b ha0 ha hb0 hb k
end Kin

namespace Kin
theorem uint16_add (a b : Int) (ha0 : 0 ≤ a) (ha : a < 65536) (hb0 : 0 ≤ b) (hb : b < 65536) : word_Add_uint16.f a b = some (if a + b < 65536 then (a + b, true) else (0, false)) := by
  unfold word_Add_uint16.f
  simp only [wu16, ge_iff_le]
  by_cases h : a + b < 65536
  · rw [if_pos h, if_pos (by omega), show (a + b) % 65536 = a + b by omega]
  · rw [if_neg h, if_neg (by omega)]
theorem uint16_sub (a b : Int) (ha0 : 0 ≤ a) (ha : a < 65536) (hb0 : 0 ≤ b) (hb : b < 65536) : word_Sub_uint16.f a b = some (if b ≤ a then (a - b, true) else (0, false)) := by
  unfold word_Sub_uint16.f
  simp only [wu16, gt_iff_lt]
  by_cases h : b ≤ a
  · rw [if_pos h, if_neg (by omega), show (a - b) % 65536 = a - b by omega]
  · rw [if_neg h, if_pos (by omega)]
theorem uint16_to (x : Int) (h0 : 0 ≤ x) (h1 : x < 18446744073709551616) : word_To_uint16_uint64.f x = some (if x < 65536 then (x, true) else (0, false)) := by
  unfold word_To_uint16_uint64.f
  try simp only [wu16, wu64]
  by_cases h : x < 65536
  · rw [if_pos h, if_pos (by omega), show x % 65536 = x by omega]
  · rw [if_neg h, if_neg (by omega)]
theorem uint16_mul (a b : Int) (ha0 : 0 ≤ a) (ha : a < 65536) (hb0 : 0 ≤ b) (hb : b < 65536) : word_Mul_uint16.f a b = some (if a * b < 65536 then (a * b, true) else (0, false)) := by
  unfold word_Mul_uint16.f
  rw [show IntKind.u64.wrap a = a by rw [wu64]; omega, show IntKind.u64.wrap b = b by rw [wu64]; omega]
  rw [mul64 a b ha0 (by omega) hb0 (by omega)]
  have hp : 0 ≤ a * b := Int.mul_nonneg ha0 hb0
  simp only [Option.bind_some]
  generalize a * b = c at *
  by_cases h : c / 18446744073709551616 = 0
  · rw [if_pos h, show c % 18446744073709551616 = c by omega, uint16_to c hp (by omega)]
    simp only [Option.bind_some]
  · rw [if_neg h, if_neg (by omega)]
theorem uint16_up0 (a : Int) : word_Up_uint16.f a 0 = some (0, false) := by
  unfold word_Up_uint16.f
  rw [if_pos rfl]
theorem uint16_up (a b : Int) (ha0 : 0 ≤ a) (ha : a < 65536) (hb0 : 0 ≤ b) (hb : b < 65536) (hp : 0 < b) : word_Up_uint16.f a b = some (if a % b = 0 then (a, true) else if a - a % b + b < 65536 then (a - a % b + b, true) else (0, false)) := by
  obtain ⟨h1, h2, h3⟩ := up_bounds a b ha0 hp
  unfold word_Up_uint16.f
  rw [if_neg (by omega), Int.tmod_eq_emod_of_nonneg ha0]
  by_cases h : a % b = 0
  · rw [if_pos h, if_pos h]
  · rw [if_neg h, if_neg h]
    try simp only [wu16, wu64]
    rw [show (a - a % b) % 65536 = a - a % b by omega, uint16_add (a - a % b) b (by omega) (by omega) hb0 hb]
    simp only [Option.bind_some]
theorem uint16_j3 (a : Int) (ha0 : 0 ≤ a) (ha : a < 65536) (k : Nat) : bulkheadlaw1_kin_uint16.j3 (k + 1) a false = some true := by
  simp only [bulkheadlaw1_kin_uint16.j3]
  rw [uint16_up0, uint16_up a 1 ha0 ha (by omega) (by omega) (by omega), if_pos (Int.emod_one a)]
  simp
theorem uint16_j2 (a b : Int) (ha0 : 0 ≤ a) (ha : a < 65536) (hb0 : 0 ≤ b) (hb : b < 65536) (k : Nat) : bulkheadlaw1_kin_uint16.j2 (k + 2) a b false = some true := by
  simp only [bulkheadlaw1_kin_uint16.j2]
  rw [if_neg (by simp)]
  by_cases hp : 0 < b
  · obtain ⟨h1, h2, h3⟩ := up_bounds a b ha0 hp
    have h4 := up_mod a b
    rw [uint16_up a b ha0 ha hb0 hb hp]
    simp only [Option.bind_some]
    by_cases h : a % b = 0
    · simp only [if_pos h, if_true]
      rw [if_neg (by omega)]
      try simp only [wu16, wu64]
      rw [if_neg (by omega), if_neg (by omega), Int.tmod_eq_emod_of_nonneg ha0, h]
      exact uint16_j3 a ha0 ha k
    · simp only [if_neg h]
      by_cases hs : a - a % b + b < 65536
      · simp only [if_pos hs, if_true]
        rw [if_neg (by omega)]
        try simp only [wu16, wu64]
        rw [if_neg (by omega), if_neg (by omega), Int.tmod_eq_emod_of_nonneg (by omega), h4]
        exact uint16_j3 a ha0 ha k
      · simp only [if_neg hs]
        exact uint16_j3 a ha0 ha k
  · obtain rfl : b = 0 := by omega
    rw [uint16_up0]
    exact uint16_j3 a ha0 ha k
theorem uint16_j1 (a b : Int) (ha0 : 0 ≤ a) (ha : a < 65536) (hb0 : 0 ≤ b) (hb : b < 65536) (k : Nat) : bulkheadlaw1_kin_uint16.j1 (k + 3) a b = some true := by
  simp only [bulkheadlaw1_kin_uint16.j1]
  rw [uint16_mul a b ha0 ha hb0 hb]
  simp only [Option.bind_some]
  by_cases h : a * b < 65536
  · simp only [if_pos h, if_true]
    by_cases hp : 0 < b
    · have hq : 0 ≤ a * b := Int.mul_nonneg ha0 hb0
      rw [if_pos hp, if_neg (by omega), Int.tdiv_eq_ediv_of_nonneg hq, Int.tmod_eq_emod_of_nonneg hq, Int.mul_ediv_cancel a (by omega), Int.mul_emod_left]
      try simp only [wu16, wu64]
      rw [if_pos (by omega)]
      exact uint16_j2 a b ha0 ha hb0 hb k
    · rw [if_neg hp]
      exact uint16_j2 a b ha0 ha hb0 hb k
  · simp only [if_neg h]
    exact uint16_j2 a b ha0 ha hb0 hb k
theorem uint16_j0 (a b : Int) (ha0 : 0 ≤ a) (ha : a < 65536) (hb0 : 0 ≤ b) (hb : b < 65536) (k : Nat) : bulkheadlaw1_kin_uint16.j0 (k + 4) a b = some true := by
  simp only [bulkheadlaw1_kin_uint16.j0]
  rw [uint16_sub a b ha0 ha hb0 hb]
  simp only [Option.bind_some]
  by_cases h : b ≤ a
  · simp only [if_pos h]
    rw [if_neg (by simp [h]), if_pos trivial, uint16_add (a - b) b (by omega) (by omega) hb0 hb, if_pos (by omega)]
    simp only [Option.bind_some]
    rw [if_pos trivial, if_pos (by omega)]
    exact uint16_j1 a b ha0 ha hb0 hb k
  · simp only [if_neg h]
    rw [if_neg (by simp [h])]
    exact uint16_j1 a b ha0 ha hb0 hb k
theorem uint16_kin (a b : Int) (ha0 : 0 ≤ a) (ha : a < 65536) (hb0 : 0 ≤ b) (hb : b < 65536) (k : Nat) : bulkheadlaw1_kin_uint16.f (k + 4) a b = some true := by
  unfold bulkheadlaw1_kin_uint16.f
  rw [uint16_add a b ha0 ha hb0 hb]
  simp only [Option.bind_some]
  by_cases h : a + b < 65536
  · simp only [if_pos h, if_true]
    rw [uint16_sub (a + b) b (by omega) h hb0 hb, if_pos (by omega)]
    simp only [Option.bind_some]
    rw [if_pos trivial, if_pos (by omega), if_neg (by omega)]
    exact uint16_j0 a b ha0 ha hb0 hb k
  · simp only [if_neg h]
    exact uint16_j0 a b ha0 ha hb0 hb k
end Kin

namespace Kin
theorem uint32_add (a b : Int) (ha0 : 0 ≤ a) (ha : a < 4294967296) (hb0 : 0 ≤ b) (hb : b < 4294967296) : word_Add_uint32.f a b = some (if a + b < 4294967296 then (a + b, true) else (0, false)) := by
  unfold word_Add_uint32.f
  simp only [ge_iff_le]
  by_cases h : a + b < 4294967296
  · rw [if_pos h, if_pos (by omega), show (a + b) % 4294967296 = a + b by omega]
  · rw [if_neg h, if_neg (by omega)]
theorem uint32_sub (a b : Int) (ha0 : 0 ≤ a) (ha : a < 4294967296) (hb0 : 0 ≤ b) (hb : b < 4294967296) : word_Sub_uint32.f a b = some (if b ≤ a then (a - b, true) else (0, false)) := by
  unfold word_Sub_uint32.f
  simp only [gt_iff_lt]
  by_cases h : b ≤ a
  · rw [if_pos h, if_neg (by omega), show (a - b) % 4294967296 = a - b by omega]
  · rw [if_neg h, if_pos (by omega)]
theorem uint32_to (x : Int) (h0 : 0 ≤ x) (h1 : x < 18446744073709551616) : word_To_uint32_uint64.f x = some (if x < 4294967296 then (x, true) else (0, false)) := by
  unfold word_To_uint32_uint64.f
  try simp only [wu64]
  by_cases h : x < 4294967296
  · rw [if_pos h, if_pos (by omega), show x % 4294967296 = x by omega]
  · rw [if_neg h, if_neg (by omega)]
theorem uint32_mul (a b : Int) (ha0 : 0 ≤ a) (ha : a < 4294967296) (hb0 : 0 ≤ b) (hb : b < 4294967296) : word_Mul_uint32.f a b = some (if a * b < 4294967296 then (a * b, true) else (0, false)) := by
  unfold word_Mul_uint32.f
  rw [show IntKind.u64.wrap a = a by rw [wu64]; omega, show IntKind.u64.wrap b = b by rw [wu64]; omega]
  rw [mul64 a b ha0 (by omega) hb0 (by omega)]
  have hp : 0 ≤ a * b := Int.mul_nonneg ha0 hb0
  simp only [Option.bind_some]
  generalize a * b = c at *
  by_cases h : c / 18446744073709551616 = 0
  · rw [if_pos h, show c % 18446744073709551616 = c by omega, uint32_to c hp (by omega)]
    simp only [Option.bind_some]
  · rw [if_neg h, if_neg (by omega)]
theorem uint32_up0 (a : Int) : word_Up_uint32.f a 0 = some (0, false) := by
  unfold word_Up_uint32.f
  rw [if_pos rfl]
theorem uint32_up (a b : Int) (ha0 : 0 ≤ a) (ha : a < 4294967296) (hb0 : 0 ≤ b) (hb : b < 4294967296) (hp : 0 < b) : word_Up_uint32.f a b = some (if a % b = 0 then (a, true) else if a - a % b + b < 4294967296 then (a - a % b + b, true) else (0, false)) := by
  obtain ⟨h1, h2, h3⟩ := up_bounds a b ha0 hp
  unfold word_Up_uint32.f
  rw [if_neg (by omega), Int.tmod_eq_emod_of_nonneg ha0]
  by_cases h : a % b = 0
  · rw [if_pos h, if_pos h]
  · rw [if_neg h, if_neg h]
    try simp only [wu64]
    rw [show (a - a % b) % 4294967296 = a - a % b by omega, uint32_add (a - a % b) b (by omega) (by omega) hb0 hb]
    simp only [Option.bind_some]
theorem uint32_j3 (a : Int) (ha0 : 0 ≤ a) (ha : a < 4294967296) (k : Nat) : bulkheadlaw1_kin_uint32.j3 (k + 1) a false = some true := by
  simp only [bulkheadlaw1_kin_uint32.j3]
  rw [uint32_up0, uint32_up a 1 ha0 ha (by omega) (by omega) (by omega), if_pos (Int.emod_one a)]
  simp
theorem uint32_j2 (a b : Int) (ha0 : 0 ≤ a) (ha : a < 4294967296) (hb0 : 0 ≤ b) (hb : b < 4294967296) (k : Nat) : bulkheadlaw1_kin_uint32.j2 (k + 2) a b false = some true := by
  simp only [bulkheadlaw1_kin_uint32.j2]
  rw [if_neg (by simp)]
  by_cases hp : 0 < b
  · obtain ⟨h1, h2, h3⟩ := up_bounds a b ha0 hp
    have h4 := up_mod a b
    rw [uint32_up a b ha0 ha hb0 hb hp]
    simp only [Option.bind_some]
    by_cases h : a % b = 0
    · simp only [if_pos h, if_true]
      rw [if_neg (by omega)]
      try simp only [wu64]
      rw [if_neg (by omega), if_neg (by omega), Int.tmod_eq_emod_of_nonneg ha0, h]
      exact uint32_j3 a ha0 ha k
    · simp only [if_neg h]
      by_cases hs : a - a % b + b < 4294967296
      · simp only [if_pos hs, if_true]
        rw [if_neg (by omega)]
        try simp only [wu64]
        rw [if_neg (by omega), if_neg (by omega), Int.tmod_eq_emod_of_nonneg (by omega), h4]
        exact uint32_j3 a ha0 ha k
      · simp only [if_neg hs]
        exact uint32_j3 a ha0 ha k
  · obtain rfl : b = 0 := by omega
    rw [uint32_up0]
    exact uint32_j3 a ha0 ha k
theorem uint32_j1 (a b : Int) (ha0 : 0 ≤ a) (ha : a < 4294967296) (hb0 : 0 ≤ b) (hb : b < 4294967296) (k : Nat) : bulkheadlaw1_kin_uint32.j1 (k + 3) a b = some true := by
  simp only [bulkheadlaw1_kin_uint32.j1]
  rw [uint32_mul a b ha0 ha hb0 hb]
  simp only [Option.bind_some]
  by_cases h : a * b < 4294967296
  · simp only [if_pos h, if_true]
    by_cases hp : 0 < b
    · have hq : 0 ≤ a * b := Int.mul_nonneg ha0 hb0
      rw [if_pos hp, if_neg (by omega), Int.tdiv_eq_ediv_of_nonneg hq, Int.tmod_eq_emod_of_nonneg hq, Int.mul_ediv_cancel a (by omega), Int.mul_emod_left]
      try simp only [wu64]
      rw [if_pos (by omega)]
      exact uint32_j2 a b ha0 ha hb0 hb k
    · rw [if_neg hp]
      exact uint32_j2 a b ha0 ha hb0 hb k
  · simp only [if_neg h]
    exact uint32_j2 a b ha0 ha hb0 hb k
theorem uint32_j0 (a b : Int) (ha0 : 0 ≤ a) (ha : a < 4294967296) (hb0 : 0 ≤ b) (hb : b < 4294967296) (k : Nat) : bulkheadlaw1_kin_uint32.j0 (k + 4) a b = some true := by
  simp only [bulkheadlaw1_kin_uint32.j0]
  rw [uint32_sub a b ha0 ha hb0 hb]
  simp only [Option.bind_some]
  by_cases h : b ≤ a
  · simp only [if_pos h]
    rw [if_neg (by simp [h]), if_pos trivial, uint32_add (a - b) b (by omega) (by omega) hb0 hb, if_pos (by omega)]
    simp only [Option.bind_some]
    rw [if_pos trivial, if_pos (by omega)]
    exact uint32_j1 a b ha0 ha hb0 hb k
  · simp only [if_neg h]
    rw [if_neg (by simp [h])]
    exact uint32_j1 a b ha0 ha hb0 hb k
theorem uint32_kin (a b : Int) (ha0 : 0 ≤ a) (ha : a < 4294967296) (hb0 : 0 ≤ b) (hb : b < 4294967296) (k : Nat) : bulkheadlaw1_kin_uint32.f (k + 4) a b = some true := by
  unfold bulkheadlaw1_kin_uint32.f
  rw [uint32_add a b ha0 ha hb0 hb]
  simp only [Option.bind_some]
  by_cases h : a + b < 4294967296
  · simp only [if_pos h, if_true]
    rw [uint32_sub (a + b) b (by omega) h hb0 hb, if_pos (by omega)]
    simp only [Option.bind_some]
    rw [if_pos trivial, if_pos (by omega), if_neg (by omega)]
    exact uint32_j0 a b ha0 ha hb0 hb k
  · simp only [if_neg h]
    exact uint32_j0 a b ha0 ha hb0 hb k
end Kin

namespace Kin
theorem uint64_add (a b : Int) (ha0 : 0 ≤ a) (ha : a < 18446744073709551616) (hb0 : 0 ≤ b) (hb : b < 18446744073709551616) : word_Add_uint64.f a b = some (if a + b < 18446744073709551616 then (a + b, true) else (0, false)) := by
  unfold word_Add_uint64.f
  simp only [wu64, ge_iff_le]
  by_cases h : a + b < 18446744073709551616
  · rw [if_pos h, if_pos (by omega), show (a + b) % 18446744073709551616 = a + b by omega]
  · rw [if_neg h, if_neg (by omega)]
theorem uint64_sub (a b : Int) (ha0 : 0 ≤ a) (ha : a < 18446744073709551616) (hb0 : 0 ≤ b) (hb : b < 18446744073709551616) : word_Sub_uint64.f a b = some (if b ≤ a then (a - b, true) else (0, false)) := by
  unfold word_Sub_uint64.f
  simp only [wu64, gt_iff_lt]
  by_cases h : b ≤ a
  · rw [if_pos h, if_neg (by omega), show (a - b) % 18446744073709551616 = a - b by omega]
  · rw [if_neg h, if_pos (by omega)]
theorem uint64_to (x : Int) (h0 : 0 ≤ x) (h1 : x < 18446744073709551616) : word_To_uint64_uint64.f x = some (if x < 18446744073709551616 then (x, true) else (0, false)) := by
  unfold word_To_uint64_uint64.f
  rw [if_pos rfl, if_pos h1]
theorem uint64_mul (a b : Int) (ha0 : 0 ≤ a) (ha : a < 18446744073709551616) (hb0 : 0 ≤ b) (hb : b < 18446744073709551616) : word_Mul_uint64.f a b = some (if a * b < 18446744073709551616 then (a * b, true) else (0, false)) := by
  unfold word_Mul_uint64.f
  rw [mul64 a b ha0 (by omega) hb0 (by omega)]
  have hp : 0 ≤ a * b := Int.mul_nonneg ha0 hb0
  simp only [Option.bind_some]
  generalize a * b = c at *
  by_cases h : c / 18446744073709551616 = 0
  · rw [if_pos h, show c % 18446744073709551616 = c by omega, uint64_to c hp (by omega)]
    simp only [Option.bind_some]
  · rw [if_neg h, if_neg (by omega)]
theorem uint64_up0 (a : Int) : word_Up_uint64.f a 0 = some (0, false) := by
  unfold word_Up_uint64.f
  rw [if_pos rfl]
theorem uint64_up (a b : Int) (ha0 : 0 ≤ a) (ha : a < 18446744073709551616) (hb0 : 0 ≤ b) (hb : b < 18446744073709551616) (hp : 0 < b) : word_Up_uint64.f a b = some (if a % b = 0 then (a, true) else if a - a % b + b < 18446744073709551616 then (a - a % b + b, true) else (0, false)) := by
  obtain ⟨h1, h2, h3⟩ := up_bounds a b ha0 hp
  unfold word_Up_uint64.f
  rw [if_neg (by omega), Int.tmod_eq_emod_of_nonneg ha0]
  by_cases h : a % b = 0
  · rw [if_pos h, if_pos h]
  · rw [if_neg h, if_neg h]
    try simp only [wu64, wu64]
    rw [show (a - a % b) % 18446744073709551616 = a - a % b by omega, uint64_add (a - a % b) b (by omega) (by omega) hb0 hb]
    simp only [Option.bind_some]
theorem uint64_j3 (a : Int) (ha0 : 0 ≤ a) (ha : a < 18446744073709551616) (k : Nat) : bulkheadlaw1_kin_uint64.j3 (k + 1) a false = some true := by
  simp only [bulkheadlaw1_kin_uint64.j3]
  rw [uint64_up0, uint64_up a 1 ha0 ha (by omega) (by omega) (by omega), if_pos (Int.emod_one a)]
  simp
theorem uint64_j2 (a b : Int) (ha0 : 0 ≤ a) (ha : a < 18446744073709551616) (hb0 : 0 ≤ b) (hb : b < 18446744073709551616) (k : Nat) : bulkheadlaw1_kin_uint64.j2 (k + 2) a b false = some true := by
  simp only [bulkheadlaw1_kin_uint64.j2]
  rw [if_neg (by simp)]
  by_cases hp : 0 < b
  · obtain ⟨h1, h2, h3⟩ := up_bounds a b ha0 hp
    have h4 := up_mod a b
    rw [uint64_up a b ha0 ha hb0 hb hp]
    simp only [Option.bind_some]
    by_cases h : a % b = 0
    · simp only [if_pos h, if_true]
      rw [if_neg (by omega)]
      try simp only [wu64, wu64]
      rw [if_neg (by omega), if_neg (by omega), Int.tmod_eq_emod_of_nonneg ha0, h]
      exact uint64_j3 a ha0 ha k
    · simp only [if_neg h]
      by_cases hs : a - a % b + b < 18446744073709551616
      · simp only [if_pos hs, if_true]
        rw [if_neg (by omega)]
        try simp only [wu64, wu64]
        rw [if_neg (by omega), if_neg (by omega), Int.tmod_eq_emod_of_nonneg (by omega), h4]
        exact uint64_j3 a ha0 ha k
      · simp only [if_neg hs]
        exact uint64_j3 a ha0 ha k
  · obtain rfl : b = 0 := by omega
    rw [uint64_up0]
    exact uint64_j3 a ha0 ha k
theorem uint64_j1 (a b : Int) (ha0 : 0 ≤ a) (ha : a < 18446744073709551616) (hb0 : 0 ≤ b) (hb : b < 18446744073709551616) (k : Nat) : bulkheadlaw1_kin_uint64.j1 (k + 3) a b = some true := by
  simp only [bulkheadlaw1_kin_uint64.j1]
  rw [uint64_mul a b ha0 ha hb0 hb]
  simp only [Option.bind_some]
  by_cases h : a * b < 18446744073709551616
  · simp only [if_pos h, if_true]
    by_cases hp : 0 < b
    · have hq : 0 ≤ a * b := Int.mul_nonneg ha0 hb0
      rw [if_pos hp, if_neg (by omega), Int.tdiv_eq_ediv_of_nonneg hq, Int.tmod_eq_emod_of_nonneg hq, Int.mul_ediv_cancel a (by omega), Int.mul_emod_left]
      try simp only [wu64, wu64]
      rw [if_pos (by omega)]
      exact uint64_j2 a b ha0 ha hb0 hb k
    · rw [if_neg hp]
      exact uint64_j2 a b ha0 ha hb0 hb k
  · simp only [if_neg h]
    exact uint64_j2 a b ha0 ha hb0 hb k
theorem uint64_j0 (a b : Int) (ha0 : 0 ≤ a) (ha : a < 18446744073709551616) (hb0 : 0 ≤ b) (hb : b < 18446744073709551616) (k : Nat) : bulkheadlaw1_kin_uint64.j0 (k + 4) a b = some true := by
  simp only [bulkheadlaw1_kin_uint64.j0]
  rw [uint64_sub a b ha0 ha hb0 hb]
  simp only [Option.bind_some]
  by_cases h : b ≤ a
  · simp only [if_pos h]
    rw [if_neg (by simp [h]), if_pos trivial, uint64_add (a - b) b (by omega) (by omega) hb0 hb, if_pos (by omega)]
    simp only [Option.bind_some]
    rw [if_pos trivial, if_pos (by omega)]
    exact uint64_j1 a b ha0 ha hb0 hb k
  · simp only [if_neg h]
    rw [if_neg (by simp [h])]
    exact uint64_j1 a b ha0 ha hb0 hb k
theorem uint64_kin (a b : Int) (ha0 : 0 ≤ a) (ha : a < 18446744073709551616) (hb0 : 0 ≤ b) (hb : b < 18446744073709551616) (k : Nat) : bulkheadlaw1_kin_uint64.f (k + 4) a b = some true := by
  unfold bulkheadlaw1_kin_uint64.f
  rw [uint64_add a b ha0 ha hb0 hb]
  simp only [Option.bind_some]
  by_cases h : a + b < 18446744073709551616
  · simp only [if_pos h, if_true]
    rw [uint64_sub (a + b) b (by omega) h hb0 hb, if_pos (by omega)]
    simp only [Option.bind_some]
    rw [if_pos trivial, if_pos (by omega), if_neg (by omega)]
    exact uint64_j0 a b ha0 ha hb0 hb k
  · simp only [if_neg h]
    exact uint64_j0 a b ha0 ha hb0 hb k
end Kin

namespace Kin
theorem tiny_add (a b : Int) (ha0 : 0 ≤ a) (ha : a < 256) (hb0 : 0 ≤ b) (hb : b < 256) : bulkheadlaw1_Tiny_73.f a b = some (if a + b < 256 then (a + b, true) else (0, false)) := by
  unfold bulkheadlaw1_Tiny_73.f
  simp only [ge_iff_le]
  by_cases h : a + b < 256
  · rw [if_pos h, if_pos (by omega), show (a + b) % 256 = a + b by omega]
  · rw [if_neg h, if_neg (by omega)]
theorem tiny_sub (a b : Int) (ha0 : 0 ≤ a) (ha : a < 256) (hb0 : 0 ≤ b) (hb : b < 256) : bulkheadlaw1_Tiny_74.f a b = some (if b ≤ a then (a - b, true) else (0, false)) := by
  unfold bulkheadlaw1_Tiny_74.f
  simp only [gt_iff_lt]
  by_cases h : b ≤ a
  · rw [if_pos h, if_neg (by omega), show (a - b) % 256 = a - b by omega]
  · rw [if_neg h, if_pos (by omega)]
theorem tiny_to (x : Int) (h0 : 0 ≤ x) (h1 : x < 18446744073709551616) : bulkheadlaw1_Tiny_uint64.f x = some (if x < 256 then (x, true) else (0, false)) := by
  unfold bulkheadlaw1_Tiny_uint64.f
  try simp only [wu64]
  by_cases h : x < 256
  · rw [if_pos h, if_pos (by omega), show x % 256 = x by omega]
  · rw [if_neg h, if_neg (by omega)]
theorem tiny_mul (a b : Int) (ha0 : 0 ≤ a) (ha : a < 256) (hb0 : 0 ≤ b) (hb : b < 256) : bulkheadlaw1_Tiny_75.f a b = some (if a * b < 256 then (a * b, true) else (0, false)) := by
  unfold bulkheadlaw1_Tiny_75.f
  rw [show IntKind.u64.wrap a = a by rw [wu64]; omega, show IntKind.u64.wrap b = b by rw [wu64]; omega]
  rw [mul64 a b ha0 (by omega) hb0 (by omega)]
  have hp : 0 ≤ a * b := Int.mul_nonneg ha0 hb0
  simp only [Option.bind_some]
  generalize a * b = c at *
  by_cases h : c / 18446744073709551616 = 0
  · rw [if_pos h, show c % 18446744073709551616 = c by omega, tiny_to c hp (by omega)]
    simp only [Option.bind_some]
  · rw [if_neg h, if_neg (by omega)]
theorem tiny_up0 (a : Int) : bulkheadlaw1_Tiny_76.f a 0 = some (0, false) := by
  unfold bulkheadlaw1_Tiny_76.f
  rw [if_pos rfl]
theorem tiny_up (a b : Int) (ha0 : 0 ≤ a) (ha : a < 256) (hb0 : 0 ≤ b) (hb : b < 256) (hp : 0 < b) : bulkheadlaw1_Tiny_76.f a b = some (if a % b = 0 then (a, true) else if a - a % b + b < 256 then (a - a % b + b, true) else (0, false)) := by
  obtain ⟨h1, h2, h3⟩ := up_bounds a b ha0 hp
  unfold bulkheadlaw1_Tiny_76.f
  rw [if_neg (by omega), Int.tmod_eq_emod_of_nonneg ha0]
  by_cases h : a % b = 0
  · rw [if_pos h, if_pos h]
  · rw [if_neg h, if_neg h]
    try simp only [wu64]
    rw [show (a - a % b) % 256 = a - a % b by omega, tiny_add (a - a % b) b (by omega) (by omega) hb0 hb]
    simp only [Option.bind_some]
theorem tiny_j3 (a : Int) (ha0 : 0 ≤ a) (ha : a < 256) (k : Nat) : bulkheadlaw1_Tiny_24.j3 (k + 1) a false = some true := by
  simp only [bulkheadlaw1_Tiny_24.j3]
  rw [tiny_up0, tiny_up a 1 ha0 ha (by omega) (by omega) (by omega), if_pos (Int.emod_one a)]
  simp
theorem tiny_j2 (a b : Int) (ha0 : 0 ≤ a) (ha : a < 256) (hb0 : 0 ≤ b) (hb : b < 256) (k : Nat) : bulkheadlaw1_Tiny_24.j2 (k + 2) a b false = some true := by
  simp only [bulkheadlaw1_Tiny_24.j2]
  rw [if_neg (by simp)]
  by_cases hp : 0 < b
  · obtain ⟨h1, h2, h3⟩ := up_bounds a b ha0 hp
    have h4 := up_mod a b
    rw [tiny_up a b ha0 ha hb0 hb hp]
    simp only [Option.bind_some]
    by_cases h : a % b = 0
    · simp only [if_pos h, if_true]
      rw [if_neg (by omega)]
      try simp only [wu64]
      rw [if_neg (by omega), if_neg (by omega), Int.tmod_eq_emod_of_nonneg ha0, h]
      exact tiny_j3 a ha0 ha k
    · simp only [if_neg h]
      by_cases hs : a - a % b + b < 256
      · simp only [if_pos hs, if_true]
        rw [if_neg (by omega)]
        try simp only [wu64]
        rw [if_neg (by omega), if_neg (by omega), Int.tmod_eq_emod_of_nonneg (by omega), h4]
        exact tiny_j3 a ha0 ha k
      · simp only [if_neg hs]
        exact tiny_j3 a ha0 ha k
  · obtain rfl : b = 0 := by omega
    rw [tiny_up0]
    exact tiny_j3 a ha0 ha k
theorem tiny_j1 (a b : Int) (ha0 : 0 ≤ a) (ha : a < 256) (hb0 : 0 ≤ b) (hb : b < 256) (k : Nat) : bulkheadlaw1_Tiny_24.j1 (k + 3) a b = some true := by
  simp only [bulkheadlaw1_Tiny_24.j1]
  rw [tiny_mul a b ha0 ha hb0 hb]
  simp only [Option.bind_some]
  by_cases h : a * b < 256
  · simp only [if_pos h, if_true]
    by_cases hp : 0 < b
    · have hq : 0 ≤ a * b := Int.mul_nonneg ha0 hb0
      rw [if_pos hp, if_neg (by omega), Int.tdiv_eq_ediv_of_nonneg hq, Int.tmod_eq_emod_of_nonneg hq, Int.mul_ediv_cancel a (by omega), Int.mul_emod_left]
      try simp only [wu64]
      rw [if_pos (by omega)]
      exact tiny_j2 a b ha0 ha hb0 hb k
    · rw [if_neg hp]
      exact tiny_j2 a b ha0 ha hb0 hb k
  · simp only [if_neg h]
    exact tiny_j2 a b ha0 ha hb0 hb k
theorem tiny_j0 (a b : Int) (ha0 : 0 ≤ a) (ha : a < 256) (hb0 : 0 ≤ b) (hb : b < 256) (k : Nat) : bulkheadlaw1_Tiny_24.j0 (k + 4) a b = some true := by
  simp only [bulkheadlaw1_Tiny_24.j0]
  rw [tiny_sub a b ha0 ha hb0 hb]
  simp only [Option.bind_some]
  by_cases h : b ≤ a
  · simp only [if_pos h]
    rw [if_neg (by simp [h]), if_pos trivial, tiny_add (a - b) b (by omega) (by omega) hb0 hb, if_pos (by omega)]
    simp only [Option.bind_some]
    rw [if_pos trivial, if_pos (by omega)]
    exact tiny_j1 a b ha0 ha hb0 hb k
  · simp only [if_neg h]
    rw [if_neg (by simp [h])]
    exact tiny_j1 a b ha0 ha hb0 hb k
theorem tiny_kin (a b : Int) (ha0 : 0 ≤ a) (ha : a < 256) (hb0 : 0 ≤ b) (hb : b < 256) (k : Nat) : bulkheadlaw1_Tiny_24.f (k + 4) a b = some true := by
  unfold bulkheadlaw1_Tiny_24.f
  rw [tiny_add a b ha0 ha hb0 hb]
  simp only [Option.bind_some]
  by_cases h : a + b < 256
  · simp only [if_pos h, if_true]
    rw [tiny_sub (a + b) b (by omega) h hb0 hb, if_pos (by omega)]
    simp only [Option.bind_some]
    rw [if_pos trivial, if_pos (by omega), if_neg (by omega)]
    exact tiny_j0 a b ha0 ha hb0 hb k
  · simp only [if_neg h]
    exact tiny_j0 a b ha0 ha hb0 hb k
end Kin

namespace Kin
theorem great_add (a b : Int) (ha0 : 0 ≤ a) (ha : a < 18446744073709551616) (hb0 : 0 ≤ b) (hb : b < 18446744073709551616) : bulkheadlaw1_Great_77.f a b = some (if a + b < 18446744073709551616 then (a + b, true) else (0, false)) := by
  unfold bulkheadlaw1_Great_77.f
  simp only [wu64, ge_iff_le]
  by_cases h : a + b < 18446744073709551616
  · rw [if_pos h, if_pos (by omega), show (a + b) % 18446744073709551616 = a + b by omega]
  · rw [if_neg h, if_neg (by omega)]
theorem great_sub (a b : Int) (ha0 : 0 ≤ a) (ha : a < 18446744073709551616) (hb0 : 0 ≤ b) (hb : b < 18446744073709551616) : bulkheadlaw1_Great_78.f a b = some (if b ≤ a then (a - b, true) else (0, false)) := by
  unfold bulkheadlaw1_Great_78.f
  simp only [wu64, gt_iff_lt]
  by_cases h : b ≤ a
  · rw [if_pos h, if_neg (by omega), show (a - b) % 18446744073709551616 = a - b by omega]
  · rw [if_neg h, if_pos (by omega)]
theorem great_to (x : Int) (h0 : 0 ≤ x) (h1 : x < 18446744073709551616) : bulkheadlaw1_Great_uint64.f x = some (if x < 18446744073709551616 then (x, true) else (0, false)) := by
  unfold bulkheadlaw1_Great_uint64.f
  rw [if_pos rfl, if_pos h1]
theorem great_mul (a b : Int) (ha0 : 0 ≤ a) (ha : a < 18446744073709551616) (hb0 : 0 ≤ b) (hb : b < 18446744073709551616) : bulkheadlaw1_Great_79.f a b = some (if a * b < 18446744073709551616 then (a * b, true) else (0, false)) := by
  unfold bulkheadlaw1_Great_79.f
  rw [mul64 a b ha0 (by omega) hb0 (by omega)]
  have hp : 0 ≤ a * b := Int.mul_nonneg ha0 hb0
  simp only [Option.bind_some]
  generalize a * b = c at *
  by_cases h : c / 18446744073709551616 = 0
  · rw [if_pos h, show c % 18446744073709551616 = c by omega, great_to c hp (by omega)]
    simp only [Option.bind_some]
  · rw [if_neg h, if_neg (by omega)]
theorem great_up0 (a : Int) : bulkheadlaw1_Great_80.f a 0 = some (0, false) := by
  unfold bulkheadlaw1_Great_80.f
  rw [if_pos rfl]
theorem great_up (a b : Int) (ha0 : 0 ≤ a) (ha : a < 18446744073709551616) (hb0 : 0 ≤ b) (hb : b < 18446744073709551616) (hp : 0 < b) : bulkheadlaw1_Great_80.f a b = some (if a % b = 0 then (a, true) else if a - a % b + b < 18446744073709551616 then (a - a % b + b, true) else (0, false)) := by
  obtain ⟨h1, h2, h3⟩ := up_bounds a b ha0 hp
  unfold bulkheadlaw1_Great_80.f
  rw [if_neg (by omega), Int.tmod_eq_emod_of_nonneg ha0]
  by_cases h : a % b = 0
  · rw [if_pos h, if_pos h]
  · rw [if_neg h, if_neg h]
    try simp only [wu64, wu64]
    rw [show (a - a % b) % 18446744073709551616 = a - a % b by omega, great_add (a - a % b) b (by omega) (by omega) hb0 hb]
    simp only [Option.bind_some]
theorem great_j3 (a : Int) (ha0 : 0 ≤ a) (ha : a < 18446744073709551616) (k : Nat) : bulkheadlaw1_Great_25.j3 (k + 1) a false = some true := by
  simp only [bulkheadlaw1_Great_25.j3]
  rw [great_up0, great_up a 1 ha0 ha (by omega) (by omega) (by omega), if_pos (Int.emod_one a)]
  simp
theorem great_j2 (a b : Int) (ha0 : 0 ≤ a) (ha : a < 18446744073709551616) (hb0 : 0 ≤ b) (hb : b < 18446744073709551616) (k : Nat) : bulkheadlaw1_Great_25.j2 (k + 2) a b false = some true := by
  simp only [bulkheadlaw1_Great_25.j2]
  rw [if_neg (by simp)]
  by_cases hp : 0 < b
  · obtain ⟨h1, h2, h3⟩ := up_bounds a b ha0 hp
    have h4 := up_mod a b
    rw [great_up a b ha0 ha hb0 hb hp]
    simp only [Option.bind_some]
    by_cases h : a % b = 0
    · simp only [if_pos h, if_true]
      rw [if_neg (by omega)]
      try simp only [wu64, wu64]
      rw [if_neg (by omega), if_neg (by omega), Int.tmod_eq_emod_of_nonneg ha0, h]
      exact great_j3 a ha0 ha k
    · simp only [if_neg h]
      by_cases hs : a - a % b + b < 18446744073709551616
      · simp only [if_pos hs, if_true]
        rw [if_neg (by omega)]
        try simp only [wu64, wu64]
        rw [if_neg (by omega), if_neg (by omega), Int.tmod_eq_emod_of_nonneg (by omega), h4]
        exact great_j3 a ha0 ha k
      · simp only [if_neg hs]
        exact great_j3 a ha0 ha k
  · obtain rfl : b = 0 := by omega
    rw [great_up0]
    exact great_j3 a ha0 ha k
theorem great_j1 (a b : Int) (ha0 : 0 ≤ a) (ha : a < 18446744073709551616) (hb0 : 0 ≤ b) (hb : b < 18446744073709551616) (k : Nat) : bulkheadlaw1_Great_25.j1 (k + 3) a b = some true := by
  simp only [bulkheadlaw1_Great_25.j1]
  rw [great_mul a b ha0 ha hb0 hb]
  simp only [Option.bind_some]
  by_cases h : a * b < 18446744073709551616
  · simp only [if_pos h, if_true]
    by_cases hp : 0 < b
    · have hq : 0 ≤ a * b := Int.mul_nonneg ha0 hb0
      rw [if_pos hp, if_neg (by omega), Int.tdiv_eq_ediv_of_nonneg hq, Int.tmod_eq_emod_of_nonneg hq, Int.mul_ediv_cancel a (by omega), Int.mul_emod_left]
      try simp only [wu64, wu64]
      rw [if_pos (by omega)]
      exact great_j2 a b ha0 ha hb0 hb k
    · rw [if_neg hp]
      exact great_j2 a b ha0 ha hb0 hb k
  · simp only [if_neg h]
    exact great_j2 a b ha0 ha hb0 hb k
theorem great_j0 (a b : Int) (ha0 : 0 ≤ a) (ha : a < 18446744073709551616) (hb0 : 0 ≤ b) (hb : b < 18446744073709551616) (k : Nat) : bulkheadlaw1_Great_25.j0 (k + 4) a b = some true := by
  simp only [bulkheadlaw1_Great_25.j0]
  rw [great_sub a b ha0 ha hb0 hb]
  simp only [Option.bind_some]
  by_cases h : b ≤ a
  · simp only [if_pos h]
    rw [if_neg (by simp [h]), if_pos trivial, great_add (a - b) b (by omega) (by omega) hb0 hb, if_pos (by omega)]
    simp only [Option.bind_some]
    rw [if_pos trivial, if_pos (by omega)]
    exact great_j1 a b ha0 ha hb0 hb k
  · simp only [if_neg h]
    rw [if_neg (by simp [h])]
    exact great_j1 a b ha0 ha hb0 hb k
theorem great_kin (a b : Int) (ha0 : 0 ≤ a) (ha : a < 18446744073709551616) (hb0 : 0 ≤ b) (hb : b < 18446744073709551616) (k : Nat) : bulkheadlaw1_Great_25.f (k + 4) a b = some true := by
  unfold bulkheadlaw1_Great_25.f
  rw [great_add a b ha0 ha hb0 hb]
  simp only [Option.bind_some]
  by_cases h : a + b < 18446744073709551616
  · simp only [if_pos h, if_true]
    rw [great_sub (a + b) b (by omega) h hb0 hb, if_pos (by omega)]
    simp only [Option.bind_some]
    rw [if_pos trivial, if_pos (by omega), if_neg (by omega)]
    exact great_j0 a b ha0 ha hb0 hb k
  · simp only [if_neg h]
    exact great_j0 a b ha0 ha hb0 hb k
end Kin

open Kin in
theorem WordKin : bulkheadlaw1_WordKin.Pure := by
  intro a b ha hb
  have hA : 0 ≤ a ∧ a ≤ 18446744073709551615 := by simpa [Lit.wf, IntKind.min, IntKind.max, IntKind.bits, IntKind.signed] using ha
  have hB : 0 ≤ b ∧ b ≤ 18446744073709551615 := by simpa [Lit.wf, IntKind.min, IntKind.max, IntKind.bits, IntKind.signed] using hb
  obtain ⟨ha0, ha1⟩ := hA
  obtain ⟨hb0, hb1⟩ := hB
  replace ha1 : a < 18446744073709551616 := by omega
  replace hb1 : b < 18446744073709551616 := by omega
  refine ⟨5, ?_⟩
  unfold bulkheadlaw1_WordKin.f
  rw [uint8_add 200 55 (by decide) (by decide) (by decide) (by decide), uint8_add 200 56 (by decide) (by decide) (by decide) (by decide)]
  simp only [Option.bind_some]
  have e : bulkheadlaw1_WordKin.j0 5 a b false = some true := by
    simp only [bulkheadlaw1_WordKin.j0]
    rw [if_neg (by simp), uint8_kin (a % 256) (b % 256) (by omega) (by omega) (by omega) (by omega) 0]
    simp only [wu16]
    rw [uint16_kin (a % 65536) (b % 65536) (by omega) (by omega) (by omega) (by omega) 0, uint32_kin (a % 4294967296) (b % 4294967296) (by omega) (by omega) (by omega) (by omega) 0, uint64_kin a b ha0 ha1 hb0 hb1 0, tiny_kin (a % 256) (b % 256) (by omega) (by omega) (by omega) (by omega) 0, great_kin a b ha0 ha1 hb0 hb1 0]
    rfl
  simp [e]

end Go.Proofs.Ythdjddpomaendaa.Pure
