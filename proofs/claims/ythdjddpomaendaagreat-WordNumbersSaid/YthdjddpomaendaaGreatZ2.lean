/- Add, Sub, To, Mul, Up of each type. Printed by gen_sums.py. -/
import Derived.Test.YthdjddpomaendaaGreatZ1
namespace Go.Proofs.YthdjddpomaendaaGreat.B
open Go.RowKit
set_option linter.unusedVariables false
set_option linter.unusedSimpArgs false

set_option maxHeartbeats 1600000 in
set_option maxRecDepth 100000 in
theorem to_uint8_uint8 (a : Nat) (w : World) (ha : a < 256) : Calls Tryz.prog 52 #[.int .u8 (a : Int)] w fun e w' => e = .returned (.tuple #[.int .u8 ((toV 256 a : Nat) : Int), .bool (toO 256 a)]) ∧ w' = w := by
  have HE := Lib.hid (show toV 256 a = a ∧ toO 256 a = true from ⟨if_pos (by omega), decide_eq_true (by omega)⟩)
  have w1 : (a : Int) % 256 = (a : Int) := by omega
  have w3 : IntKind.u64.wrap (a : Int) = (a : Int) := by rw [wu64]; omega
  go_enter Tryz.func52, Tryz.ntmps52
  go_wp2_with fail
  go_ret2
  exact ⟨ret_two (by rw [HE.out.1]) HE.out.2.symm, rfl⟩
set_option maxHeartbeats 1600000 in
set_option maxRecDepth 100000 in
theorem to_uint16_uint8 (a : Nat) (w : World) (ha : a < 256) : Calls Tryz.prog 54 #[.int .u8 (a : Int)] w fun e w' => e = .returned (.tuple #[.int .u16 ((toV 65536 a : Nat) : Int), .bool (toO 65536 a)]) ∧ w' = w := by
  have HE := Lib.hid (show toV 65536 a = a ∧ toO 65536 a = true from ⟨if_pos (by omega), decide_eq_true (by omega)⟩)
  have w1 : IntKind.u16.wrap (a : Int) = (a : Int) := by rw [wu16]; omega
  have w3 : IntKind.u64.wrap (a : Int) = (a : Int) := by rw [wu64]; omega
  go_enter Tryz.func54, Tryz.ntmps54
  go_wp2_with fail
  go_ret2
  exact ⟨ret_two (by rw [HE.out.1]) HE.out.2.symm, rfl⟩
set_option maxHeartbeats 1600000 in
set_option maxRecDepth 100000 in
theorem to_uint32_uint8 (a : Nat) (w : World) (ha : a < 256) : Calls Tryz.prog 55 #[.int .u8 (a : Int)] w fun e w' => e = .returned (.tuple #[.int .u32 ((toV 4294967296 a : Nat) : Int), .bool (toO 4294967296 a)]) ∧ w' = w := by
  have HE := Lib.hid (show toV 4294967296 a = a ∧ toO 4294967296 a = true from ⟨if_pos (by omega), decide_eq_true (by omega)⟩)
  have w1 : (a : Int) % 4294967296 = (a : Int) := by omega
  have w3 : IntKind.u64.wrap (a : Int) = (a : Int) := by rw [wu64]; omega
  go_enter Tryz.func55, Tryz.ntmps55
  go_wp2_with fail
  go_ret2
  exact ⟨ret_two (by rw [HE.out.1]) HE.out.2.symm, rfl⟩
set_option maxHeartbeats 1600000 in
set_option maxRecDepth 100000 in
theorem to_uint64_uint8 (a : Nat) (w : World) (ha : a < 256) : Calls Tryz.prog 56 #[.int .u8 (a : Int)] w fun e w' => e = .returned (.tuple #[.int .u64 ((toV 18446744073709551616 a : Nat) : Int), .bool (toO 18446744073709551616 a)]) ∧ w' = w := by
  have HE := Lib.hid (show toV 18446744073709551616 a = a ∧ toO 18446744073709551616 a = true from ⟨if_pos (by omega), decide_eq_true (by omega)⟩)
  have w3 : IntKind.u64.wrap (a : Int) = (a : Int) := by rw [wu64]; omega
  go_enter Tryz.func56, Tryz.ntmps56
  go_wp2_with fail
  go_ret2
  exact ⟨ret_two (by rw [HE.out.1]) HE.out.2.symm, rfl⟩
set_option maxHeartbeats 1600000 in
set_option maxRecDepth 100000 in
theorem to_Small_uint8 (a : Nat) (w : World) (ha : a < 256) : Calls Tryz.prog 57 #[.int .u8 (a : Int)] w fun e w' => e = .returned (.tuple #[.int .u16 ((toV 65536 a : Nat) : Int), .bool (toO 65536 a)]) ∧ w' = w := by
  have HE := Lib.hid (show toV 65536 a = a ∧ toO 65536 a = true from ⟨if_pos (by omega), decide_eq_true (by omega)⟩)
  have w1 : IntKind.u16.wrap (a : Int) = (a : Int) := by rw [wu16]; omega
  have w3 : IntKind.u64.wrap (a : Int) = (a : Int) := by rw [wu64]; omega
  go_enter Tryz.func57, Tryz.ntmps57
  go_wp2_with fail
  go_ret2
  exact ⟨ret_two (by rw [HE.out.1]) HE.out.2.symm, rfl⟩
set_option maxHeartbeats 1600000 in
set_option maxRecDepth 100000 in
theorem to_uint8_uint16 (a : Nat) (w : World) (ha : a < 65536) : Calls Tryz.prog 58 #[.int .u16 (a : Int)] w fun e w' => e = .returned (.tuple #[.int .u8 ((toV 256 a : Nat) : Int), .bool (toO 256 a)]) ∧ w' = w := by
  by_cases h : a < 256
  · have HE := Lib.hid (show toV 256 a = a ∧ toO 256 a = true from ⟨if_pos (by omega), decide_eq_true (by omega)⟩)
    have w1 : (a : Int) % 256 = (a : Int) := by omega
    have w3 : IntKind.u64.wrap (a : Int) = (a : Int) := by rw [wu64]; omega
    go_enter Tryz.func58, Tryz.ntmps58
    go_wp2_with fail
    go_ret2
    exact ⟨ret_two (by rw [HE.out.1]) HE.out.2.symm, rfl⟩
  · have HE := Lib.hid (show toV 256 a = 0 ∧ toO 256 a = false from ⟨if_neg h, decide_eq_false h⟩)
    obtain ⟨c, hc, hcl⟩ : ∃ c : Nat, ((a : Int)) % 256 = (c : Int) ∧ c < a := ⟨a % 256, by omega, by omega⟩
    have w2 : IntKind.u64.wrap (c : Int) = (c : Int) := by rw [wu64]; omega
    have t1 : (((c : Nat) : Int) != (a : Int)) = true := by rw [bne_iff_ne]; omega
    have t2 : ((c : Nat) != a) = true := by rw [bne_iff_ne]; omega
    have t3 : (c == a) = false := by rw [beq_eq_false_iff_ne]; omega
    have w3 : IntKind.u64.wrap (a : Int) = (a : Int) := by rw [wu64]; omega
    clear h
    go_enter Tryz.func58, Tryz.ntmps58
    go_wp2_with fail
    go_ret2
    exact ⟨ret_two (by rw [HE.out.1]; rfl) HE.out.2.symm, rfl⟩
set_option maxHeartbeats 1600000 in
set_option maxRecDepth 100000 in
theorem to_uint16_uint16 (a : Nat) (w : World) (ha : a < 65536) : Calls Tryz.prog 59 #[.int .u16 (a : Int)] w fun e w' => e = .returned (.tuple #[.int .u16 ((toV 65536 a : Nat) : Int), .bool (toO 65536 a)]) ∧ w' = w := by
  have HE := Lib.hid (show toV 65536 a = a ∧ toO 65536 a = true from ⟨if_pos (by omega), decide_eq_true (by omega)⟩)
  have w1 : IntKind.u16.wrap (a : Int) = (a : Int) := by rw [wu16]; omega
  have w3 : IntKind.u64.wrap (a : Int) = (a : Int) := by rw [wu64]; omega
  go_enter Tryz.func59, Tryz.ntmps59
  go_wp2_with fail
  go_ret2
  exact ⟨ret_two (by rw [HE.out.1]) HE.out.2.symm, rfl⟩
set_option maxHeartbeats 1600000 in
set_option maxRecDepth 100000 in
theorem to_uint32_uint16 (a : Nat) (w : World) (ha : a < 65536) : Calls Tryz.prog 60 #[.int .u16 (a : Int)] w fun e w' => e = .returned (.tuple #[.int .u32 ((toV 4294967296 a : Nat) : Int), .bool (toO 4294967296 a)]) ∧ w' = w := by
  have HE := Lib.hid (show toV 4294967296 a = a ∧ toO 4294967296 a = true from ⟨if_pos (by omega), decide_eq_true (by omega)⟩)
  have w1 : (a : Int) % 4294967296 = (a : Int) := by omega
  have w3 : IntKind.u64.wrap (a : Int) = (a : Int) := by rw [wu64]; omega
  go_enter Tryz.func60, Tryz.ntmps60
  go_wp2_with fail
  go_ret2
  exact ⟨ret_two (by rw [HE.out.1]) HE.out.2.symm, rfl⟩
set_option maxHeartbeats 1600000 in
set_option maxRecDepth 100000 in
theorem to_uint64_uint16 (a : Nat) (w : World) (ha : a < 65536) : Calls Tryz.prog 61 #[.int .u16 (a : Int)] w fun e w' => e = .returned (.tuple #[.int .u64 ((toV 18446744073709551616 a : Nat) : Int), .bool (toO 18446744073709551616 a)]) ∧ w' = w := by
  have HE := Lib.hid (show toV 18446744073709551616 a = a ∧ toO 18446744073709551616 a = true from ⟨if_pos (by omega), decide_eq_true (by omega)⟩)
  have w3 : IntKind.u64.wrap (a : Int) = (a : Int) := by rw [wu64]; omega
  go_enter Tryz.func61, Tryz.ntmps61
  go_wp2_with fail
  go_ret2
  exact ⟨ret_two (by rw [HE.out.1]) HE.out.2.symm, rfl⟩
set_option maxHeartbeats 1600000 in
set_option maxRecDepth 100000 in
theorem to_Small_uint16 (a : Nat) (w : World) (ha : a < 65536) : Calls Tryz.prog 62 #[.int .u16 (a : Int)] w fun e w' => e = .returned (.tuple #[.int .u16 ((toV 65536 a : Nat) : Int), .bool (toO 65536 a)]) ∧ w' = w := by
  have HE := Lib.hid (show toV 65536 a = a ∧ toO 65536 a = true from ⟨if_pos (by omega), decide_eq_true (by omega)⟩)
  have w1 : IntKind.u16.wrap (a : Int) = (a : Int) := by rw [wu16]; omega
  have w3 : IntKind.u64.wrap (a : Int) = (a : Int) := by rw [wu64]; omega
  go_enter Tryz.func62, Tryz.ntmps62
  go_wp2_with fail
  go_ret2
  exact ⟨ret_two (by rw [HE.out.1]) HE.out.2.symm, rfl⟩
set_option maxHeartbeats 1600000 in
set_option maxRecDepth 100000 in
theorem to_uint8_uint32 (a : Nat) (w : World) (ha : a < 4294967296) : Calls Tryz.prog 63 #[.int .u32 (a : Int)] w fun e w' => e = .returned (.tuple #[.int .u8 ((toV 256 a : Nat) : Int), .bool (toO 256 a)]) ∧ w' = w := by
  by_cases h : a < 256
  · have HE := Lib.hid (show toV 256 a = a ∧ toO 256 a = true from ⟨if_pos (by omega), decide_eq_true (by omega)⟩)
    have w1 : (a : Int) % 256 = (a : Int) := by omega
    have w3 : IntKind.u64.wrap (a : Int) = (a : Int) := by rw [wu64]; omega
    go_enter Tryz.func63, Tryz.ntmps63
    go_wp2_with fail
    go_ret2
    exact ⟨ret_two (by rw [HE.out.1]) HE.out.2.symm, rfl⟩
  · have HE := Lib.hid (show toV 256 a = 0 ∧ toO 256 a = false from ⟨if_neg h, decide_eq_false h⟩)
    obtain ⟨c, hc, hcl⟩ : ∃ c : Nat, ((a : Int)) % 256 = (c : Int) ∧ c < a := ⟨a % 256, by omega, by omega⟩
    have w2 : IntKind.u64.wrap (c : Int) = (c : Int) := by rw [wu64]; omega
    have t1 : (((c : Nat) : Int) != (a : Int)) = true := by rw [bne_iff_ne]; omega
    have t2 : ((c : Nat) != a) = true := by rw [bne_iff_ne]; omega
    have t3 : (c == a) = false := by rw [beq_eq_false_iff_ne]; omega
    have w3 : IntKind.u64.wrap (a : Int) = (a : Int) := by rw [wu64]; omega
    clear h
    go_enter Tryz.func63, Tryz.ntmps63
    go_wp2_with fail
    go_ret2
    exact ⟨ret_two (by rw [HE.out.1]; rfl) HE.out.2.symm, rfl⟩
set_option maxHeartbeats 1600000 in
set_option maxRecDepth 100000 in
theorem to_uint16_uint32 (a : Nat) (w : World) (ha : a < 4294967296) : Calls Tryz.prog 64 #[.int .u32 (a : Int)] w fun e w' => e = .returned (.tuple #[.int .u16 ((toV 65536 a : Nat) : Int), .bool (toO 65536 a)]) ∧ w' = w := by
  by_cases h : a < 65536
  · have HE := Lib.hid (show toV 65536 a = a ∧ toO 65536 a = true from ⟨if_pos (by omega), decide_eq_true (by omega)⟩)
    have w1 : IntKind.u16.wrap (a : Int) = (a : Int) := by rw [wu16]; omega
    have w3 : IntKind.u64.wrap (a : Int) = (a : Int) := by rw [wu64]; omega
    go_enter Tryz.func64, Tryz.ntmps64
    go_wp2_with fail
    go_ret2
    exact ⟨ret_two (by rw [HE.out.1]) HE.out.2.symm, rfl⟩
  · have HE := Lib.hid (show toV 65536 a = 0 ∧ toO 65536 a = false from ⟨if_neg h, decide_eq_false h⟩)
    obtain ⟨c, hc, hcl⟩ : ∃ c : Nat, IntKind.u16.wrap ((a : Int)) = (c : Int) ∧ c < a := ⟨a % 65536, by rw [wu16]; omega, by omega⟩
    have w2 : IntKind.u64.wrap (c : Int) = (c : Int) := by rw [wu64]; omega
    have t1 : (((c : Nat) : Int) != (a : Int)) = true := by rw [bne_iff_ne]; omega
    have t2 : ((c : Nat) != a) = true := by rw [bne_iff_ne]; omega
    have t3 : (c == a) = false := by rw [beq_eq_false_iff_ne]; omega
    have w3 : IntKind.u64.wrap (a : Int) = (a : Int) := by rw [wu64]; omega
    clear h
    go_enter Tryz.func64, Tryz.ntmps64
    go_wp2_with fail
    go_ret2
    exact ⟨ret_two (by rw [HE.out.1]; rfl) HE.out.2.symm, rfl⟩
set_option maxHeartbeats 1600000 in
set_option maxRecDepth 100000 in
theorem to_uint32_uint32 (a : Nat) (w : World) (ha : a < 4294967296) : Calls Tryz.prog 65 #[.int .u32 (a : Int)] w fun e w' => e = .returned (.tuple #[.int .u32 ((toV 4294967296 a : Nat) : Int), .bool (toO 4294967296 a)]) ∧ w' = w := by
  have HE := Lib.hid (show toV 4294967296 a = a ∧ toO 4294967296 a = true from ⟨if_pos (by omega), decide_eq_true (by omega)⟩)
  have w1 : (a : Int) % 4294967296 = (a : Int) := by omega
  have w3 : IntKind.u64.wrap (a : Int) = (a : Int) := by rw [wu64]; omega
  go_enter Tryz.func65, Tryz.ntmps65
  go_wp2_with fail
  go_ret2
  exact ⟨ret_two (by rw [HE.out.1]) HE.out.2.symm, rfl⟩
set_option maxHeartbeats 1600000 in
set_option maxRecDepth 100000 in
theorem to_uint64_uint32 (a : Nat) (w : World) (ha : a < 4294967296) : Calls Tryz.prog 66 #[.int .u32 (a : Int)] w fun e w' => e = .returned (.tuple #[.int .u64 ((toV 18446744073709551616 a : Nat) : Int), .bool (toO 18446744073709551616 a)]) ∧ w' = w := by
  have HE := Lib.hid (show toV 18446744073709551616 a = a ∧ toO 18446744073709551616 a = true from ⟨if_pos (by omega), decide_eq_true (by omega)⟩)
  have w3 : IntKind.u64.wrap (a : Int) = (a : Int) := by rw [wu64]; omega
  go_enter Tryz.func66, Tryz.ntmps66
  go_wp2_with fail
  go_ret2
  exact ⟨ret_two (by rw [HE.out.1]) HE.out.2.symm, rfl⟩
set_option maxHeartbeats 1600000 in
set_option maxRecDepth 100000 in
theorem to_Small_uint32 (a : Nat) (w : World) (ha : a < 4294967296) : Calls Tryz.prog 67 #[.int .u32 (a : Int)] w fun e w' => e = .returned (.tuple #[.int .u16 ((toV 65536 a : Nat) : Int), .bool (toO 65536 a)]) ∧ w' = w := by
  by_cases h : a < 65536
  · have HE := Lib.hid (show toV 65536 a = a ∧ toO 65536 a = true from ⟨if_pos (by omega), decide_eq_true (by omega)⟩)
    have w1 : IntKind.u16.wrap (a : Int) = (a : Int) := by rw [wu16]; omega
    have w3 : IntKind.u64.wrap (a : Int) = (a : Int) := by rw [wu64]; omega
    go_enter Tryz.func67, Tryz.ntmps67
    go_wp2_with fail
    go_ret2
    exact ⟨ret_two (by rw [HE.out.1]) HE.out.2.symm, rfl⟩
  · have HE := Lib.hid (show toV 65536 a = 0 ∧ toO 65536 a = false from ⟨if_neg h, decide_eq_false h⟩)
    obtain ⟨c, hc, hcl⟩ : ∃ c : Nat, IntKind.u16.wrap ((a : Int)) = (c : Int) ∧ c < a := ⟨a % 65536, by rw [wu16]; omega, by omega⟩
    have w2 : IntKind.u64.wrap (c : Int) = (c : Int) := by rw [wu64]; omega
    have t1 : (((c : Nat) : Int) != (a : Int)) = true := by rw [bne_iff_ne]; omega
    have t2 : ((c : Nat) != a) = true := by rw [bne_iff_ne]; omega
    have t3 : (c == a) = false := by rw [beq_eq_false_iff_ne]; omega
    have w3 : IntKind.u64.wrap (a : Int) = (a : Int) := by rw [wu64]; omega
    clear h
    go_enter Tryz.func67, Tryz.ntmps67
    go_wp2_with fail
    go_ret2
    exact ⟨ret_two (by rw [HE.out.1]; rfl) HE.out.2.symm, rfl⟩
set_option maxHeartbeats 1600000 in
set_option maxRecDepth 100000 in
theorem to_uint8_uint64 (a : Nat) (w : World) (ha : a < 18446744073709551616) : Calls Tryz.prog 68 #[.int .u64 (a : Int)] w fun e w' => e = .returned (.tuple #[.int .u8 ((toV 256 a : Nat) : Int), .bool (toO 256 a)]) ∧ w' = w := by
  by_cases h : a < 256
  · have HE := Lib.hid (show toV 256 a = a ∧ toO 256 a = true from ⟨if_pos (by omega), decide_eq_true (by omega)⟩)
    have w1 : (a : Int) % 256 = (a : Int) := by omega
    have w3 : IntKind.u64.wrap (a : Int) = (a : Int) := by rw [wu64]; omega
    go_enter Tryz.func68, Tryz.ntmps68
    go_wp2_with fail
    go_ret2
    exact ⟨ret_two (by rw [HE.out.1]) HE.out.2.symm, rfl⟩
  · have HE := Lib.hid (show toV 256 a = 0 ∧ toO 256 a = false from ⟨if_neg h, decide_eq_false h⟩)
    obtain ⟨c, hc, hcl⟩ : ∃ c : Nat, ((a : Int)) % 256 = (c : Int) ∧ c < a := ⟨a % 256, by omega, by omega⟩
    have w2 : IntKind.u64.wrap (c : Int) = (c : Int) := by rw [wu64]; omega
    have t1 : (((c : Nat) : Int) != (a : Int)) = true := by rw [bne_iff_ne]; omega
    have t2 : ((c : Nat) != a) = true := by rw [bne_iff_ne]; omega
    have t3 : (c == a) = false := by rw [beq_eq_false_iff_ne]; omega
    have w3 : IntKind.u64.wrap (a : Int) = (a : Int) := by rw [wu64]; omega
    clear h
    go_enter Tryz.func68, Tryz.ntmps68
    go_wp2_with fail
    go_ret2
    exact ⟨ret_two (by rw [HE.out.1]; rfl) HE.out.2.symm, rfl⟩
set_option maxHeartbeats 1600000 in
set_option maxRecDepth 100000 in
theorem to_uint16_uint64 (a : Nat) (w : World) (ha : a < 18446744073709551616) : Calls Tryz.prog 69 #[.int .u64 (a : Int)] w fun e w' => e = .returned (.tuple #[.int .u16 ((toV 65536 a : Nat) : Int), .bool (toO 65536 a)]) ∧ w' = w := by
  by_cases h : a < 65536
  · have HE := Lib.hid (show toV 65536 a = a ∧ toO 65536 a = true from ⟨if_pos (by omega), decide_eq_true (by omega)⟩)
    have w1 : IntKind.u16.wrap (a : Int) = (a : Int) := by rw [wu16]; omega
    have w3 : IntKind.u64.wrap (a : Int) = (a : Int) := by rw [wu64]; omega
    go_enter Tryz.func69, Tryz.ntmps69
    go_wp2_with fail
    go_ret2
    exact ⟨ret_two (by rw [HE.out.1]) HE.out.2.symm, rfl⟩
  · have HE := Lib.hid (show toV 65536 a = 0 ∧ toO 65536 a = false from ⟨if_neg h, decide_eq_false h⟩)
    obtain ⟨c, hc, hcl⟩ : ∃ c : Nat, IntKind.u16.wrap ((a : Int)) = (c : Int) ∧ c < a := ⟨a % 65536, by rw [wu16]; omega, by omega⟩
    have w2 : IntKind.u64.wrap (c : Int) = (c : Int) := by rw [wu64]; omega
    have t1 : (((c : Nat) : Int) != (a : Int)) = true := by rw [bne_iff_ne]; omega
    have t2 : ((c : Nat) != a) = true := by rw [bne_iff_ne]; omega
    have t3 : (c == a) = false := by rw [beq_eq_false_iff_ne]; omega
    have w3 : IntKind.u64.wrap (a : Int) = (a : Int) := by rw [wu64]; omega
    clear h
    go_enter Tryz.func69, Tryz.ntmps69
    go_wp2_with fail
    go_ret2
    exact ⟨ret_two (by rw [HE.out.1]; rfl) HE.out.2.symm, rfl⟩
set_option maxHeartbeats 1600000 in
set_option maxRecDepth 100000 in
theorem to_uint32_uint64 (a : Nat) (w : World) (ha : a < 18446744073709551616) : Calls Tryz.prog 70 #[.int .u64 (a : Int)] w fun e w' => e = .returned (.tuple #[.int .u32 ((toV 4294967296 a : Nat) : Int), .bool (toO 4294967296 a)]) ∧ w' = w := by
  by_cases h : a < 4294967296
  · have HE := Lib.hid (show toV 4294967296 a = a ∧ toO 4294967296 a = true from ⟨if_pos (by omega), decide_eq_true (by omega)⟩)
    have w1 : (a : Int) % 4294967296 = (a : Int) := by omega
    have w3 : IntKind.u64.wrap (a : Int) = (a : Int) := by rw [wu64]; omega
    go_enter Tryz.func70, Tryz.ntmps70
    go_wp2_with fail
    go_ret2
    exact ⟨ret_two (by rw [HE.out.1]) HE.out.2.symm, rfl⟩
  · have HE := Lib.hid (show toV 4294967296 a = 0 ∧ toO 4294967296 a = false from ⟨if_neg h, decide_eq_false h⟩)
    obtain ⟨c, hc, hcl⟩ : ∃ c : Nat, ((a : Int)) % 4294967296 = (c : Int) ∧ c < a := ⟨a % 4294967296, by omega, by omega⟩
    have w2 : IntKind.u64.wrap (c : Int) = (c : Int) := by rw [wu64]; omega
    have t1 : (((c : Nat) : Int) != (a : Int)) = true := by rw [bne_iff_ne]; omega
    have t2 : ((c : Nat) != a) = true := by rw [bne_iff_ne]; omega
    have t3 : (c == a) = false := by rw [beq_eq_false_iff_ne]; omega
    have w3 : IntKind.u64.wrap (a : Int) = (a : Int) := by rw [wu64]; omega
    clear h
    go_enter Tryz.func70, Tryz.ntmps70
    go_wp2_with fail
    go_ret2
    exact ⟨ret_two (by rw [HE.out.1]; rfl) HE.out.2.symm, rfl⟩
set_option maxHeartbeats 1600000 in
set_option maxRecDepth 100000 in
theorem to_uint64_uint64 (a : Nat) (w : World) (ha : a < 18446744073709551616) : Calls Tryz.prog 71 #[.int .u64 (a : Int)] w fun e w' => e = .returned (.tuple #[.int .u64 ((toV 18446744073709551616 a : Nat) : Int), .bool (toO 18446744073709551616 a)]) ∧ w' = w := by
  have HE := Lib.hid (show toV 18446744073709551616 a = a ∧ toO 18446744073709551616 a = true from ⟨if_pos (by omega), decide_eq_true (by omega)⟩)
  have w3 : IntKind.u64.wrap (a : Int) = (a : Int) := by rw [wu64]; omega
  go_enter Tryz.func71, Tryz.ntmps71
  go_wp2_with fail
  go_ret2
  exact ⟨ret_two (by rw [HE.out.1]) HE.out.2.symm, rfl⟩
set_option maxHeartbeats 1600000 in
set_option maxRecDepth 100000 in
theorem to_Small_uint64 (a : Nat) (w : World) (ha : a < 18446744073709551616) : Calls Tryz.prog 72 #[.int .u64 (a : Int)] w fun e w' => e = .returned (.tuple #[.int .u16 ((toV 65536 a : Nat) : Int), .bool (toO 65536 a)]) ∧ w' = w := by
  by_cases h : a < 65536
  · have HE := Lib.hid (show toV 65536 a = a ∧ toO 65536 a = true from ⟨if_pos (by omega), decide_eq_true (by omega)⟩)
    have w1 : IntKind.u16.wrap (a : Int) = (a : Int) := by rw [wu16]; omega
    have w3 : IntKind.u64.wrap (a : Int) = (a : Int) := by rw [wu64]; omega
    go_enter Tryz.func72, Tryz.ntmps72
    go_wp2_with fail
    go_ret2
    exact ⟨ret_two (by rw [HE.out.1]) HE.out.2.symm, rfl⟩
  · have HE := Lib.hid (show toV 65536 a = 0 ∧ toO 65536 a = false from ⟨if_neg h, decide_eq_false h⟩)
    obtain ⟨c, hc, hcl⟩ : ∃ c : Nat, IntKind.u16.wrap ((a : Int)) = (c : Int) ∧ c < a := ⟨a % 65536, by rw [wu16]; omega, by omega⟩
    have w2 : IntKind.u64.wrap (c : Int) = (c : Int) := by rw [wu64]; omega
    have t1 : (((c : Nat) : Int) != (a : Int)) = true := by rw [bne_iff_ne]; omega
    have t2 : ((c : Nat) != a) = true := by rw [bne_iff_ne]; omega
    have t3 : (c == a) = false := by rw [beq_eq_false_iff_ne]; omega
    have w3 : IntKind.u64.wrap (a : Int) = (a : Int) := by rw [wu64]; omega
    clear h
    go_enter Tryz.func72, Tryz.ntmps72
    go_wp2_with fail
    go_ret2
    exact ⟨ret_two (by rw [HE.out.1]; rfl) HE.out.2.symm, rfl⟩
set_option maxHeartbeats 1600000 in
set_option maxRecDepth 100000 in
theorem to_uint8_Great (a : Nat) (w : World) (ha : a < 18446744073709551616) : Calls Tryz.prog 73 #[.int .u64 (a : Int)] w fun e w' => e = .returned (.tuple #[.int .u8 ((toV 256 a : Nat) : Int), .bool (toO 256 a)]) ∧ w' = w := by
  by_cases h : a < 256
  · have HE := Lib.hid (show toV 256 a = a ∧ toO 256 a = true from ⟨if_pos (by omega), decide_eq_true (by omega)⟩)
    have w1 : (a : Int) % 256 = (a : Int) := by omega
    have w3 : IntKind.u64.wrap (a : Int) = (a : Int) := by rw [wu64]; omega
    go_enter Tryz.func73, Tryz.ntmps73
    go_wp2_with fail
    go_ret2
    exact ⟨ret_two (by rw [HE.out.1]) HE.out.2.symm, rfl⟩
  · have HE := Lib.hid (show toV 256 a = 0 ∧ toO 256 a = false from ⟨if_neg h, decide_eq_false h⟩)
    obtain ⟨c, hc, hcl⟩ : ∃ c : Nat, ((a : Int)) % 256 = (c : Int) ∧ c < a := ⟨a % 256, by omega, by omega⟩
    have w2 : IntKind.u64.wrap (c : Int) = (c : Int) := by rw [wu64]; omega
    have t1 : (((c : Nat) : Int) != (a : Int)) = true := by rw [bne_iff_ne]; omega
    have t2 : ((c : Nat) != a) = true := by rw [bne_iff_ne]; omega
    have t3 : (c == a) = false := by rw [beq_eq_false_iff_ne]; omega
    have w3 : IntKind.u64.wrap (a : Int) = (a : Int) := by rw [wu64]; omega
    clear h
    go_enter Tryz.func73, Tryz.ntmps73
    go_wp2_with fail
    go_ret2
    exact ⟨ret_two (by rw [HE.out.1]; rfl) HE.out.2.symm, rfl⟩
set_option maxHeartbeats 1600000 in
set_option maxRecDepth 100000 in
theorem to_uint16_Great (a : Nat) (w : World) (ha : a < 18446744073709551616) : Calls Tryz.prog 74 #[.int .u64 (a : Int)] w fun e w' => e = .returned (.tuple #[.int .u16 ((toV 65536 a : Nat) : Int), .bool (toO 65536 a)]) ∧ w' = w := by
  by_cases h : a < 65536
  · have HE := Lib.hid (show toV 65536 a = a ∧ toO 65536 a = true from ⟨if_pos (by omega), decide_eq_true (by omega)⟩)
    have w1 : IntKind.u16.wrap (a : Int) = (a : Int) := by rw [wu16]; omega
    have w3 : IntKind.u64.wrap (a : Int) = (a : Int) := by rw [wu64]; omega
    go_enter Tryz.func74, Tryz.ntmps74
    go_wp2_with fail
    go_ret2
    exact ⟨ret_two (by rw [HE.out.1]) HE.out.2.symm, rfl⟩
  · have HE := Lib.hid (show toV 65536 a = 0 ∧ toO 65536 a = false from ⟨if_neg h, decide_eq_false h⟩)
    obtain ⟨c, hc, hcl⟩ : ∃ c : Nat, IntKind.u16.wrap ((a : Int)) = (c : Int) ∧ c < a := ⟨a % 65536, by rw [wu16]; omega, by omega⟩
    have w2 : IntKind.u64.wrap (c : Int) = (c : Int) := by rw [wu64]; omega
    have t1 : (((c : Nat) : Int) != (a : Int)) = true := by rw [bne_iff_ne]; omega
    have t2 : ((c : Nat) != a) = true := by rw [bne_iff_ne]; omega
    have t3 : (c == a) = false := by rw [beq_eq_false_iff_ne]; omega
    have w3 : IntKind.u64.wrap (a : Int) = (a : Int) := by rw [wu64]; omega
    clear h
    go_enter Tryz.func74, Tryz.ntmps74
    go_wp2_with fail
    go_ret2
    exact ⟨ret_two (by rw [HE.out.1]; rfl) HE.out.2.symm, rfl⟩
set_option maxHeartbeats 1600000 in
set_option maxRecDepth 100000 in
theorem to_uint32_Great (a : Nat) (w : World) (ha : a < 18446744073709551616) : Calls Tryz.prog 75 #[.int .u64 (a : Int)] w fun e w' => e = .returned (.tuple #[.int .u32 ((toV 4294967296 a : Nat) : Int), .bool (toO 4294967296 a)]) ∧ w' = w := by
  by_cases h : a < 4294967296
  · have HE := Lib.hid (show toV 4294967296 a = a ∧ toO 4294967296 a = true from ⟨if_pos (by omega), decide_eq_true (by omega)⟩)
    have w1 : (a : Int) % 4294967296 = (a : Int) := by omega
    have w3 : IntKind.u64.wrap (a : Int) = (a : Int) := by rw [wu64]; omega
    go_enter Tryz.func75, Tryz.ntmps75
    go_wp2_with fail
    go_ret2
    exact ⟨ret_two (by rw [HE.out.1]) HE.out.2.symm, rfl⟩
  · have HE := Lib.hid (show toV 4294967296 a = 0 ∧ toO 4294967296 a = false from ⟨if_neg h, decide_eq_false h⟩)
    obtain ⟨c, hc, hcl⟩ : ∃ c : Nat, ((a : Int)) % 4294967296 = (c : Int) ∧ c < a := ⟨a % 4294967296, by omega, by omega⟩
    have w2 : IntKind.u64.wrap (c : Int) = (c : Int) := by rw [wu64]; omega
    have t1 : (((c : Nat) : Int) != (a : Int)) = true := by rw [bne_iff_ne]; omega
    have t2 : ((c : Nat) != a) = true := by rw [bne_iff_ne]; omega
    have t3 : (c == a) = false := by rw [beq_eq_false_iff_ne]; omega
    have w3 : IntKind.u64.wrap (a : Int) = (a : Int) := by rw [wu64]; omega
    clear h
    go_enter Tryz.func75, Tryz.ntmps75
    go_wp2_with fail
    go_ret2
    exact ⟨ret_two (by rw [HE.out.1]; rfl) HE.out.2.symm, rfl⟩
set_option maxHeartbeats 1600000 in
set_option maxRecDepth 100000 in
theorem to_uint64_Great (a : Nat) (w : World) (ha : a < 18446744073709551616) : Calls Tryz.prog 76 #[.int .u64 (a : Int)] w fun e w' => e = .returned (.tuple #[.int .u64 ((toV 18446744073709551616 a : Nat) : Int), .bool (toO 18446744073709551616 a)]) ∧ w' = w := by
  have HE := Lib.hid (show toV 18446744073709551616 a = a ∧ toO 18446744073709551616 a = true from ⟨if_pos (by omega), decide_eq_true (by omega)⟩)
  have w3 : IntKind.u64.wrap (a : Int) = (a : Int) := by rw [wu64]; omega
  go_enter Tryz.func76, Tryz.ntmps76
  go_wp2_with fail
  go_ret2
  exact ⟨ret_two (by rw [HE.out.1]) HE.out.2.symm, rfl⟩
set_option maxHeartbeats 1600000 in
set_option maxRecDepth 100000 in
theorem to_Small_Great (a : Nat) (w : World) (ha : a < 18446744073709551616) : Calls Tryz.prog 77 #[.int .u64 (a : Int)] w fun e w' => e = .returned (.tuple #[.int .u16 ((toV 65536 a : Nat) : Int), .bool (toO 65536 a)]) ∧ w' = w := by
  by_cases h : a < 65536
  · have HE := Lib.hid (show toV 65536 a = a ∧ toO 65536 a = true from ⟨if_pos (by omega), decide_eq_true (by omega)⟩)
    have w1 : IntKind.u16.wrap (a : Int) = (a : Int) := by rw [wu16]; omega
    have w3 : IntKind.u64.wrap (a : Int) = (a : Int) := by rw [wu64]; omega
    go_enter Tryz.func77, Tryz.ntmps77
    go_wp2_with fail
    go_ret2
    exact ⟨ret_two (by rw [HE.out.1]) HE.out.2.symm, rfl⟩
  · have HE := Lib.hid (show toV 65536 a = 0 ∧ toO 65536 a = false from ⟨if_neg h, decide_eq_false h⟩)
    obtain ⟨c, hc, hcl⟩ : ∃ c : Nat, IntKind.u16.wrap ((a : Int)) = (c : Int) ∧ c < a := ⟨a % 65536, by rw [wu16]; omega, by omega⟩
    have w2 : IntKind.u64.wrap (c : Int) = (c : Int) := by rw [wu64]; omega
    have t1 : (((c : Nat) : Int) != (a : Int)) = true := by rw [bne_iff_ne]; omega
    have t2 : ((c : Nat) != a) = true := by rw [bne_iff_ne]; omega
    have t3 : (c == a) = false := by rw [beq_eq_false_iff_ne]; omega
    have w3 : IntKind.u64.wrap (a : Int) = (a : Int) := by rw [wu64]; omega
    clear h
    go_enter Tryz.func77, Tryz.ntmps77
    go_wp2_with fail
    go_ret2
    exact ⟨ret_two (by rw [HE.out.1]; rfl) HE.out.2.symm, rfl⟩
set_option maxHeartbeats 1600000 in
set_option maxRecDepth 100000 in
theorem to_uint8_Tiny (a : Nat) (w : World) (ha : a < 256) : Calls Tryz.prog 78 #[.int .u8 (a : Int)] w fun e w' => e = .returned (.tuple #[.int .u8 ((toV 256 a : Nat) : Int), .bool (toO 256 a)]) ∧ w' = w := by
  have HE := Lib.hid (show toV 256 a = a ∧ toO 256 a = true from ⟨if_pos (by omega), decide_eq_true (by omega)⟩)
  have w1 : (a : Int) % 256 = (a : Int) := by omega
  have w3 : IntKind.u64.wrap (a : Int) = (a : Int) := by rw [wu64]; omega
  go_enter Tryz.func78, Tryz.ntmps78
  go_wp2_with fail
  go_ret2
  exact ⟨ret_two (by rw [HE.out.1]) HE.out.2.symm, rfl⟩
set_option maxHeartbeats 1600000 in
set_option maxRecDepth 100000 in
theorem to_uint16_Tiny (a : Nat) (w : World) (ha : a < 256) : Calls Tryz.prog 79 #[.int .u8 (a : Int)] w fun e w' => e = .returned (.tuple #[.int .u16 ((toV 65536 a : Nat) : Int), .bool (toO 65536 a)]) ∧ w' = w := by
  have HE := Lib.hid (show toV 65536 a = a ∧ toO 65536 a = true from ⟨if_pos (by omega), decide_eq_true (by omega)⟩)
  have w1 : IntKind.u16.wrap (a : Int) = (a : Int) := by rw [wu16]; omega
  have w3 : IntKind.u64.wrap (a : Int) = (a : Int) := by rw [wu64]; omega
  go_enter Tryz.func79, Tryz.ntmps79
  go_wp2_with fail
  go_ret2
  exact ⟨ret_two (by rw [HE.out.1]) HE.out.2.symm, rfl⟩
set_option maxHeartbeats 1600000 in
set_option maxRecDepth 100000 in
theorem to_uint32_Tiny (a : Nat) (w : World) (ha : a < 256) : Calls Tryz.prog 80 #[.int .u8 (a : Int)] w fun e w' => e = .returned (.tuple #[.int .u32 ((toV 4294967296 a : Nat) : Int), .bool (toO 4294967296 a)]) ∧ w' = w := by
  have HE := Lib.hid (show toV 4294967296 a = a ∧ toO 4294967296 a = true from ⟨if_pos (by omega), decide_eq_true (by omega)⟩)
  have w1 : (a : Int) % 4294967296 = (a : Int) := by omega
  have w3 : IntKind.u64.wrap (a : Int) = (a : Int) := by rw [wu64]; omega
  go_enter Tryz.func80, Tryz.ntmps80
  go_wp2_with fail
  go_ret2
  exact ⟨ret_two (by rw [HE.out.1]) HE.out.2.symm, rfl⟩
set_option maxHeartbeats 1600000 in
set_option maxRecDepth 100000 in
theorem to_uint64_Tiny (a : Nat) (w : World) (ha : a < 256) : Calls Tryz.prog 81 #[.int .u8 (a : Int)] w fun e w' => e = .returned (.tuple #[.int .u64 ((toV 18446744073709551616 a : Nat) : Int), .bool (toO 18446744073709551616 a)]) ∧ w' = w := by
  have HE := Lib.hid (show toV 18446744073709551616 a = a ∧ toO 18446744073709551616 a = true from ⟨if_pos (by omega), decide_eq_true (by omega)⟩)
  have w3 : IntKind.u64.wrap (a : Int) = (a : Int) := by rw [wu64]; omega
  go_enter Tryz.func81, Tryz.ntmps81
  go_wp2_with fail
  go_ret2
  exact ⟨ret_two (by rw [HE.out.1]) HE.out.2.symm, rfl⟩
set_option maxHeartbeats 1600000 in
set_option maxRecDepth 100000 in
theorem to_Small_Tiny (a : Nat) (w : World) (ha : a < 256) : Calls Tryz.prog 82 #[.int .u8 (a : Int)] w fun e w' => e = .returned (.tuple #[.int .u16 ((toV 65536 a : Nat) : Int), .bool (toO 65536 a)]) ∧ w' = w := by
  have HE := Lib.hid (show toV 65536 a = a ∧ toO 65536 a = true from ⟨if_pos (by omega), decide_eq_true (by omega)⟩)
  have w1 : IntKind.u16.wrap (a : Int) = (a : Int) := by rw [wu16]; omega
  have w3 : IntKind.u64.wrap (a : Int) = (a : Int) := by rw [wu64]; omega
  go_enter Tryz.func82, Tryz.ntmps82
  go_wp2_with fail
  go_ret2
  exact ⟨ret_two (by rw [HE.out.1]) HE.out.2.symm, rfl⟩
set_option maxHeartbeats 1600000 in
set_option maxRecDepth 100000 in
theorem to_Tiny_uint64 (a : Nat) (w : World) (ha : a < 18446744073709551616) : Calls Tryz.prog 129 #[.int .u64 (a : Int)] w fun e w' => e = .returned (.tuple #[.int .u8 ((toV 256 a : Nat) : Int), .bool (toO 256 a)]) ∧ w' = w := by
  by_cases h : a < 256
  · have HE := Lib.hid (show toV 256 a = a ∧ toO 256 a = true from ⟨if_pos (by omega), decide_eq_true (by omega)⟩)
    have w1 : (a : Int) % 256 = (a : Int) := by omega
    have w3 : IntKind.u64.wrap (a : Int) = (a : Int) := by rw [wu64]; omega
    go_enter Tryz.func129, Tryz.ntmps129
    go_wp2_with fail
    go_ret2
    exact ⟨ret_two (by rw [HE.out.1]) HE.out.2.symm, rfl⟩
  · have HE := Lib.hid (show toV 256 a = 0 ∧ toO 256 a = false from ⟨if_neg h, decide_eq_false h⟩)
    obtain ⟨c, hc, hcl⟩ : ∃ c : Nat, ((a : Int)) % 256 = (c : Int) ∧ c < a := ⟨a % 256, by omega, by omega⟩
    have w2 : IntKind.u64.wrap (c : Int) = (c : Int) := by rw [wu64]; omega
    have t1 : (((c : Nat) : Int) != (a : Int)) = true := by rw [bne_iff_ne]; omega
    have t2 : ((c : Nat) != a) = true := by rw [bne_iff_ne]; omega
    have t3 : (c == a) = false := by rw [beq_eq_false_iff_ne]; omega
    have w3 : IntKind.u64.wrap (a : Int) = (a : Int) := by rw [wu64]; omega
    clear h
    go_enter Tryz.func129, Tryz.ntmps129
    go_wp2_with fail
    go_ret2
    exact ⟨ret_two (by rw [HE.out.1]; rfl) HE.out.2.symm, rfl⟩
set_option maxHeartbeats 1600000 in
set_option maxRecDepth 100000 in
theorem to_Plain_uint64 (a : Nat) (w : World) (ha : a < 18446744073709551616) : Calls Tryz.prog 130 #[.int .u64 (a : Int)] w fun e w' => e = .returned (.tuple #[.int .u32 ((toV 4294967296 a : Nat) : Int), .bool (toO 4294967296 a)]) ∧ w' = w := by
  by_cases h : a < 4294967296
  · have HE := Lib.hid (show toV 4294967296 a = a ∧ toO 4294967296 a = true from ⟨if_pos (by omega), decide_eq_true (by omega)⟩)
    have w1 : (a : Int) % 4294967296 = (a : Int) := by omega
    have w3 : IntKind.u64.wrap (a : Int) = (a : Int) := by rw [wu64]; omega
    go_enter Tryz.func130, Tryz.ntmps130
    go_wp2_with fail
    go_ret2
    exact ⟨ret_two (by rw [HE.out.1]) HE.out.2.symm, rfl⟩
  · have HE := Lib.hid (show toV 4294967296 a = 0 ∧ toO 4294967296 a = false from ⟨if_neg h, decide_eq_false h⟩)
    obtain ⟨c, hc, hcl⟩ : ∃ c : Nat, ((a : Int)) % 4294967296 = (c : Int) ∧ c < a := ⟨a % 4294967296, by omega, by omega⟩
    have w2 : IntKind.u64.wrap (c : Int) = (c : Int) := by rw [wu64]; omega
    have t1 : (((c : Nat) : Int) != (a : Int)) = true := by rw [bne_iff_ne]; omega
    have t2 : ((c : Nat) != a) = true := by rw [bne_iff_ne]; omega
    have t3 : (c == a) = false := by rw [beq_eq_false_iff_ne]; omega
    have w3 : IntKind.u64.wrap (a : Int) = (a : Int) := by rw [wu64]; omega
    clear h
    go_enter Tryz.func130, Tryz.ntmps130
    go_wp2_with fail
    go_ret2
    exact ⟨ret_two (by rw [HE.out.1]; rfl) HE.out.2.symm, rfl⟩
set_option maxHeartbeats 1600000 in
set_option maxRecDepth 100000 in
theorem to_Great_uint64 (a : Nat) (w : World) (ha : a < 18446744073709551616) : Calls Tryz.prog 131 #[.int .u64 (a : Int)] w fun e w' => e = .returned (.tuple #[.int .u64 ((toV 18446744073709551616 a : Nat) : Int), .bool (toO 18446744073709551616 a)]) ∧ w' = w := by
  have HE := Lib.hid (show toV 18446744073709551616 a = a ∧ toO 18446744073709551616 a = true from ⟨if_pos (by omega), decide_eq_true (by omega)⟩)
  have w3 : IntKind.u64.wrap (a : Int) = (a : Int) := by rw [wu64]; omega
  go_enter Tryz.func131, Tryz.ntmps131
  go_wp2_with fail
  go_ret2
  exact ⟨ret_two (by rw [HE.out.1]) HE.out.2.symm, rfl⟩
set_option maxHeartbeats 1600000 in
set_option maxRecDepth 100000 in
theorem add_uint8 (a b : Nat) (w : World) (ha : a < 256) (hb : b < 256) : Calls Tryz.prog 85 #[.int .u8 (a : Int), .int .u8 (b : Int)] w fun e w' => e = .returned (.tuple #[.int .u8 ((addV 256 a b : Nat) : Int), .bool (addO 256 a b)]) ∧ w' = w := by
  by_cases h : a + b < 256
  · have HE := Lib.hid (show addV 256 a b = a + b ∧ addO 256 a b = true from ⟨if_pos h, decide_eq_true h⟩)
    obtain ⟨c, hc⟩ : ∃ c : Nat, a + b = c := ⟨_, rfl⟩
    have hw : ((a : Int) + (b : Int)) % 256 = (c : Int) := by omega
    have t1 : decide (a ≤ c) = true := decide_eq_true (by omega)
    have t2 : decide ((a : Int) ≤ (a : Int) + (b : Int)) = true := decide_eq_true (by omega)
    have HC := Lib.hid hc
    clear hc
    go_enter Tryz.func85, Tryz.ntmps85
    go_wp2_with fail
    go_ret2
    exact ⟨ret_two (by rw [HE.out.1]; have := HC.out; omega) HE.out.2.symm, rfl⟩
  · have HE := Lib.hid (show addV 256 a b = 0 ∧ addO 256 a b = false from ⟨if_neg h, decide_eq_false h⟩)
    obtain ⟨c, hw, hcl⟩ : ∃ c : Nat, ((a : Int) + (b : Int)) % 256 = (c : Int) ∧ c < a := ⟨a + b - 256, by omega, by omega⟩
    have t1 : decide (a ≤ c) = false := decide_eq_false (by omega)
    have t2 : decide ((a : Int) ≤ (c : Int)) = false := decide_eq_false (by omega)
    clear h
    go_enter Tryz.func85, Tryz.ntmps85
    go_wp2_with fail
    go_ret2
    exact ⟨ret_two (by rw [HE.out.1]; rfl) HE.out.2.symm, rfl⟩
set_option maxHeartbeats 1600000 in
set_option maxRecDepth 100000 in
theorem sub_uint8 (a b : Nat) (w : World) (ha : a < 256) (hb : b < 256) : Calls Tryz.prog 87 #[.int .u8 (a : Int), .int .u8 (b : Int)] w fun e w' => e = .returned (.tuple #[.int .u8 ((subV a b : Nat) : Int), .bool (subO a b)]) ∧ w' = w := by
  by_cases h : b ≤ a
  · have HE := Lib.hid (show subV a b = a - b ∧ subO a b = true from ⟨if_pos h, decide_eq_true h⟩)
    have hw : ((a : Int) - (b : Int)) % 256 = (a : Int) - (b : Int) := by omega
    have t1 : decide (a < b) = false := decide_eq_false (by omega)
    go_enter Tryz.func87, Tryz.ntmps87
    go_wp2_with fail
    go_ret2
    exact ⟨ret_two (by rw [HE.out.1]; omega) HE.out.2.symm, rfl⟩
  · have HE := Lib.hid (show subV a b = 0 ∧ subO a b = false from ⟨if_neg h, decide_eq_false h⟩)
    have t1 : decide (a < b) = true := decide_eq_true (by omega)
    go_enter Tryz.func87, Tryz.ntmps87
    go_wp2_with fail
    go_ret2
    exact ⟨ret_two (by rw [HE.out.1]; rfl) HE.out.2.symm, rfl⟩
set_option maxHeartbeats 1600000 in
set_option maxRecDepth 100000 in
theorem mul_uint8 (a b : Nat) (w : World) (ha : a < 256) (hb : b < 256) : Calls Tryz.prog 89 #[.int .u8 (a : Int), .int .u8 (b : Int)] w fun e w' => e = .returned (.tuple #[.int .u8 ((mulV 256 a b : Nat) : Int), .bool (mulO 256 a b)]) ∧ w' = w := by
  have wa : IntKind.u64.wrap (a : Int) = (a : Int) := by rw [wu64]; omega
  have wb : IntKind.u64.wrap (b : Int) = (b : Int) := by rw [wu64]; omega
  have hml := mul64_ a b w (by omega) (by omega)
  obtain ⟨p, hp⟩ : ∃ p, a * b = p := ⟨_, rfl⟩
  rw [hp] at hml
  have HP := Lib.hid hp
  clear hp
  by_cases hbig : p < 18446744073709551616
  · rw [Nat.div_eq_of_lt hbig, Nat.mod_eq_of_lt hbig] at hml
    have HML := Lib.hid hml
    have HE := Lib.hid (show mulV 256 a b = toV 256 p ∧ mulO 256 a b = toO 256 p from by unfold mulV mulO toV toO; rw [HP.out]; exact ⟨rfl, rfl⟩)
    clear hml
    go_enter Tryz.func89, Tryz.ntmps89
    go_wp2_with fail
    refine HML.out.mono ?_
    rintro e w' ⟨rfl, rfl⟩
    go_wp2_with fail
    refine (to_uint8_uint64 p _ hbig).mono ?_
    rintro e w'' ⟨rfl, rfl⟩
    go_wp2_with fail
    go_ret2
    exact ⟨ret_two (by rw [HE.out.1]) HE.out.2.symm, rfl⟩
  · have HE := Lib.hid (show mulV 256 a b = 0 ∧ mulO 256 a b = false from by unfold mulV mulO; rw [HP.out]; exact ⟨if_neg (by omega), decide_eq_false (by omega)⟩)
    obtain ⟨h, hh, hhp⟩ : ∃ h : Nat, p / 18446744073709551616 = h ∧ 0 < h := ⟨_, rfl, by omega⟩
    rw [hh] at hml
    have HML := Lib.hid hml
    have t1 : ((h : Int) != 0) = true := by rw [bne_iff_ne]; omega
    have t2 : ((h : Int) == 0) = false := by rw [beq_eq_false_iff_ne]; omega
    have t3 : (h == 0) = false := by rw [beq_eq_false_iff_ne]; omega
    have t4 : (h != 0) = true := by rw [bne_iff_ne]; omega
    clear hml hh hbig
    go_enter Tryz.func89, Tryz.ntmps89
    go_wp2_with fail
    refine HML.out.mono ?_
    rintro e w' ⟨rfl, rfl⟩
    go_wp2_with fail
    go_ret2
    exact ⟨ret_two (by rw [HE.out.1]; rfl) HE.out.2.symm, rfl⟩
set_option maxHeartbeats 1600000 in
set_option maxRecDepth 100000 in
theorem up_uint8 (a b : Nat) (w : World) (ha : a < 256) (hb : b < 256) : Calls Tryz.prog 91 #[.int .u8 (a : Int), .int .u8 (b : Int)] w fun e w' => e = .returned (.tuple #[.int .u8 ((upV 256 a b : Nat) : Int), .bool (upO 256 a b)]) ∧ w' = w := by
  by_cases h0 : b = 0
  · subst h0
    have HE := Lib.hid (show upV 256 a 0 = 0 ∧ upO 256 a 0 = false from ⟨if_pos rfl, if_pos rfl⟩)
    go_enter Tryz.func91, Tryz.ntmps91
    go_wp2_with fail
    go_ret2
    exact ⟨ret_two (by rw [HE.out.1]; rfl) HE.out.2.symm, rfl⟩
  · have hpos : 0 < b := by omega
    have t0 : (b == 0) = false := beq_eq_false_iff_ne.2 h0
    have t0' : ((b : Int) == 0) = false := beq_eq_false_iff_ne.2 (by omega)
    have hbi : (b : Int) ≠ 0 := by omega
    obtain ⟨r, hr⟩ : ∃ r : Nat, a % b = r := ⟨_, rfl⟩
    have hri : (a : Int) % (b : Int) = (r : Int) := by rw [← hr]; exact (Int.natCast_emod a b).symm
    have hra : r ≤ a := by rw [← hr]; exact Nat.mod_le _ _
    by_cases hz : r = 0
    · have HE := Lib.hid (show upV 256 a b = a ∧ upO 256 a b = true from by
        have e := upM_zero (a := a) (b := b) (by rw [hr]; exact hz)
        unfold upV upO
        rw [if_neg h0, if_neg h0, e]; exact ⟨if_pos ha, decide_eq_true ha⟩)
      subst hz
      clear hr h0
      go_enter Tryz.func91, Tryz.ntmps91
      go_wp2_with fail
      go_ret2
      exact ⟨ret_two (by rw [HE.out.1]) HE.out.2.symm, rfl⟩
    · have t1 : ((r : Int) == 0) = false := beq_eq_false_iff_ne.2 (by omega)
      have t2 : (r == 0) = false := beq_eq_false_iff_ne.2 hz
      have HE := Lib.hid (show upV 256 a b = addV 256 (a - r) b ∧ upO 256 a b = addO 256 (a - r) b from by
        have e := upM_more (a := a) (b := b) (by rw [hr]; exact hz)
        rw [hr] at e
        unfold upV upO addV addO
        rw [if_neg h0, if_neg h0, e]; exact ⟨rfl, rfl⟩)
      have hm := add_uint8 (a - r) b w (by omega) hb
      rw [Int.natCast_sub hra] at hm
      have HMM := Lib.hid hm
      clear hr h0 hz hm
      go_enter Tryz.func91, Tryz.ntmps91
      go_wp2_with fail
      refine HMM.out.mono ?_
      rintro e w' ⟨rfl, rfl⟩
      go_wp2_with fail
      go_ret2
      exact ⟨ret_two (by rw [HE.out.1]) HE.out.2.symm, rfl⟩
set_option maxHeartbeats 1600000 in
set_option maxRecDepth 100000 in
theorem add_uint16 (a b : Nat) (w : World) (ha : a < 65536) (hb : b < 65536) : Calls Tryz.prog 94 #[.int .u16 (a : Int), .int .u16 (b : Int)] w fun e w' => e = .returned (.tuple #[.int .u16 ((addV 65536 a b : Nat) : Int), .bool (addO 65536 a b)]) ∧ w' = w := by
  by_cases h : a + b < 65536
  · have HE := Lib.hid (show addV 65536 a b = a + b ∧ addO 65536 a b = true from ⟨if_pos h, decide_eq_true h⟩)
    obtain ⟨c, hc⟩ : ∃ c : Nat, a + b = c := ⟨_, rfl⟩
    have hw : IntKind.u16.wrap ((a : Int) + (b : Int)) = (c : Int) := by rw [wu16]; omega
    have t1 : decide (a ≤ c) = true := decide_eq_true (by omega)
    have t2 : decide ((a : Int) ≤ (a : Int) + (b : Int)) = true := decide_eq_true (by omega)
    have HC := Lib.hid hc
    clear hc
    go_enter Tryz.func94, Tryz.ntmps94
    go_wp2_with fail
    go_ret2
    exact ⟨ret_two (by rw [HE.out.1]; have := HC.out; omega) HE.out.2.symm, rfl⟩
  · have HE := Lib.hid (show addV 65536 a b = 0 ∧ addO 65536 a b = false from ⟨if_neg h, decide_eq_false h⟩)
    obtain ⟨c, hw, hcl⟩ : ∃ c : Nat, IntKind.u16.wrap ((a : Int) + (b : Int)) = (c : Int) ∧ c < a := ⟨a + b - 65536, by rw [wu16]; omega, by omega⟩
    have t1 : decide (a ≤ c) = false := decide_eq_false (by omega)
    have t2 : decide ((a : Int) ≤ (c : Int)) = false := decide_eq_false (by omega)
    clear h
    go_enter Tryz.func94, Tryz.ntmps94
    go_wp2_with fail
    go_ret2
    exact ⟨ret_two (by rw [HE.out.1]; rfl) HE.out.2.symm, rfl⟩
set_option maxHeartbeats 1600000 in
set_option maxRecDepth 100000 in
theorem sub_uint16 (a b : Nat) (w : World) (ha : a < 65536) (hb : b < 65536) : Calls Tryz.prog 95 #[.int .u16 (a : Int), .int .u16 (b : Int)] w fun e w' => e = .returned (.tuple #[.int .u16 ((subV a b : Nat) : Int), .bool (subO a b)]) ∧ w' = w := by
  by_cases h : b ≤ a
  · have HE := Lib.hid (show subV a b = a - b ∧ subO a b = true from ⟨if_pos h, decide_eq_true h⟩)
    have hw : IntKind.u16.wrap ((a : Int) - (b : Int)) = (a : Int) - (b : Int) := by rw [wu16]; omega
    have t1 : decide (a < b) = false := decide_eq_false (by omega)
    go_enter Tryz.func95, Tryz.ntmps95
    go_wp2_with fail
    go_ret2
    exact ⟨ret_two (by rw [HE.out.1]; omega) HE.out.2.symm, rfl⟩
  · have HE := Lib.hid (show subV a b = 0 ∧ subO a b = false from ⟨if_neg h, decide_eq_false h⟩)
    have t1 : decide (a < b) = true := decide_eq_true (by omega)
    go_enter Tryz.func95, Tryz.ntmps95
    go_wp2_with fail
    go_ret2
    exact ⟨ret_two (by rw [HE.out.1]; rfl) HE.out.2.symm, rfl⟩
set_option maxHeartbeats 1600000 in
set_option maxRecDepth 100000 in
theorem mul_uint16 (a b : Nat) (w : World) (ha : a < 65536) (hb : b < 65536) : Calls Tryz.prog 96 #[.int .u16 (a : Int), .int .u16 (b : Int)] w fun e w' => e = .returned (.tuple #[.int .u16 ((mulV 65536 a b : Nat) : Int), .bool (mulO 65536 a b)]) ∧ w' = w := by
  have wa : IntKind.u64.wrap (a : Int) = (a : Int) := by rw [wu64]; omega
  have wb : IntKind.u64.wrap (b : Int) = (b : Int) := by rw [wu64]; omega
  have hml := mul64_ a b w (by omega) (by omega)
  obtain ⟨p, hp⟩ : ∃ p, a * b = p := ⟨_, rfl⟩
  rw [hp] at hml
  have HP := Lib.hid hp
  clear hp
  by_cases hbig : p < 18446744073709551616
  · rw [Nat.div_eq_of_lt hbig, Nat.mod_eq_of_lt hbig] at hml
    have HML := Lib.hid hml
    have HE := Lib.hid (show mulV 65536 a b = toV 65536 p ∧ mulO 65536 a b = toO 65536 p from by unfold mulV mulO toV toO; rw [HP.out]; exact ⟨rfl, rfl⟩)
    clear hml
    go_enter Tryz.func96, Tryz.ntmps96
    go_wp2_with fail
    refine HML.out.mono ?_
    rintro e w' ⟨rfl, rfl⟩
    go_wp2_with fail
    refine (to_uint16_uint64 p _ hbig).mono ?_
    rintro e w'' ⟨rfl, rfl⟩
    go_wp2_with fail
    go_ret2
    exact ⟨ret_two (by rw [HE.out.1]) HE.out.2.symm, rfl⟩
  · have HE := Lib.hid (show mulV 65536 a b = 0 ∧ mulO 65536 a b = false from by unfold mulV mulO; rw [HP.out]; exact ⟨if_neg (by omega), decide_eq_false (by omega)⟩)
    obtain ⟨h, hh, hhp⟩ : ∃ h : Nat, p / 18446744073709551616 = h ∧ 0 < h := ⟨_, rfl, by omega⟩
    rw [hh] at hml
    have HML := Lib.hid hml
    have t1 : ((h : Int) != 0) = true := by rw [bne_iff_ne]; omega
    have t2 : ((h : Int) == 0) = false := by rw [beq_eq_false_iff_ne]; omega
    have t3 : (h == 0) = false := by rw [beq_eq_false_iff_ne]; omega
    have t4 : (h != 0) = true := by rw [bne_iff_ne]; omega
    clear hml hh hbig
    go_enter Tryz.func96, Tryz.ntmps96
    go_wp2_with fail
    refine HML.out.mono ?_
    rintro e w' ⟨rfl, rfl⟩
    go_wp2_with fail
    go_ret2
    exact ⟨ret_two (by rw [HE.out.1]; rfl) HE.out.2.symm, rfl⟩
set_option maxHeartbeats 1600000 in
set_option maxRecDepth 100000 in
theorem up_uint16 (a b : Nat) (w : World) (ha : a < 65536) (hb : b < 65536) : Calls Tryz.prog 97 #[.int .u16 (a : Int), .int .u16 (b : Int)] w fun e w' => e = .returned (.tuple #[.int .u16 ((upV 65536 a b : Nat) : Int), .bool (upO 65536 a b)]) ∧ w' = w := by
  by_cases h0 : b = 0
  · subst h0
    have HE := Lib.hid (show upV 65536 a 0 = 0 ∧ upO 65536 a 0 = false from ⟨if_pos rfl, if_pos rfl⟩)
    go_enter Tryz.func97, Tryz.ntmps97
    go_wp2_with fail
    go_ret2
    exact ⟨ret_two (by rw [HE.out.1]; rfl) HE.out.2.symm, rfl⟩
  · have hpos : 0 < b := by omega
    have t0 : (b == 0) = false := beq_eq_false_iff_ne.2 h0
    have t0' : ((b : Int) == 0) = false := beq_eq_false_iff_ne.2 (by omega)
    have hbi : (b : Int) ≠ 0 := by omega
    obtain ⟨r, hr⟩ : ∃ r : Nat, a % b = r := ⟨_, rfl⟩
    have hri : (a : Int) % (b : Int) = (r : Int) := by rw [← hr]; exact (Int.natCast_emod a b).symm
    have hra : r ≤ a := by rw [← hr]; exact Nat.mod_le _ _
    by_cases hz : r = 0
    · have HE := Lib.hid (show upV 65536 a b = a ∧ upO 65536 a b = true from by
        have e := upM_zero (a := a) (b := b) (by rw [hr]; exact hz)
        unfold upV upO
        rw [if_neg h0, if_neg h0, e]; exact ⟨if_pos ha, decide_eq_true ha⟩)
      subst hz
      clear hr h0
      go_enter Tryz.func97, Tryz.ntmps97
      go_wp2_with fail
      go_ret2
      exact ⟨ret_two (by rw [HE.out.1]) HE.out.2.symm, rfl⟩
    · have t1 : ((r : Int) == 0) = false := beq_eq_false_iff_ne.2 (by omega)
      have t2 : (r == 0) = false := beq_eq_false_iff_ne.2 hz
      have HE := Lib.hid (show upV 65536 a b = addV 65536 (a - r) b ∧ upO 65536 a b = addO 65536 (a - r) b from by
        have e := upM_more (a := a) (b := b) (by rw [hr]; exact hz)
        rw [hr] at e
        unfold upV upO addV addO
        rw [if_neg h0, if_neg h0, e]; exact ⟨rfl, rfl⟩)
      have hm := add_uint16 (a - r) b w (by omega) hb
      rw [Int.natCast_sub hra] at hm
      have HMM := Lib.hid hm
      clear hr h0 hz hm
      go_enter Tryz.func97, Tryz.ntmps97
      go_wp2_with fail
      refine HMM.out.mono ?_
      rintro e w' ⟨rfl, rfl⟩
      go_wp2_with fail
      go_ret2
      exact ⟨ret_two (by rw [HE.out.1]) HE.out.2.symm, rfl⟩
set_option maxHeartbeats 1600000 in
set_option maxRecDepth 100000 in
theorem add_uint32 (a b : Nat) (w : World) (ha : a < 4294967296) (hb : b < 4294967296) : Calls Tryz.prog 99 #[.int .u32 (a : Int), .int .u32 (b : Int)] w fun e w' => e = .returned (.tuple #[.int .u32 ((addV 4294967296 a b : Nat) : Int), .bool (addO 4294967296 a b)]) ∧ w' = w := by
  by_cases h : a + b < 4294967296
  · have HE := Lib.hid (show addV 4294967296 a b = a + b ∧ addO 4294967296 a b = true from ⟨if_pos h, decide_eq_true h⟩)
    obtain ⟨c, hc⟩ : ∃ c : Nat, a + b = c := ⟨_, rfl⟩
    have hw : ((a : Int) + (b : Int)) % 4294967296 = (c : Int) := by omega
    have t1 : decide (a ≤ c) = true := decide_eq_true (by omega)
    have t2 : decide ((a : Int) ≤ (a : Int) + (b : Int)) = true := decide_eq_true (by omega)
    have HC := Lib.hid hc
    clear hc
    go_enter Tryz.func99, Tryz.ntmps99
    go_wp2_with fail
    go_ret2
    exact ⟨ret_two (by rw [HE.out.1]; have := HC.out; omega) HE.out.2.symm, rfl⟩
  · have HE := Lib.hid (show addV 4294967296 a b = 0 ∧ addO 4294967296 a b = false from ⟨if_neg h, decide_eq_false h⟩)
    obtain ⟨c, hw, hcl⟩ : ∃ c : Nat, ((a : Int) + (b : Int)) % 4294967296 = (c : Int) ∧ c < a := ⟨a + b - 4294967296, by omega, by omega⟩
    have t1 : decide (a ≤ c) = false := decide_eq_false (by omega)
    have t2 : decide ((a : Int) ≤ (c : Int)) = false := decide_eq_false (by omega)
    clear h
    go_enter Tryz.func99, Tryz.ntmps99
    go_wp2_with fail
    go_ret2
    exact ⟨ret_two (by rw [HE.out.1]; rfl) HE.out.2.symm, rfl⟩
set_option maxHeartbeats 1600000 in
set_option maxRecDepth 100000 in
theorem sub_uint32 (a b : Nat) (w : World) (ha : a < 4294967296) (hb : b < 4294967296) : Calls Tryz.prog 100 #[.int .u32 (a : Int), .int .u32 (b : Int)] w fun e w' => e = .returned (.tuple #[.int .u32 ((subV a b : Nat) : Int), .bool (subO a b)]) ∧ w' = w := by
  by_cases h : b ≤ a
  · have HE := Lib.hid (show subV a b = a - b ∧ subO a b = true from ⟨if_pos h, decide_eq_true h⟩)
    have hw : ((a : Int) - (b : Int)) % 4294967296 = (a : Int) - (b : Int) := by omega
    have t1 : decide (a < b) = false := decide_eq_false (by omega)
    go_enter Tryz.func100, Tryz.ntmps100
    go_wp2_with fail
    go_ret2
    exact ⟨ret_two (by rw [HE.out.1]; omega) HE.out.2.symm, rfl⟩
  · have HE := Lib.hid (show subV a b = 0 ∧ subO a b = false from ⟨if_neg h, decide_eq_false h⟩)
    have t1 : decide (a < b) = true := decide_eq_true (by omega)
    go_enter Tryz.func100, Tryz.ntmps100
    go_wp2_with fail
    go_ret2
    exact ⟨ret_two (by rw [HE.out.1]; rfl) HE.out.2.symm, rfl⟩
set_option maxHeartbeats 1600000 in
set_option maxRecDepth 100000 in
theorem mul_uint32 (a b : Nat) (w : World) (ha : a < 4294967296) (hb : b < 4294967296) : Calls Tryz.prog 101 #[.int .u32 (a : Int), .int .u32 (b : Int)] w fun e w' => e = .returned (.tuple #[.int .u32 ((mulV 4294967296 a b : Nat) : Int), .bool (mulO 4294967296 a b)]) ∧ w' = w := by
  have wa : IntKind.u64.wrap (a : Int) = (a : Int) := by rw [wu64]; omega
  have wb : IntKind.u64.wrap (b : Int) = (b : Int) := by rw [wu64]; omega
  have hml := mul64_ a b w (by omega) (by omega)
  obtain ⟨p, hp⟩ : ∃ p, a * b = p := ⟨_, rfl⟩
  rw [hp] at hml
  have HP := Lib.hid hp
  clear hp
  by_cases hbig : p < 18446744073709551616
  · rw [Nat.div_eq_of_lt hbig, Nat.mod_eq_of_lt hbig] at hml
    have HML := Lib.hid hml
    have HE := Lib.hid (show mulV 4294967296 a b = toV 4294967296 p ∧ mulO 4294967296 a b = toO 4294967296 p from by unfold mulV mulO toV toO; rw [HP.out]; exact ⟨rfl, rfl⟩)
    clear hml
    go_enter Tryz.func101, Tryz.ntmps101
    go_wp2_with fail
    refine HML.out.mono ?_
    rintro e w' ⟨rfl, rfl⟩
    go_wp2_with fail
    refine (to_uint32_uint64 p _ hbig).mono ?_
    rintro e w'' ⟨rfl, rfl⟩
    go_wp2_with fail
    go_ret2
    exact ⟨ret_two (by rw [HE.out.1]) HE.out.2.symm, rfl⟩
  · have HE := Lib.hid (show mulV 4294967296 a b = 0 ∧ mulO 4294967296 a b = false from by unfold mulV mulO; rw [HP.out]; exact ⟨if_neg (by omega), decide_eq_false (by omega)⟩)
    obtain ⟨h, hh, hhp⟩ : ∃ h : Nat, p / 18446744073709551616 = h ∧ 0 < h := ⟨_, rfl, by omega⟩
    rw [hh] at hml
    have HML := Lib.hid hml
    have t1 : ((h : Int) != 0) = true := by rw [bne_iff_ne]; omega
    have t2 : ((h : Int) == 0) = false := by rw [beq_eq_false_iff_ne]; omega
    have t3 : (h == 0) = false := by rw [beq_eq_false_iff_ne]; omega
    have t4 : (h != 0) = true := by rw [bne_iff_ne]; omega
    clear hml hh hbig
    go_enter Tryz.func101, Tryz.ntmps101
    go_wp2_with fail
    refine HML.out.mono ?_
    rintro e w' ⟨rfl, rfl⟩
    go_wp2_with fail
    go_ret2
    exact ⟨ret_two (by rw [HE.out.1]; rfl) HE.out.2.symm, rfl⟩
set_option maxHeartbeats 1600000 in
set_option maxRecDepth 100000 in
theorem up_uint32 (a b : Nat) (w : World) (ha : a < 4294967296) (hb : b < 4294967296) : Calls Tryz.prog 102 #[.int .u32 (a : Int), .int .u32 (b : Int)] w fun e w' => e = .returned (.tuple #[.int .u32 ((upV 4294967296 a b : Nat) : Int), .bool (upO 4294967296 a b)]) ∧ w' = w := by
  by_cases h0 : b = 0
  · subst h0
    have HE := Lib.hid (show upV 4294967296 a 0 = 0 ∧ upO 4294967296 a 0 = false from ⟨if_pos rfl, if_pos rfl⟩)
    go_enter Tryz.func102, Tryz.ntmps102
    go_wp2_with fail
    go_ret2
    exact ⟨ret_two (by rw [HE.out.1]; rfl) HE.out.2.symm, rfl⟩
  · have hpos : 0 < b := by omega
    have t0 : (b == 0) = false := beq_eq_false_iff_ne.2 h0
    have t0' : ((b : Int) == 0) = false := beq_eq_false_iff_ne.2 (by omega)
    have hbi : (b : Int) ≠ 0 := by omega
    obtain ⟨r, hr⟩ : ∃ r : Nat, a % b = r := ⟨_, rfl⟩
    have hri : (a : Int) % (b : Int) = (r : Int) := by rw [← hr]; exact (Int.natCast_emod a b).symm
    have hra : r ≤ a := by rw [← hr]; exact Nat.mod_le _ _
    by_cases hz : r = 0
    · have HE := Lib.hid (show upV 4294967296 a b = a ∧ upO 4294967296 a b = true from by
        have e := upM_zero (a := a) (b := b) (by rw [hr]; exact hz)
        unfold upV upO
        rw [if_neg h0, if_neg h0, e]; exact ⟨if_pos ha, decide_eq_true ha⟩)
      subst hz
      clear hr h0
      go_enter Tryz.func102, Tryz.ntmps102
      go_wp2_with fail
      go_ret2
      exact ⟨ret_two (by rw [HE.out.1]) HE.out.2.symm, rfl⟩
    · have t1 : ((r : Int) == 0) = false := beq_eq_false_iff_ne.2 (by omega)
      have t2 : (r == 0) = false := beq_eq_false_iff_ne.2 hz
      have HE := Lib.hid (show upV 4294967296 a b = addV 4294967296 (a - r) b ∧ upO 4294967296 a b = addO 4294967296 (a - r) b from by
        have e := upM_more (a := a) (b := b) (by rw [hr]; exact hz)
        rw [hr] at e
        unfold upV upO addV addO
        rw [if_neg h0, if_neg h0, e]; exact ⟨rfl, rfl⟩)
      have hm := add_uint32 (a - r) b w (by omega) hb
      rw [Int.natCast_sub hra] at hm
      have HMM := Lib.hid hm
      clear hr h0 hz hm
      go_enter Tryz.func102, Tryz.ntmps102
      go_wp2_with fail
      refine HMM.out.mono ?_
      rintro e w' ⟨rfl, rfl⟩
      go_wp2_with fail
      go_ret2
      exact ⟨ret_two (by rw [HE.out.1]) HE.out.2.symm, rfl⟩
set_option maxHeartbeats 1600000 in
set_option maxRecDepth 100000 in
theorem add_uint64 (a b : Nat) (w : World) (ha : a < 18446744073709551616) (hb : b < 18446744073709551616) : Calls Tryz.prog 104 #[.int .u64 (a : Int), .int .u64 (b : Int)] w fun e w' => e = .returned (.tuple #[.int .u64 ((addV 18446744073709551616 a b : Nat) : Int), .bool (addO 18446744073709551616 a b)]) ∧ w' = w := by
  by_cases h : a + b < 18446744073709551616
  · have HE := Lib.hid (show addV 18446744073709551616 a b = a + b ∧ addO 18446744073709551616 a b = true from ⟨if_pos h, decide_eq_true h⟩)
    obtain ⟨c, hc⟩ : ∃ c : Nat, a + b = c := ⟨_, rfl⟩
    have hw : IntKind.u64.wrap ((a : Int) + (b : Int)) = (c : Int) := by rw [wu64]; omega
    have t1 : decide (a ≤ c) = true := decide_eq_true (by omega)
    have t2 : decide ((a : Int) ≤ (a : Int) + (b : Int)) = true := decide_eq_true (by omega)
    have HC := Lib.hid hc
    clear hc
    go_enter Tryz.func104, Tryz.ntmps104
    go_wp2_with fail
    go_ret2
    exact ⟨ret_two (by rw [HE.out.1]; have := HC.out; omega) HE.out.2.symm, rfl⟩
  · have HE := Lib.hid (show addV 18446744073709551616 a b = 0 ∧ addO 18446744073709551616 a b = false from ⟨if_neg h, decide_eq_false h⟩)
    obtain ⟨c, hw, hcl⟩ : ∃ c : Nat, IntKind.u64.wrap ((a : Int) + (b : Int)) = (c : Int) ∧ c < a := ⟨a + b - 18446744073709551616, by rw [wu64]; omega, by omega⟩
    have t1 : decide (a ≤ c) = false := decide_eq_false (by omega)
    have t2 : decide ((a : Int) ≤ (c : Int)) = false := decide_eq_false (by omega)
    clear h
    go_enter Tryz.func104, Tryz.ntmps104
    go_wp2_with fail
    go_ret2
    exact ⟨ret_two (by rw [HE.out.1]; rfl) HE.out.2.symm, rfl⟩
set_option maxHeartbeats 1600000 in
set_option maxRecDepth 100000 in
theorem sub_uint64 (a b : Nat) (w : World) (ha : a < 18446744073709551616) (hb : b < 18446744073709551616) : Calls Tryz.prog 105 #[.int .u64 (a : Int), .int .u64 (b : Int)] w fun e w' => e = .returned (.tuple #[.int .u64 ((subV a b : Nat) : Int), .bool (subO a b)]) ∧ w' = w := by
  by_cases h : b ≤ a
  · have HE := Lib.hid (show subV a b = a - b ∧ subO a b = true from ⟨if_pos h, decide_eq_true h⟩)
    have hw : IntKind.u64.wrap ((a : Int) - (b : Int)) = (a : Int) - (b : Int) := by rw [wu64]; omega
    have t1 : decide (a < b) = false := decide_eq_false (by omega)
    go_enter Tryz.func105, Tryz.ntmps105
    go_wp2_with fail
    go_ret2
    exact ⟨ret_two (by rw [HE.out.1]; omega) HE.out.2.symm, rfl⟩
  · have HE := Lib.hid (show subV a b = 0 ∧ subO a b = false from ⟨if_neg h, decide_eq_false h⟩)
    have t1 : decide (a < b) = true := decide_eq_true (by omega)
    go_enter Tryz.func105, Tryz.ntmps105
    go_wp2_with fail
    go_ret2
    exact ⟨ret_two (by rw [HE.out.1]; rfl) HE.out.2.symm, rfl⟩
set_option maxHeartbeats 1600000 in
set_option maxRecDepth 100000 in
theorem mul_uint64 (a b : Nat) (w : World) (ha : a < 18446744073709551616) (hb : b < 18446744073709551616) : Calls Tryz.prog 106 #[.int .u64 (a : Int), .int .u64 (b : Int)] w fun e w' => e = .returned (.tuple #[.int .u64 ((mulV 18446744073709551616 a b : Nat) : Int), .bool (mulO 18446744073709551616 a b)]) ∧ w' = w := by
  have wa : IntKind.u64.wrap (a : Int) = (a : Int) := by rw [wu64]; omega
  have wb : IntKind.u64.wrap (b : Int) = (b : Int) := by rw [wu64]; omega
  have hml := mul64_ a b w (by omega) (by omega)
  obtain ⟨p, hp⟩ : ∃ p, a * b = p := ⟨_, rfl⟩
  rw [hp] at hml
  have HP := Lib.hid hp
  clear hp
  by_cases hbig : p < 18446744073709551616
  · rw [Nat.div_eq_of_lt hbig, Nat.mod_eq_of_lt hbig] at hml
    have HML := Lib.hid hml
    have HE := Lib.hid (show mulV 18446744073709551616 a b = toV 18446744073709551616 p ∧ mulO 18446744073709551616 a b = toO 18446744073709551616 p from by unfold mulV mulO toV toO; rw [HP.out]; exact ⟨rfl, rfl⟩)
    clear hml
    go_enter Tryz.func106, Tryz.ntmps106
    go_wp2_with fail
    refine HML.out.mono ?_
    rintro e w' ⟨rfl, rfl⟩
    go_wp2_with fail
    refine (to_uint64_uint64 p _ hbig).mono ?_
    rintro e w'' ⟨rfl, rfl⟩
    go_wp2_with fail
    go_ret2
    exact ⟨ret_two (by rw [HE.out.1]) HE.out.2.symm, rfl⟩
  · have HE := Lib.hid (show mulV 18446744073709551616 a b = 0 ∧ mulO 18446744073709551616 a b = false from by unfold mulV mulO; rw [HP.out]; exact ⟨if_neg (by omega), decide_eq_false (by omega)⟩)
    obtain ⟨h, hh, hhp⟩ : ∃ h : Nat, p / 18446744073709551616 = h ∧ 0 < h := ⟨_, rfl, by omega⟩
    rw [hh] at hml
    have HML := Lib.hid hml
    have t1 : ((h : Int) != 0) = true := by rw [bne_iff_ne]; omega
    have t2 : ((h : Int) == 0) = false := by rw [beq_eq_false_iff_ne]; omega
    have t3 : (h == 0) = false := by rw [beq_eq_false_iff_ne]; omega
    have t4 : (h != 0) = true := by rw [bne_iff_ne]; omega
    clear hml hh hbig
    go_enter Tryz.func106, Tryz.ntmps106
    go_wp2_with fail
    refine HML.out.mono ?_
    rintro e w' ⟨rfl, rfl⟩
    go_wp2_with fail
    go_ret2
    exact ⟨ret_two (by rw [HE.out.1]; rfl) HE.out.2.symm, rfl⟩
set_option maxHeartbeats 1600000 in
set_option maxRecDepth 100000 in
theorem up_uint64 (a b : Nat) (w : World) (ha : a < 18446744073709551616) (hb : b < 18446744073709551616) : Calls Tryz.prog 107 #[.int .u64 (a : Int), .int .u64 (b : Int)] w fun e w' => e = .returned (.tuple #[.int .u64 ((upV 18446744073709551616 a b : Nat) : Int), .bool (upO 18446744073709551616 a b)]) ∧ w' = w := by
  by_cases h0 : b = 0
  · subst h0
    have HE := Lib.hid (show upV 18446744073709551616 a 0 = 0 ∧ upO 18446744073709551616 a 0 = false from ⟨if_pos rfl, if_pos rfl⟩)
    go_enter Tryz.func107, Tryz.ntmps107
    go_wp2_with fail
    go_ret2
    exact ⟨ret_two (by rw [HE.out.1]; rfl) HE.out.2.symm, rfl⟩
  · have hpos : 0 < b := by omega
    have t0 : (b == 0) = false := beq_eq_false_iff_ne.2 h0
    have t0' : ((b : Int) == 0) = false := beq_eq_false_iff_ne.2 (by omega)
    have hbi : (b : Int) ≠ 0 := by omega
    obtain ⟨r, hr⟩ : ∃ r : Nat, a % b = r := ⟨_, rfl⟩
    have hri : (a : Int) % (b : Int) = (r : Int) := by rw [← hr]; exact (Int.natCast_emod a b).symm
    have hra : r ≤ a := by rw [← hr]; exact Nat.mod_le _ _
    by_cases hz : r = 0
    · have HE := Lib.hid (show upV 18446744073709551616 a b = a ∧ upO 18446744073709551616 a b = true from by
        have e := upM_zero (a := a) (b := b) (by rw [hr]; exact hz)
        unfold upV upO
        rw [if_neg h0, if_neg h0, e]; exact ⟨if_pos ha, decide_eq_true ha⟩)
      subst hz
      clear hr h0
      go_enter Tryz.func107, Tryz.ntmps107
      go_wp2_with fail
      go_ret2
      exact ⟨ret_two (by rw [HE.out.1]) HE.out.2.symm, rfl⟩
    · have t1 : ((r : Int) == 0) = false := beq_eq_false_iff_ne.2 (by omega)
      have t2 : (r == 0) = false := beq_eq_false_iff_ne.2 hz
      have HE := Lib.hid (show upV 18446744073709551616 a b = addV 18446744073709551616 (a - r) b ∧ upO 18446744073709551616 a b = addO 18446744073709551616 (a - r) b from by
        have e := upM_more (a := a) (b := b) (by rw [hr]; exact hz)
        rw [hr] at e
        unfold upV upO addV addO
        rw [if_neg h0, if_neg h0, e]; exact ⟨rfl, rfl⟩)
      have hm := add_uint64 (a - r) b w (by omega) hb
      rw [Int.natCast_sub hra] at hm
      have HMM := Lib.hid hm
      clear hr h0 hz hm
      go_enter Tryz.func107, Tryz.ntmps107
      go_wp2_with fail
      refine HMM.out.mono ?_
      rintro e w' ⟨rfl, rfl⟩
      go_wp2_with fail
      go_ret2
      exact ⟨ret_two (by rw [HE.out.1]) HE.out.2.symm, rfl⟩
set_option maxHeartbeats 1600000 in
set_option maxRecDepth 100000 in
theorem add_Tiny (a b : Nat) (w : World) (ha : a < 256) (hb : b < 256) : Calls Tryz.prog 109 #[.int .u8 (a : Int), .int .u8 (b : Int)] w fun e w' => e = .returned (.tuple #[.int .u8 ((addV 256 a b : Nat) : Int), .bool (addO 256 a b)]) ∧ w' = w := by
  by_cases h : a + b < 256
  · have HE := Lib.hid (show addV 256 a b = a + b ∧ addO 256 a b = true from ⟨if_pos h, decide_eq_true h⟩)
    obtain ⟨c, hc⟩ : ∃ c : Nat, a + b = c := ⟨_, rfl⟩
    have hw : ((a : Int) + (b : Int)) % 256 = (c : Int) := by omega
    have t1 : decide (a ≤ c) = true := decide_eq_true (by omega)
    have t2 : decide ((a : Int) ≤ (a : Int) + (b : Int)) = true := decide_eq_true (by omega)
    have HC := Lib.hid hc
    clear hc
    go_enter Tryz.func109, Tryz.ntmps109
    go_wp2_with fail
    go_ret2
    exact ⟨ret_two (by rw [HE.out.1]; have := HC.out; omega) HE.out.2.symm, rfl⟩
  · have HE := Lib.hid (show addV 256 a b = 0 ∧ addO 256 a b = false from ⟨if_neg h, decide_eq_false h⟩)
    obtain ⟨c, hw, hcl⟩ : ∃ c : Nat, ((a : Int) + (b : Int)) % 256 = (c : Int) ∧ c < a := ⟨a + b - 256, by omega, by omega⟩
    have t1 : decide (a ≤ c) = false := decide_eq_false (by omega)
    have t2 : decide ((a : Int) ≤ (c : Int)) = false := decide_eq_false (by omega)
    clear h
    go_enter Tryz.func109, Tryz.ntmps109
    go_wp2_with fail
    go_ret2
    exact ⟨ret_two (by rw [HE.out.1]; rfl) HE.out.2.symm, rfl⟩
set_option maxHeartbeats 1600000 in
set_option maxRecDepth 100000 in
theorem sub_Tiny (a b : Nat) (w : World) (ha : a < 256) (hb : b < 256) : Calls Tryz.prog 110 #[.int .u8 (a : Int), .int .u8 (b : Int)] w fun e w' => e = .returned (.tuple #[.int .u8 ((subV a b : Nat) : Int), .bool (subO a b)]) ∧ w' = w := by
  by_cases h : b ≤ a
  · have HE := Lib.hid (show subV a b = a - b ∧ subO a b = true from ⟨if_pos h, decide_eq_true h⟩)
    have hw : ((a : Int) - (b : Int)) % 256 = (a : Int) - (b : Int) := by omega
    have t1 : decide (a < b) = false := decide_eq_false (by omega)
    go_enter Tryz.func110, Tryz.ntmps110
    go_wp2_with fail
    go_ret2
    exact ⟨ret_two (by rw [HE.out.1]; omega) HE.out.2.symm, rfl⟩
  · have HE := Lib.hid (show subV a b = 0 ∧ subO a b = false from ⟨if_neg h, decide_eq_false h⟩)
    have t1 : decide (a < b) = true := decide_eq_true (by omega)
    go_enter Tryz.func110, Tryz.ntmps110
    go_wp2_with fail
    go_ret2
    exact ⟨ret_two (by rw [HE.out.1]; rfl) HE.out.2.symm, rfl⟩
set_option maxHeartbeats 1600000 in
set_option maxRecDepth 100000 in
theorem mul_Tiny (a b : Nat) (w : World) (ha : a < 256) (hb : b < 256) : Calls Tryz.prog 111 #[.int .u8 (a : Int), .int .u8 (b : Int)] w fun e w' => e = .returned (.tuple #[.int .u8 ((mulV 256 a b : Nat) : Int), .bool (mulO 256 a b)]) ∧ w' = w := by
  have wa : IntKind.u64.wrap (a : Int) = (a : Int) := by rw [wu64]; omega
  have wb : IntKind.u64.wrap (b : Int) = (b : Int) := by rw [wu64]; omega
  have hml := mul64_ a b w (by omega) (by omega)
  obtain ⟨p, hp⟩ : ∃ p, a * b = p := ⟨_, rfl⟩
  rw [hp] at hml
  have HP := Lib.hid hp
  clear hp
  by_cases hbig : p < 18446744073709551616
  · rw [Nat.div_eq_of_lt hbig, Nat.mod_eq_of_lt hbig] at hml
    have HML := Lib.hid hml
    have HE := Lib.hid (show mulV 256 a b = toV 256 p ∧ mulO 256 a b = toO 256 p from by unfold mulV mulO toV toO; rw [HP.out]; exact ⟨rfl, rfl⟩)
    clear hml
    go_enter Tryz.func111, Tryz.ntmps111
    go_wp2_with fail
    refine HML.out.mono ?_
    rintro e w' ⟨rfl, rfl⟩
    go_wp2_with fail
    refine (to_Tiny_uint64 p _ hbig).mono ?_
    rintro e w'' ⟨rfl, rfl⟩
    go_wp2_with fail
    go_ret2
    exact ⟨ret_two (by rw [HE.out.1]) HE.out.2.symm, rfl⟩
  · have HE := Lib.hid (show mulV 256 a b = 0 ∧ mulO 256 a b = false from by unfold mulV mulO; rw [HP.out]; exact ⟨if_neg (by omega), decide_eq_false (by omega)⟩)
    obtain ⟨h, hh, hhp⟩ : ∃ h : Nat, p / 18446744073709551616 = h ∧ 0 < h := ⟨_, rfl, by omega⟩
    rw [hh] at hml
    have HML := Lib.hid hml
    have t1 : ((h : Int) != 0) = true := by rw [bne_iff_ne]; omega
    have t2 : ((h : Int) == 0) = false := by rw [beq_eq_false_iff_ne]; omega
    have t3 : (h == 0) = false := by rw [beq_eq_false_iff_ne]; omega
    have t4 : (h != 0) = true := by rw [bne_iff_ne]; omega
    clear hml hh hbig
    go_enter Tryz.func111, Tryz.ntmps111
    go_wp2_with fail
    refine HML.out.mono ?_
    rintro e w' ⟨rfl, rfl⟩
    go_wp2_with fail
    go_ret2
    exact ⟨ret_two (by rw [HE.out.1]; rfl) HE.out.2.symm, rfl⟩
set_option maxHeartbeats 1600000 in
set_option maxRecDepth 100000 in
theorem up_Tiny (a b : Nat) (w : World) (ha : a < 256) (hb : b < 256) : Calls Tryz.prog 112 #[.int .u8 (a : Int), .int .u8 (b : Int)] w fun e w' => e = .returned (.tuple #[.int .u8 ((upV 256 a b : Nat) : Int), .bool (upO 256 a b)]) ∧ w' = w := by
  by_cases h0 : b = 0
  · subst h0
    have HE := Lib.hid (show upV 256 a 0 = 0 ∧ upO 256 a 0 = false from ⟨if_pos rfl, if_pos rfl⟩)
    go_enter Tryz.func112, Tryz.ntmps112
    go_wp2_with fail
    go_ret2
    exact ⟨ret_two (by rw [HE.out.1]; rfl) HE.out.2.symm, rfl⟩
  · have hpos : 0 < b := by omega
    have t0 : (b == 0) = false := beq_eq_false_iff_ne.2 h0
    have t0' : ((b : Int) == 0) = false := beq_eq_false_iff_ne.2 (by omega)
    have hbi : (b : Int) ≠ 0 := by omega
    obtain ⟨r, hr⟩ : ∃ r : Nat, a % b = r := ⟨_, rfl⟩
    have hri : (a : Int) % (b : Int) = (r : Int) := by rw [← hr]; exact (Int.natCast_emod a b).symm
    have hra : r ≤ a := by rw [← hr]; exact Nat.mod_le _ _
    by_cases hz : r = 0
    · have HE := Lib.hid (show upV 256 a b = a ∧ upO 256 a b = true from by
        have e := upM_zero (a := a) (b := b) (by rw [hr]; exact hz)
        unfold upV upO
        rw [if_neg h0, if_neg h0, e]; exact ⟨if_pos ha, decide_eq_true ha⟩)
      subst hz
      clear hr h0
      go_enter Tryz.func112, Tryz.ntmps112
      go_wp2_with fail
      go_ret2
      exact ⟨ret_two (by rw [HE.out.1]) HE.out.2.symm, rfl⟩
    · have t1 : ((r : Int) == 0) = false := beq_eq_false_iff_ne.2 (by omega)
      have t2 : (r == 0) = false := beq_eq_false_iff_ne.2 hz
      have HE := Lib.hid (show upV 256 a b = addV 256 (a - r) b ∧ upO 256 a b = addO 256 (a - r) b from by
        have e := upM_more (a := a) (b := b) (by rw [hr]; exact hz)
        rw [hr] at e
        unfold upV upO addV addO
        rw [if_neg h0, if_neg h0, e]; exact ⟨rfl, rfl⟩)
      have hm := add_Tiny (a - r) b w (by omega) hb
      rw [Int.natCast_sub hra] at hm
      have HMM := Lib.hid hm
      clear hr h0 hz hm
      go_enter Tryz.func112, Tryz.ntmps112
      go_wp2_with fail
      refine HMM.out.mono ?_
      rintro e w' ⟨rfl, rfl⟩
      go_wp2_with fail
      go_ret2
      exact ⟨ret_two (by rw [HE.out.1]) HE.out.2.symm, rfl⟩
set_option maxHeartbeats 1600000 in
set_option maxRecDepth 100000 in
theorem add_Small (a b : Nat) (w : World) (ha : a < 65536) (hb : b < 65536) : Calls Tryz.prog 114 #[.int .u16 (a : Int), .int .u16 (b : Int)] w fun e w' => e = .returned (.tuple #[.int .u16 ((addV 65536 a b : Nat) : Int), .bool (addO 65536 a b)]) ∧ w' = w := by
  by_cases h : a + b < 65536
  · have HE := Lib.hid (show addV 65536 a b = a + b ∧ addO 65536 a b = true from ⟨if_pos h, decide_eq_true h⟩)
    obtain ⟨c, hc⟩ : ∃ c : Nat, a + b = c := ⟨_, rfl⟩
    have hw : IntKind.u16.wrap ((a : Int) + (b : Int)) = (c : Int) := by rw [wu16]; omega
    have t1 : decide (a ≤ c) = true := decide_eq_true (by omega)
    have t2 : decide ((a : Int) ≤ (a : Int) + (b : Int)) = true := decide_eq_true (by omega)
    have HC := Lib.hid hc
    clear hc
    go_enter Tryz.func114, Tryz.ntmps114
    go_wp2_with fail
    go_ret2
    exact ⟨ret_two (by rw [HE.out.1]; have := HC.out; omega) HE.out.2.symm, rfl⟩
  · have HE := Lib.hid (show addV 65536 a b = 0 ∧ addO 65536 a b = false from ⟨if_neg h, decide_eq_false h⟩)
    obtain ⟨c, hw, hcl⟩ : ∃ c : Nat, IntKind.u16.wrap ((a : Int) + (b : Int)) = (c : Int) ∧ c < a := ⟨a + b - 65536, by rw [wu16]; omega, by omega⟩
    have t1 : decide (a ≤ c) = false := decide_eq_false (by omega)
    have t2 : decide ((a : Int) ≤ (c : Int)) = false := decide_eq_false (by omega)
    clear h
    go_enter Tryz.func114, Tryz.ntmps114
    go_wp2_with fail
    go_ret2
    exact ⟨ret_two (by rw [HE.out.1]; rfl) HE.out.2.symm, rfl⟩
set_option maxHeartbeats 1600000 in
set_option maxRecDepth 100000 in
theorem sub_Small (a b : Nat) (w : World) (ha : a < 65536) (hb : b < 65536) : Calls Tryz.prog 115 #[.int .u16 (a : Int), .int .u16 (b : Int)] w fun e w' => e = .returned (.tuple #[.int .u16 ((subV a b : Nat) : Int), .bool (subO a b)]) ∧ w' = w := by
  by_cases h : b ≤ a
  · have HE := Lib.hid (show subV a b = a - b ∧ subO a b = true from ⟨if_pos h, decide_eq_true h⟩)
    have hw : IntKind.u16.wrap ((a : Int) - (b : Int)) = (a : Int) - (b : Int) := by rw [wu16]; omega
    have t1 : decide (a < b) = false := decide_eq_false (by omega)
    go_enter Tryz.func115, Tryz.ntmps115
    go_wp2_with fail
    go_ret2
    exact ⟨ret_two (by rw [HE.out.1]; omega) HE.out.2.symm, rfl⟩
  · have HE := Lib.hid (show subV a b = 0 ∧ subO a b = false from ⟨if_neg h, decide_eq_false h⟩)
    have t1 : decide (a < b) = true := decide_eq_true (by omega)
    go_enter Tryz.func115, Tryz.ntmps115
    go_wp2_with fail
    go_ret2
    exact ⟨ret_two (by rw [HE.out.1]; rfl) HE.out.2.symm, rfl⟩
set_option maxHeartbeats 1600000 in
set_option maxRecDepth 100000 in
theorem mul_Small (a b : Nat) (w : World) (ha : a < 65536) (hb : b < 65536) : Calls Tryz.prog 116 #[.int .u16 (a : Int), .int .u16 (b : Int)] w fun e w' => e = .returned (.tuple #[.int .u16 ((mulV 65536 a b : Nat) : Int), .bool (mulO 65536 a b)]) ∧ w' = w := by
  have wa : IntKind.u64.wrap (a : Int) = (a : Int) := by rw [wu64]; omega
  have wb : IntKind.u64.wrap (b : Int) = (b : Int) := by rw [wu64]; omega
  have hml := mul64_ a b w (by omega) (by omega)
  obtain ⟨p, hp⟩ : ∃ p, a * b = p := ⟨_, rfl⟩
  rw [hp] at hml
  have HP := Lib.hid hp
  clear hp
  by_cases hbig : p < 18446744073709551616
  · rw [Nat.div_eq_of_lt hbig, Nat.mod_eq_of_lt hbig] at hml
    have HML := Lib.hid hml
    have HE := Lib.hid (show mulV 65536 a b = toV 65536 p ∧ mulO 65536 a b = toO 65536 p from by unfold mulV mulO toV toO; rw [HP.out]; exact ⟨rfl, rfl⟩)
    clear hml
    go_enter Tryz.func116, Tryz.ntmps116
    go_wp2_with fail
    refine HML.out.mono ?_
    rintro e w' ⟨rfl, rfl⟩
    go_wp2_with fail
    refine (to_Small_uint64 p _ hbig).mono ?_
    rintro e w'' ⟨rfl, rfl⟩
    go_wp2_with fail
    go_ret2
    exact ⟨ret_two (by rw [HE.out.1]) HE.out.2.symm, rfl⟩
  · have HE := Lib.hid (show mulV 65536 a b = 0 ∧ mulO 65536 a b = false from by unfold mulV mulO; rw [HP.out]; exact ⟨if_neg (by omega), decide_eq_false (by omega)⟩)
    obtain ⟨h, hh, hhp⟩ : ∃ h : Nat, p / 18446744073709551616 = h ∧ 0 < h := ⟨_, rfl, by omega⟩
    rw [hh] at hml
    have HML := Lib.hid hml
    have t1 : ((h : Int) != 0) = true := by rw [bne_iff_ne]; omega
    have t2 : ((h : Int) == 0) = false := by rw [beq_eq_false_iff_ne]; omega
    have t3 : (h == 0) = false := by rw [beq_eq_false_iff_ne]; omega
    have t4 : (h != 0) = true := by rw [bne_iff_ne]; omega
    clear hml hh hbig
    go_enter Tryz.func116, Tryz.ntmps116
    go_wp2_with fail
    refine HML.out.mono ?_
    rintro e w' ⟨rfl, rfl⟩
    go_wp2_with fail
    go_ret2
    exact ⟨ret_two (by rw [HE.out.1]; rfl) HE.out.2.symm, rfl⟩
set_option maxHeartbeats 1600000 in
set_option maxRecDepth 100000 in
theorem up_Small (a b : Nat) (w : World) (ha : a < 65536) (hb : b < 65536) : Calls Tryz.prog 117 #[.int .u16 (a : Int), .int .u16 (b : Int)] w fun e w' => e = .returned (.tuple #[.int .u16 ((upV 65536 a b : Nat) : Int), .bool (upO 65536 a b)]) ∧ w' = w := by
  by_cases h0 : b = 0
  · subst h0
    have HE := Lib.hid (show upV 65536 a 0 = 0 ∧ upO 65536 a 0 = false from ⟨if_pos rfl, if_pos rfl⟩)
    go_enter Tryz.func117, Tryz.ntmps117
    go_wp2_with fail
    go_ret2
    exact ⟨ret_two (by rw [HE.out.1]; rfl) HE.out.2.symm, rfl⟩
  · have hpos : 0 < b := by omega
    have t0 : (b == 0) = false := beq_eq_false_iff_ne.2 h0
    have t0' : ((b : Int) == 0) = false := beq_eq_false_iff_ne.2 (by omega)
    have hbi : (b : Int) ≠ 0 := by omega
    obtain ⟨r, hr⟩ : ∃ r : Nat, a % b = r := ⟨_, rfl⟩
    have hri : (a : Int) % (b : Int) = (r : Int) := by rw [← hr]; exact (Int.natCast_emod a b).symm
    have hra : r ≤ a := by rw [← hr]; exact Nat.mod_le _ _
    by_cases hz : r = 0
    · have HE := Lib.hid (show upV 65536 a b = a ∧ upO 65536 a b = true from by
        have e := upM_zero (a := a) (b := b) (by rw [hr]; exact hz)
        unfold upV upO
        rw [if_neg h0, if_neg h0, e]; exact ⟨if_pos ha, decide_eq_true ha⟩)
      subst hz
      clear hr h0
      go_enter Tryz.func117, Tryz.ntmps117
      go_wp2_with fail
      go_ret2
      exact ⟨ret_two (by rw [HE.out.1]) HE.out.2.symm, rfl⟩
    · have t1 : ((r : Int) == 0) = false := beq_eq_false_iff_ne.2 (by omega)
      have t2 : (r == 0) = false := beq_eq_false_iff_ne.2 hz
      have HE := Lib.hid (show upV 65536 a b = addV 65536 (a - r) b ∧ upO 65536 a b = addO 65536 (a - r) b from by
        have e := upM_more (a := a) (b := b) (by rw [hr]; exact hz)
        rw [hr] at e
        unfold upV upO addV addO
        rw [if_neg h0, if_neg h0, e]; exact ⟨rfl, rfl⟩)
      have hm := add_Small (a - r) b w (by omega) hb
      rw [Int.natCast_sub hra] at hm
      have HMM := Lib.hid hm
      clear hr h0 hz hm
      go_enter Tryz.func117, Tryz.ntmps117
      go_wp2_with fail
      refine HMM.out.mono ?_
      rintro e w' ⟨rfl, rfl⟩
      go_wp2_with fail
      go_ret2
      exact ⟨ret_two (by rw [HE.out.1]) HE.out.2.symm, rfl⟩
set_option maxHeartbeats 1600000 in
set_option maxRecDepth 100000 in
theorem add_Plain (a b : Nat) (w : World) (ha : a < 4294967296) (hb : b < 4294967296) : Calls Tryz.prog 119 #[.int .u32 (a : Int), .int .u32 (b : Int)] w fun e w' => e = .returned (.tuple #[.int .u32 ((addV 4294967296 a b : Nat) : Int), .bool (addO 4294967296 a b)]) ∧ w' = w := by
  by_cases h : a + b < 4294967296
  · have HE := Lib.hid (show addV 4294967296 a b = a + b ∧ addO 4294967296 a b = true from ⟨if_pos h, decide_eq_true h⟩)
    obtain ⟨c, hc⟩ : ∃ c : Nat, a + b = c := ⟨_, rfl⟩
    have hw : ((a : Int) + (b : Int)) % 4294967296 = (c : Int) := by omega
    have t1 : decide (a ≤ c) = true := decide_eq_true (by omega)
    have t2 : decide ((a : Int) ≤ (a : Int) + (b : Int)) = true := decide_eq_true (by omega)
    have HC := Lib.hid hc
    clear hc
    go_enter Tryz.func119, Tryz.ntmps119
    go_wp2_with fail
    go_ret2
    exact ⟨ret_two (by rw [HE.out.1]; have := HC.out; omega) HE.out.2.symm, rfl⟩
  · have HE := Lib.hid (show addV 4294967296 a b = 0 ∧ addO 4294967296 a b = false from ⟨if_neg h, decide_eq_false h⟩)
    obtain ⟨c, hw, hcl⟩ : ∃ c : Nat, ((a : Int) + (b : Int)) % 4294967296 = (c : Int) ∧ c < a := ⟨a + b - 4294967296, by omega, by omega⟩
    have t1 : decide (a ≤ c) = false := decide_eq_false (by omega)
    have t2 : decide ((a : Int) ≤ (c : Int)) = false := decide_eq_false (by omega)
    clear h
    go_enter Tryz.func119, Tryz.ntmps119
    go_wp2_with fail
    go_ret2
    exact ⟨ret_two (by rw [HE.out.1]; rfl) HE.out.2.symm, rfl⟩
set_option maxHeartbeats 1600000 in
set_option maxRecDepth 100000 in
theorem sub_Plain (a b : Nat) (w : World) (ha : a < 4294967296) (hb : b < 4294967296) : Calls Tryz.prog 120 #[.int .u32 (a : Int), .int .u32 (b : Int)] w fun e w' => e = .returned (.tuple #[.int .u32 ((subV a b : Nat) : Int), .bool (subO a b)]) ∧ w' = w := by
  by_cases h : b ≤ a
  · have HE := Lib.hid (show subV a b = a - b ∧ subO a b = true from ⟨if_pos h, decide_eq_true h⟩)
    have hw : ((a : Int) - (b : Int)) % 4294967296 = (a : Int) - (b : Int) := by omega
    have t1 : decide (a < b) = false := decide_eq_false (by omega)
    go_enter Tryz.func120, Tryz.ntmps120
    go_wp2_with fail
    go_ret2
    exact ⟨ret_two (by rw [HE.out.1]; omega) HE.out.2.symm, rfl⟩
  · have HE := Lib.hid (show subV a b = 0 ∧ subO a b = false from ⟨if_neg h, decide_eq_false h⟩)
    have t1 : decide (a < b) = true := decide_eq_true (by omega)
    go_enter Tryz.func120, Tryz.ntmps120
    go_wp2_with fail
    go_ret2
    exact ⟨ret_two (by rw [HE.out.1]; rfl) HE.out.2.symm, rfl⟩
set_option maxHeartbeats 1600000 in
set_option maxRecDepth 100000 in
theorem mul_Plain (a b : Nat) (w : World) (ha : a < 4294967296) (hb : b < 4294967296) : Calls Tryz.prog 121 #[.int .u32 (a : Int), .int .u32 (b : Int)] w fun e w' => e = .returned (.tuple #[.int .u32 ((mulV 4294967296 a b : Nat) : Int), .bool (mulO 4294967296 a b)]) ∧ w' = w := by
  have wa : IntKind.u64.wrap (a : Int) = (a : Int) := by rw [wu64]; omega
  have wb : IntKind.u64.wrap (b : Int) = (b : Int) := by rw [wu64]; omega
  have hml := mul64_ a b w (by omega) (by omega)
  obtain ⟨p, hp⟩ : ∃ p, a * b = p := ⟨_, rfl⟩
  rw [hp] at hml
  have HP := Lib.hid hp
  clear hp
  by_cases hbig : p < 18446744073709551616
  · rw [Nat.div_eq_of_lt hbig, Nat.mod_eq_of_lt hbig] at hml
    have HML := Lib.hid hml
    have HE := Lib.hid (show mulV 4294967296 a b = toV 4294967296 p ∧ mulO 4294967296 a b = toO 4294967296 p from by unfold mulV mulO toV toO; rw [HP.out]; exact ⟨rfl, rfl⟩)
    clear hml
    go_enter Tryz.func121, Tryz.ntmps121
    go_wp2_with fail
    refine HML.out.mono ?_
    rintro e w' ⟨rfl, rfl⟩
    go_wp2_with fail
    refine (to_Plain_uint64 p _ hbig).mono ?_
    rintro e w'' ⟨rfl, rfl⟩
    go_wp2_with fail
    go_ret2
    exact ⟨ret_two (by rw [HE.out.1]) HE.out.2.symm, rfl⟩
  · have HE := Lib.hid (show mulV 4294967296 a b = 0 ∧ mulO 4294967296 a b = false from by unfold mulV mulO; rw [HP.out]; exact ⟨if_neg (by omega), decide_eq_false (by omega)⟩)
    obtain ⟨h, hh, hhp⟩ : ∃ h : Nat, p / 18446744073709551616 = h ∧ 0 < h := ⟨_, rfl, by omega⟩
    rw [hh] at hml
    have HML := Lib.hid hml
    have t1 : ((h : Int) != 0) = true := by rw [bne_iff_ne]; omega
    have t2 : ((h : Int) == 0) = false := by rw [beq_eq_false_iff_ne]; omega
    have t3 : (h == 0) = false := by rw [beq_eq_false_iff_ne]; omega
    have t4 : (h != 0) = true := by rw [bne_iff_ne]; omega
    clear hml hh hbig
    go_enter Tryz.func121, Tryz.ntmps121
    go_wp2_with fail
    refine HML.out.mono ?_
    rintro e w' ⟨rfl, rfl⟩
    go_wp2_with fail
    go_ret2
    exact ⟨ret_two (by rw [HE.out.1]; rfl) HE.out.2.symm, rfl⟩
set_option maxHeartbeats 1600000 in
set_option maxRecDepth 100000 in
theorem up_Plain (a b : Nat) (w : World) (ha : a < 4294967296) (hb : b < 4294967296) : Calls Tryz.prog 122 #[.int .u32 (a : Int), .int .u32 (b : Int)] w fun e w' => e = .returned (.tuple #[.int .u32 ((upV 4294967296 a b : Nat) : Int), .bool (upO 4294967296 a b)]) ∧ w' = w := by
  by_cases h0 : b = 0
  · subst h0
    have HE := Lib.hid (show upV 4294967296 a 0 = 0 ∧ upO 4294967296 a 0 = false from ⟨if_pos rfl, if_pos rfl⟩)
    go_enter Tryz.func122, Tryz.ntmps122
    go_wp2_with fail
    go_ret2
    exact ⟨ret_two (by rw [HE.out.1]; rfl) HE.out.2.symm, rfl⟩
  · have hpos : 0 < b := by omega
    have t0 : (b == 0) = false := beq_eq_false_iff_ne.2 h0
    have t0' : ((b : Int) == 0) = false := beq_eq_false_iff_ne.2 (by omega)
    have hbi : (b : Int) ≠ 0 := by omega
    obtain ⟨r, hr⟩ : ∃ r : Nat, a % b = r := ⟨_, rfl⟩
    have hri : (a : Int) % (b : Int) = (r : Int) := by rw [← hr]; exact (Int.natCast_emod a b).symm
    have hra : r ≤ a := by rw [← hr]; exact Nat.mod_le _ _
    by_cases hz : r = 0
    · have HE := Lib.hid (show upV 4294967296 a b = a ∧ upO 4294967296 a b = true from by
        have e := upM_zero (a := a) (b := b) (by rw [hr]; exact hz)
        unfold upV upO
        rw [if_neg h0, if_neg h0, e]; exact ⟨if_pos ha, decide_eq_true ha⟩)
      subst hz
      clear hr h0
      go_enter Tryz.func122, Tryz.ntmps122
      go_wp2_with fail
      go_ret2
      exact ⟨ret_two (by rw [HE.out.1]) HE.out.2.symm, rfl⟩
    · have t1 : ((r : Int) == 0) = false := beq_eq_false_iff_ne.2 (by omega)
      have t2 : (r == 0) = false := beq_eq_false_iff_ne.2 hz
      have HE := Lib.hid (show upV 4294967296 a b = addV 4294967296 (a - r) b ∧ upO 4294967296 a b = addO 4294967296 (a - r) b from by
        have e := upM_more (a := a) (b := b) (by rw [hr]; exact hz)
        rw [hr] at e
        unfold upV upO addV addO
        rw [if_neg h0, if_neg h0, e]; exact ⟨rfl, rfl⟩)
      have hm := add_Plain (a - r) b w (by omega) hb
      rw [Int.natCast_sub hra] at hm
      have HMM := Lib.hid hm
      clear hr h0 hz hm
      go_enter Tryz.func122, Tryz.ntmps122
      go_wp2_with fail
      refine HMM.out.mono ?_
      rintro e w' ⟨rfl, rfl⟩
      go_wp2_with fail
      go_ret2
      exact ⟨ret_two (by rw [HE.out.1]) HE.out.2.symm, rfl⟩
set_option maxHeartbeats 1600000 in
set_option maxRecDepth 100000 in
theorem add_Great (a b : Nat) (w : World) (ha : a < 18446744073709551616) (hb : b < 18446744073709551616) : Calls Tryz.prog 124 #[.int .u64 (a : Int), .int .u64 (b : Int)] w fun e w' => e = .returned (.tuple #[.int .u64 ((addV 18446744073709551616 a b : Nat) : Int), .bool (addO 18446744073709551616 a b)]) ∧ w' = w := by
  by_cases h : a + b < 18446744073709551616
  · have HE := Lib.hid (show addV 18446744073709551616 a b = a + b ∧ addO 18446744073709551616 a b = true from ⟨if_pos h, decide_eq_true h⟩)
    obtain ⟨c, hc⟩ : ∃ c : Nat, a + b = c := ⟨_, rfl⟩
    have hw : IntKind.u64.wrap ((a : Int) + (b : Int)) = (c : Int) := by rw [wu64]; omega
    have t1 : decide (a ≤ c) = true := decide_eq_true (by omega)
    have t2 : decide ((a : Int) ≤ (a : Int) + (b : Int)) = true := decide_eq_true (by omega)
    have HC := Lib.hid hc
    clear hc
    go_enter Tryz.func124, Tryz.ntmps124
    go_wp2_with fail
    go_ret2
    exact ⟨ret_two (by rw [HE.out.1]; have := HC.out; omega) HE.out.2.symm, rfl⟩
  · have HE := Lib.hid (show addV 18446744073709551616 a b = 0 ∧ addO 18446744073709551616 a b = false from ⟨if_neg h, decide_eq_false h⟩)
    obtain ⟨c, hw, hcl⟩ : ∃ c : Nat, IntKind.u64.wrap ((a : Int) + (b : Int)) = (c : Int) ∧ c < a := ⟨a + b - 18446744073709551616, by rw [wu64]; omega, by omega⟩
    have t1 : decide (a ≤ c) = false := decide_eq_false (by omega)
    have t2 : decide ((a : Int) ≤ (c : Int)) = false := decide_eq_false (by omega)
    clear h
    go_enter Tryz.func124, Tryz.ntmps124
    go_wp2_with fail
    go_ret2
    exact ⟨ret_two (by rw [HE.out.1]; rfl) HE.out.2.symm, rfl⟩
set_option maxHeartbeats 1600000 in
set_option maxRecDepth 100000 in
theorem sub_Great (a b : Nat) (w : World) (ha : a < 18446744073709551616) (hb : b < 18446744073709551616) : Calls Tryz.prog 125 #[.int .u64 (a : Int), .int .u64 (b : Int)] w fun e w' => e = .returned (.tuple #[.int .u64 ((subV a b : Nat) : Int), .bool (subO a b)]) ∧ w' = w := by
  by_cases h : b ≤ a
  · have HE := Lib.hid (show subV a b = a - b ∧ subO a b = true from ⟨if_pos h, decide_eq_true h⟩)
    have hw : IntKind.u64.wrap ((a : Int) - (b : Int)) = (a : Int) - (b : Int) := by rw [wu64]; omega
    have t1 : decide (a < b) = false := decide_eq_false (by omega)
    go_enter Tryz.func125, Tryz.ntmps125
    go_wp2_with fail
    go_ret2
    exact ⟨ret_two (by rw [HE.out.1]; omega) HE.out.2.symm, rfl⟩
  · have HE := Lib.hid (show subV a b = 0 ∧ subO a b = false from ⟨if_neg h, decide_eq_false h⟩)
    have t1 : decide (a < b) = true := decide_eq_true (by omega)
    go_enter Tryz.func125, Tryz.ntmps125
    go_wp2_with fail
    go_ret2
    exact ⟨ret_two (by rw [HE.out.1]; rfl) HE.out.2.symm, rfl⟩
set_option maxHeartbeats 1600000 in
set_option maxRecDepth 100000 in
theorem mul_Great (a b : Nat) (w : World) (ha : a < 18446744073709551616) (hb : b < 18446744073709551616) : Calls Tryz.prog 126 #[.int .u64 (a : Int), .int .u64 (b : Int)] w fun e w' => e = .returned (.tuple #[.int .u64 ((mulV 18446744073709551616 a b : Nat) : Int), .bool (mulO 18446744073709551616 a b)]) ∧ w' = w := by
  have wa : IntKind.u64.wrap (a : Int) = (a : Int) := by rw [wu64]; omega
  have wb : IntKind.u64.wrap (b : Int) = (b : Int) := by rw [wu64]; omega
  have hml := mul64_ a b w (by omega) (by omega)
  obtain ⟨p, hp⟩ : ∃ p, a * b = p := ⟨_, rfl⟩
  rw [hp] at hml
  have HP := Lib.hid hp
  clear hp
  by_cases hbig : p < 18446744073709551616
  · rw [Nat.div_eq_of_lt hbig, Nat.mod_eq_of_lt hbig] at hml
    have HML := Lib.hid hml
    have HE := Lib.hid (show mulV 18446744073709551616 a b = toV 18446744073709551616 p ∧ mulO 18446744073709551616 a b = toO 18446744073709551616 p from by unfold mulV mulO toV toO; rw [HP.out]; exact ⟨rfl, rfl⟩)
    clear hml
    go_enter Tryz.func126, Tryz.ntmps126
    go_wp2_with fail
    refine HML.out.mono ?_
    rintro e w' ⟨rfl, rfl⟩
    go_wp2_with fail
    refine (to_Great_uint64 p _ hbig).mono ?_
    rintro e w'' ⟨rfl, rfl⟩
    go_wp2_with fail
    go_ret2
    exact ⟨ret_two (by rw [HE.out.1]) HE.out.2.symm, rfl⟩
  · have HE := Lib.hid (show mulV 18446744073709551616 a b = 0 ∧ mulO 18446744073709551616 a b = false from by unfold mulV mulO; rw [HP.out]; exact ⟨if_neg (by omega), decide_eq_false (by omega)⟩)
    obtain ⟨h, hh, hhp⟩ : ∃ h : Nat, p / 18446744073709551616 = h ∧ 0 < h := ⟨_, rfl, by omega⟩
    rw [hh] at hml
    have HML := Lib.hid hml
    have t1 : ((h : Int) != 0) = true := by rw [bne_iff_ne]; omega
    have t2 : ((h : Int) == 0) = false := by rw [beq_eq_false_iff_ne]; omega
    have t3 : (h == 0) = false := by rw [beq_eq_false_iff_ne]; omega
    have t4 : (h != 0) = true := by rw [bne_iff_ne]; omega
    clear hml hh hbig
    go_enter Tryz.func126, Tryz.ntmps126
    go_wp2_with fail
    refine HML.out.mono ?_
    rintro e w' ⟨rfl, rfl⟩
    go_wp2_with fail
    go_ret2
    exact ⟨ret_two (by rw [HE.out.1]; rfl) HE.out.2.symm, rfl⟩
set_option maxHeartbeats 1600000 in
set_option maxRecDepth 100000 in
theorem up_Great (a b : Nat) (w : World) (ha : a < 18446744073709551616) (hb : b < 18446744073709551616) : Calls Tryz.prog 127 #[.int .u64 (a : Int), .int .u64 (b : Int)] w fun e w' => e = .returned (.tuple #[.int .u64 ((upV 18446744073709551616 a b : Nat) : Int), .bool (upO 18446744073709551616 a b)]) ∧ w' = w := by
  by_cases h0 : b = 0
  · subst h0
    have HE := Lib.hid (show upV 18446744073709551616 a 0 = 0 ∧ upO 18446744073709551616 a 0 = false from ⟨if_pos rfl, if_pos rfl⟩)
    go_enter Tryz.func127, Tryz.ntmps127
    go_wp2_with fail
    go_ret2
    exact ⟨ret_two (by rw [HE.out.1]; rfl) HE.out.2.symm, rfl⟩
  · have hpos : 0 < b := by omega
    have t0 : (b == 0) = false := beq_eq_false_iff_ne.2 h0
    have t0' : ((b : Int) == 0) = false := beq_eq_false_iff_ne.2 (by omega)
    have hbi : (b : Int) ≠ 0 := by omega
    obtain ⟨r, hr⟩ : ∃ r : Nat, a % b = r := ⟨_, rfl⟩
    have hri : (a : Int) % (b : Int) = (r : Int) := by rw [← hr]; exact (Int.natCast_emod a b).symm
    have hra : r ≤ a := by rw [← hr]; exact Nat.mod_le _ _
    by_cases hz : r = 0
    · have HE := Lib.hid (show upV 18446744073709551616 a b = a ∧ upO 18446744073709551616 a b = true from by
        have e := upM_zero (a := a) (b := b) (by rw [hr]; exact hz)
        unfold upV upO
        rw [if_neg h0, if_neg h0, e]; exact ⟨if_pos ha, decide_eq_true ha⟩)
      subst hz
      clear hr h0
      go_enter Tryz.func127, Tryz.ntmps127
      go_wp2_with fail
      go_ret2
      exact ⟨ret_two (by rw [HE.out.1]) HE.out.2.symm, rfl⟩
    · have t1 : ((r : Int) == 0) = false := beq_eq_false_iff_ne.2 (by omega)
      have t2 : (r == 0) = false := beq_eq_false_iff_ne.2 hz
      have HE := Lib.hid (show upV 18446744073709551616 a b = addV 18446744073709551616 (a - r) b ∧ upO 18446744073709551616 a b = addO 18446744073709551616 (a - r) b from by
        have e := upM_more (a := a) (b := b) (by rw [hr]; exact hz)
        rw [hr] at e
        unfold upV upO addV addO
        rw [if_neg h0, if_neg h0, e]; exact ⟨rfl, rfl⟩)
      have hm := add_Great (a - r) b w (by omega) hb
      rw [Int.natCast_sub hra] at hm
      have HMM := Lib.hid hm
      clear hr h0 hz hm
      go_enter Tryz.func127, Tryz.ntmps127
      go_wp2_with fail
      refine HMM.out.mono ?_
      rintro e w' ⟨rfl, rfl⟩
      go_wp2_with fail
      go_ret2
      exact ⟨ret_two (by rw [HE.out.1]) HE.out.2.symm, rfl⟩
end Go.Proofs.YthdjddpomaendaaGreat.B
