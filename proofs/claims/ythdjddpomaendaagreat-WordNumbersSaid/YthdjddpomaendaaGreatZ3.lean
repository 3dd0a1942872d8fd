/- The law's sums and to, of each type. Printed by gen_sums.py. -/
import Derived.Test.YthdjddpomaendaaGreatZ2
namespace Go.Proofs.YthdjddpomaendaaGreat.B
open Go.RowKit
set_option linter.unusedVariables false
set_option linter.unusedSimpArgs false

set_option maxHeartbeats 3200000 in
set_option maxRecDepth 100000 in
theorem sums_uint8 (a b : Nat) (w : World) (ha : a < 256) (hb : b < 256) : Calls Tryz.prog 30 #[.int .i64 1, .int .u8 (a : Int), .int .u8 (b : Int)] w fun e w' => e = .returned (.bool true) ∧ w' = w := by
  have wa : IntKind.u64.wrap (a : Int) = (a : Int) := by rw [wu64]; omega
  have wb : IntKind.u64.wrap (b : Int) = (b : Int) := by rw [wu64]; omega
  obtain ⟨v0, h0⟩ : ∃ v, addV 256 a b = v := ⟨_, rfl⟩
  obtain ⟨o0, g0⟩ : ∃ o, addO 256 a b = o := ⟨_, rfl⟩
  have l0 : v0 < 256 := h0 ▸ addV_lt (by decide) a b
  have x0 : IntKind.u64.wrap (v0 : Int) = (v0 : Int) := by rw [wu64]; omega
  have A0 : ∀ W, Hid (Calls Tryz.prog 85 #[.int .u8 (a : Int), .int .u8 (b : Int)] W fun e w' => e = .returned (.tuple #[.int .u8 (v0 : Int), .bool o0]) ∧ w' = W) := fun W => Lib.hid (by have h := add_uint8 a b W ha hb; rw [h0, g0] at h; exact h)
  have R0 : ∀ W, Hid (Calls Tryz.prog 86 #[.int .u64 (a : Int), .int .u64 (b : Int), .int .i64 1] W fun e w' => e = .returned (.tuple #[.int .u64 (v0 : Int), .bool o0]) ∧ w' = W) := fun W => Lib.hid (by have h := refAdd1 a b W ha hb; rw [h0, g0] at h; exact h)
  clear h0 g0
  obtain ⟨v1, h1⟩ : ∃ v, subV a b = v := ⟨_, rfl⟩
  obtain ⟨o1, g1⟩ : ∃ o, subO a b = o := ⟨_, rfl⟩
  have l1 : v1 < 256 := h1 ▸ subV_lt ha b
  have x1 : IntKind.u64.wrap (v1 : Int) = (v1 : Int) := by rw [wu64]; omega
  have A1 : ∀ W, Hid (Calls Tryz.prog 87 #[.int .u8 (a : Int), .int .u8 (b : Int)] W fun e w' => e = .returned (.tuple #[.int .u8 (v1 : Int), .bool o1]) ∧ w' = W) := fun W => Lib.hid (by have h := sub_uint8 a b W ha hb; rw [h1, g1] at h; exact h)
  have R1 : ∀ W, Hid (Calls Tryz.prog 88 #[.int .u64 (a : Int), .int .u64 (b : Int), .int .i64 1] W fun e w' => e = .returned (.tuple #[.int .u64 (v1 : Int), .bool o1]) ∧ w' = W) := fun W => Lib.hid (by have h := refSub1 a b W ha hb; rw [h1, g1] at h; exact h)
  clear h1 g1
  obtain ⟨v2, h2⟩ : ∃ v, mulV 256 a b = v := ⟨_, rfl⟩
  obtain ⟨o2, g2⟩ : ∃ o, mulO 256 a b = o := ⟨_, rfl⟩
  have l2 : v2 < 256 := h2 ▸ mulV_lt (by decide) a b
  have x2 : IntKind.u64.wrap (v2 : Int) = (v2 : Int) := by rw [wu64]; omega
  have A2 : ∀ W, Hid (Calls Tryz.prog 89 #[.int .u8 (a : Int), .int .u8 (b : Int)] W fun e w' => e = .returned (.tuple #[.int .u8 (v2 : Int), .bool o2]) ∧ w' = W) := fun W => Lib.hid (by have h := mul_uint8 a b W ha hb; rw [h2, g2] at h; exact h)
  have R2 : ∀ W, Hid (Calls Tryz.prog 90 #[.int .u64 (a : Int), .int .u64 (b : Int), .int .i64 1] W fun e w' => e = .returned (.tuple #[.int .u64 (v2 : Int), .bool o2]) ∧ w' = W) := fun W => Lib.hid (by have h := refMul1 a b W ha hb; rw [h2, g2] at h; exact h)
  clear h2 g2
  obtain ⟨v3, h3⟩ : ∃ v, upV 256 a b = v := ⟨_, rfl⟩
  obtain ⟨o3, g3⟩ : ∃ o, upO 256 a b = o := ⟨_, rfl⟩
  have l3 : v3 < 256 := h3 ▸ upV_lt (by decide) a b
  have x3 : IntKind.u64.wrap (v3 : Int) = (v3 : Int) := by rw [wu64]; omega
  have A3 : ∀ W, Hid (Calls Tryz.prog 91 #[.int .u8 (a : Int), .int .u8 (b : Int)] W fun e w' => e = .returned (.tuple #[.int .u8 (v3 : Int), .bool o3]) ∧ w' = W) := fun W => Lib.hid (by have h := up_uint8 a b W ha hb; rw [h3, g3] at h; exact h)
  have R3 : ∀ W, Hid (Calls Tryz.prog 92 #[.int .u64 (a : Int), .int .u64 (b : Int), .int .i64 1] W fun e w' => e = .returned (.tuple #[.int .u64 (v3 : Int), .bool o3]) ∧ w' = W) := fun W => Lib.hid (by have h := refUp1 a b W ha hb; rw [h3, g3] at h; exact h)
  clear h3 g3
  go_enter Tryz.func30, Tryz.ntmps30
  go_wp2_with (first
    | (go_at_call 85; refine ((A0 _).out).mono ?_; rintro e w' ⟨rfl, rfl⟩)
    | (go_at_call 86; refine ((R0 _).out).mono ?_; rintro e w' ⟨rfl, rfl⟩)
    | (go_at_call 87; refine ((A1 _).out).mono ?_; rintro e w' ⟨rfl, rfl⟩)
    | (go_at_call 88; refine ((R1 _).out).mono ?_; rintro e w' ⟨rfl, rfl⟩)
    | (go_at_call 89; refine ((A2 _).out).mono ?_; rintro e w' ⟨rfl, rfl⟩)
    | (go_at_call 90; refine ((R2 _).out).mono ?_; rintro e w' ⟨rfl, rfl⟩)
    | (go_at_call 91; refine ((A3 _).out).mono ?_; rintro e w' ⟨rfl, rfl⟩)
    | (go_at_call 92; refine ((R3 _).out).mono ?_; rintro e w' ⟨rfl, rfl⟩))
  go_ret
  exact ⟨rfl, rfl⟩
set_option maxHeartbeats 3200000 in
set_option maxRecDepth 100000 in
theorem sums_uint16 (a b : Nat) (w : World) (ha : a < 65536) (hb : b < 65536) : Calls Tryz.prog 33 #[.int .i64 2, .int .u16 (a : Int), .int .u16 (b : Int)] w fun e w' => e = .returned (.bool true) ∧ w' = w := by
  have wa : IntKind.u64.wrap (a : Int) = (a : Int) := by rw [wu64]; omega
  have wb : IntKind.u64.wrap (b : Int) = (b : Int) := by rw [wu64]; omega
  obtain ⟨v0, h0⟩ : ∃ v, addV 65536 a b = v := ⟨_, rfl⟩
  obtain ⟨o0, g0⟩ : ∃ o, addO 65536 a b = o := ⟨_, rfl⟩
  have l0 : v0 < 65536 := h0 ▸ addV_lt (by decide) a b
  have x0 : IntKind.u64.wrap (v0 : Int) = (v0 : Int) := by rw [wu64]; omega
  have A0 : ∀ W, Hid (Calls Tryz.prog 94 #[.int .u16 (a : Int), .int .u16 (b : Int)] W fun e w' => e = .returned (.tuple #[.int .u16 (v0 : Int), .bool o0]) ∧ w' = W) := fun W => Lib.hid (by have h := add_uint16 a b W ha hb; rw [h0, g0] at h; exact h)
  have R0 : ∀ W, Hid (Calls Tryz.prog 86 #[.int .u64 (a : Int), .int .u64 (b : Int), .int .i64 2] W fun e w' => e = .returned (.tuple #[.int .u64 (v0 : Int), .bool o0]) ∧ w' = W) := fun W => Lib.hid (by have h := refAdd2 a b W ha hb; rw [h0, g0] at h; exact h)
  clear h0 g0
  obtain ⟨v1, h1⟩ : ∃ v, subV a b = v := ⟨_, rfl⟩
  obtain ⟨o1, g1⟩ : ∃ o, subO a b = o := ⟨_, rfl⟩
  have l1 : v1 < 65536 := h1 ▸ subV_lt ha b
  have x1 : IntKind.u64.wrap (v1 : Int) = (v1 : Int) := by rw [wu64]; omega
  have A1 : ∀ W, Hid (Calls Tryz.prog 95 #[.int .u16 (a : Int), .int .u16 (b : Int)] W fun e w' => e = .returned (.tuple #[.int .u16 (v1 : Int), .bool o1]) ∧ w' = W) := fun W => Lib.hid (by have h := sub_uint16 a b W ha hb; rw [h1, g1] at h; exact h)
  have R1 : ∀ W, Hid (Calls Tryz.prog 88 #[.int .u64 (a : Int), .int .u64 (b : Int), .int .i64 2] W fun e w' => e = .returned (.tuple #[.int .u64 (v1 : Int), .bool o1]) ∧ w' = W) := fun W => Lib.hid (by have h := refSub2 a b W ha hb; rw [h1, g1] at h; exact h)
  clear h1 g1
  obtain ⟨v2, h2⟩ : ∃ v, mulV 65536 a b = v := ⟨_, rfl⟩
  obtain ⟨o2, g2⟩ : ∃ o, mulO 65536 a b = o := ⟨_, rfl⟩
  have l2 : v2 < 65536 := h2 ▸ mulV_lt (by decide) a b
  have x2 : IntKind.u64.wrap (v2 : Int) = (v2 : Int) := by rw [wu64]; omega
  have A2 : ∀ W, Hid (Calls Tryz.prog 96 #[.int .u16 (a : Int), .int .u16 (b : Int)] W fun e w' => e = .returned (.tuple #[.int .u16 (v2 : Int), .bool o2]) ∧ w' = W) := fun W => Lib.hid (by have h := mul_uint16 a b W ha hb; rw [h2, g2] at h; exact h)
  have R2 : ∀ W, Hid (Calls Tryz.prog 90 #[.int .u64 (a : Int), .int .u64 (b : Int), .int .i64 2] W fun e w' => e = .returned (.tuple #[.int .u64 (v2 : Int), .bool o2]) ∧ w' = W) := fun W => Lib.hid (by have h := refMul2 a b W ha hb; rw [h2, g2] at h; exact h)
  clear h2 g2
  obtain ⟨v3, h3⟩ : ∃ v, upV 65536 a b = v := ⟨_, rfl⟩
  obtain ⟨o3, g3⟩ : ∃ o, upO 65536 a b = o := ⟨_, rfl⟩
  have l3 : v3 < 65536 := h3 ▸ upV_lt (by decide) a b
  have x3 : IntKind.u64.wrap (v3 : Int) = (v3 : Int) := by rw [wu64]; omega
  have A3 : ∀ W, Hid (Calls Tryz.prog 97 #[.int .u16 (a : Int), .int .u16 (b : Int)] W fun e w' => e = .returned (.tuple #[.int .u16 (v3 : Int), .bool o3]) ∧ w' = W) := fun W => Lib.hid (by have h := up_uint16 a b W ha hb; rw [h3, g3] at h; exact h)
  have R3 : ∀ W, Hid (Calls Tryz.prog 92 #[.int .u64 (a : Int), .int .u64 (b : Int), .int .i64 2] W fun e w' => e = .returned (.tuple #[.int .u64 (v3 : Int), .bool o3]) ∧ w' = W) := fun W => Lib.hid (by have h := refUp2 a b W ha hb; rw [h3, g3] at h; exact h)
  clear h3 g3
  go_enter Tryz.func33, Tryz.ntmps33
  go_wp2_with (first
    | (go_at_call 94; refine ((A0 _).out).mono ?_; rintro e w' ⟨rfl, rfl⟩)
    | (go_at_call 86; refine ((R0 _).out).mono ?_; rintro e w' ⟨rfl, rfl⟩)
    | (go_at_call 95; refine ((A1 _).out).mono ?_; rintro e w' ⟨rfl, rfl⟩)
    | (go_at_call 88; refine ((R1 _).out).mono ?_; rintro e w' ⟨rfl, rfl⟩)
    | (go_at_call 96; refine ((A2 _).out).mono ?_; rintro e w' ⟨rfl, rfl⟩)
    | (go_at_call 90; refine ((R2 _).out).mono ?_; rintro e w' ⟨rfl, rfl⟩)
    | (go_at_call 97; refine ((A3 _).out).mono ?_; rintro e w' ⟨rfl, rfl⟩)
    | (go_at_call 92; refine ((R3 _).out).mono ?_; rintro e w' ⟨rfl, rfl⟩))
  go_ret
  exact ⟨rfl, rfl⟩
set_option maxHeartbeats 3200000 in
set_option maxRecDepth 100000 in
theorem sums_uint32 (a b : Nat) (w : World) (ha : a < 4294967296) (hb : b < 4294967296) : Calls Tryz.prog 36 #[.int .i64 4, .int .u32 (a : Int), .int .u32 (b : Int)] w fun e w' => e = .returned (.bool true) ∧ w' = w := by
  have wa : IntKind.u64.wrap (a : Int) = (a : Int) := by rw [wu64]; omega
  have wb : IntKind.u64.wrap (b : Int) = (b : Int) := by rw [wu64]; omega
  obtain ⟨v0, h0⟩ : ∃ v, addV 4294967296 a b = v := ⟨_, rfl⟩
  obtain ⟨o0, g0⟩ : ∃ o, addO 4294967296 a b = o := ⟨_, rfl⟩
  have l0 : v0 < 4294967296 := h0 ▸ addV_lt (by decide) a b
  have x0 : IntKind.u64.wrap (v0 : Int) = (v0 : Int) := by rw [wu64]; omega
  have A0 : ∀ W, Hid (Calls Tryz.prog 99 #[.int .u32 (a : Int), .int .u32 (b : Int)] W fun e w' => e = .returned (.tuple #[.int .u32 (v0 : Int), .bool o0]) ∧ w' = W) := fun W => Lib.hid (by have h := add_uint32 a b W ha hb; rw [h0, g0] at h; exact h)
  have R0 : ∀ W, Hid (Calls Tryz.prog 86 #[.int .u64 (a : Int), .int .u64 (b : Int), .int .i64 4] W fun e w' => e = .returned (.tuple #[.int .u64 (v0 : Int), .bool o0]) ∧ w' = W) := fun W => Lib.hid (by have h := refAdd4 a b W ha hb; rw [h0, g0] at h; exact h)
  clear h0 g0
  obtain ⟨v1, h1⟩ : ∃ v, subV a b = v := ⟨_, rfl⟩
  obtain ⟨o1, g1⟩ : ∃ o, subO a b = o := ⟨_, rfl⟩
  have l1 : v1 < 4294967296 := h1 ▸ subV_lt ha b
  have x1 : IntKind.u64.wrap (v1 : Int) = (v1 : Int) := by rw [wu64]; omega
  have A1 : ∀ W, Hid (Calls Tryz.prog 100 #[.int .u32 (a : Int), .int .u32 (b : Int)] W fun e w' => e = .returned (.tuple #[.int .u32 (v1 : Int), .bool o1]) ∧ w' = W) := fun W => Lib.hid (by have h := sub_uint32 a b W ha hb; rw [h1, g1] at h; exact h)
  have R1 : ∀ W, Hid (Calls Tryz.prog 88 #[.int .u64 (a : Int), .int .u64 (b : Int), .int .i64 4] W fun e w' => e = .returned (.tuple #[.int .u64 (v1 : Int), .bool o1]) ∧ w' = W) := fun W => Lib.hid (by have h := refSub4 a b W ha hb; rw [h1, g1] at h; exact h)
  clear h1 g1
  obtain ⟨v2, h2⟩ : ∃ v, mulV 4294967296 a b = v := ⟨_, rfl⟩
  obtain ⟨o2, g2⟩ : ∃ o, mulO 4294967296 a b = o := ⟨_, rfl⟩
  have l2 : v2 < 4294967296 := h2 ▸ mulV_lt (by decide) a b
  have x2 : IntKind.u64.wrap (v2 : Int) = (v2 : Int) := by rw [wu64]; omega
  have A2 : ∀ W, Hid (Calls Tryz.prog 101 #[.int .u32 (a : Int), .int .u32 (b : Int)] W fun e w' => e = .returned (.tuple #[.int .u32 (v2 : Int), .bool o2]) ∧ w' = W) := fun W => Lib.hid (by have h := mul_uint32 a b W ha hb; rw [h2, g2] at h; exact h)
  have R2 : ∀ W, Hid (Calls Tryz.prog 90 #[.int .u64 (a : Int), .int .u64 (b : Int), .int .i64 4] W fun e w' => e = .returned (.tuple #[.int .u64 (v2 : Int), .bool o2]) ∧ w' = W) := fun W => Lib.hid (by have h := refMul4 a b W ha hb; rw [h2, g2] at h; exact h)
  clear h2 g2
  obtain ⟨v3, h3⟩ : ∃ v, upV 4294967296 a b = v := ⟨_, rfl⟩
  obtain ⟨o3, g3⟩ : ∃ o, upO 4294967296 a b = o := ⟨_, rfl⟩
  have l3 : v3 < 4294967296 := h3 ▸ upV_lt (by decide) a b
  have x3 : IntKind.u64.wrap (v3 : Int) = (v3 : Int) := by rw [wu64]; omega
  have A3 : ∀ W, Hid (Calls Tryz.prog 102 #[.int .u32 (a : Int), .int .u32 (b : Int)] W fun e w' => e = .returned (.tuple #[.int .u32 (v3 : Int), .bool o3]) ∧ w' = W) := fun W => Lib.hid (by have h := up_uint32 a b W ha hb; rw [h3, g3] at h; exact h)
  have R3 : ∀ W, Hid (Calls Tryz.prog 92 #[.int .u64 (a : Int), .int .u64 (b : Int), .int .i64 4] W fun e w' => e = .returned (.tuple #[.int .u64 (v3 : Int), .bool o3]) ∧ w' = W) := fun W => Lib.hid (by have h := refUp4 a b W ha hb; rw [h3, g3] at h; exact h)
  clear h3 g3
  go_enter Tryz.func36, Tryz.ntmps36
  go_wp2_with (first
    | (go_at_call 99; refine ((A0 _).out).mono ?_; rintro e w' ⟨rfl, rfl⟩)
    | (go_at_call 86; refine ((R0 _).out).mono ?_; rintro e w' ⟨rfl, rfl⟩)
    | (go_at_call 100; refine ((A1 _).out).mono ?_; rintro e w' ⟨rfl, rfl⟩)
    | (go_at_call 88; refine ((R1 _).out).mono ?_; rintro e w' ⟨rfl, rfl⟩)
    | (go_at_call 101; refine ((A2 _).out).mono ?_; rintro e w' ⟨rfl, rfl⟩)
    | (go_at_call 90; refine ((R2 _).out).mono ?_; rintro e w' ⟨rfl, rfl⟩)
    | (go_at_call 102; refine ((A3 _).out).mono ?_; rintro e w' ⟨rfl, rfl⟩)
    | (go_at_call 92; refine ((R3 _).out).mono ?_; rintro e w' ⟨rfl, rfl⟩))
  go_ret
  exact ⟨rfl, rfl⟩
set_option maxHeartbeats 3200000 in
set_option maxRecDepth 100000 in
theorem sums_uint64 (a b : Nat) (w : World) (ha : a < 18446744073709551616) (hb : b < 18446744073709551616) : Calls Tryz.prog 39 #[.int .i64 8, .int .u64 (a : Int), .int .u64 (b : Int)] w fun e w' => e = .returned (.bool true) ∧ w' = w := by
  have wa : IntKind.u64.wrap (a : Int) = (a : Int) := by rw [wu64]; omega
  have wb : IntKind.u64.wrap (b : Int) = (b : Int) := by rw [wu64]; omega
  obtain ⟨v0, h0⟩ : ∃ v, addV 18446744073709551616 a b = v := ⟨_, rfl⟩
  obtain ⟨o0, g0⟩ : ∃ o, addO 18446744073709551616 a b = o := ⟨_, rfl⟩
  have l0 : v0 < 18446744073709551616 := h0 ▸ addV_lt (by decide) a b
  have x0 : IntKind.u64.wrap (v0 : Int) = (v0 : Int) := by rw [wu64]; omega
  have A0 : ∀ W, Hid (Calls Tryz.prog 104 #[.int .u64 (a : Int), .int .u64 (b : Int)] W fun e w' => e = .returned (.tuple #[.int .u64 (v0 : Int), .bool o0]) ∧ w' = W) := fun W => Lib.hid (by have h := add_uint64 a b W ha hb; rw [h0, g0] at h; exact h)
  have R0 : ∀ W, Hid (Calls Tryz.prog 86 #[.int .u64 (a : Int), .int .u64 (b : Int), .int .i64 8] W fun e w' => e = .returned (.tuple #[.int .u64 (v0 : Int), .bool o0]) ∧ w' = W) := fun W => Lib.hid (by have h := refAdd8 a b W ha hb; rw [h0, g0] at h; exact h)
  clear h0 g0
  obtain ⟨v1, h1⟩ : ∃ v, subV a b = v := ⟨_, rfl⟩
  obtain ⟨o1, g1⟩ : ∃ o, subO a b = o := ⟨_, rfl⟩
  have l1 : v1 < 18446744073709551616 := h1 ▸ subV_lt ha b
  have x1 : IntKind.u64.wrap (v1 : Int) = (v1 : Int) := by rw [wu64]; omega
  have A1 : ∀ W, Hid (Calls Tryz.prog 105 #[.int .u64 (a : Int), .int .u64 (b : Int)] W fun e w' => e = .returned (.tuple #[.int .u64 (v1 : Int), .bool o1]) ∧ w' = W) := fun W => Lib.hid (by have h := sub_uint64 a b W ha hb; rw [h1, g1] at h; exact h)
  have R1 : ∀ W, Hid (Calls Tryz.prog 88 #[.int .u64 (a : Int), .int .u64 (b : Int), .int .i64 8] W fun e w' => e = .returned (.tuple #[.int .u64 (v1 : Int), .bool o1]) ∧ w' = W) := fun W => Lib.hid (by have h := refSub8 a b W ha hb; rw [h1, g1] at h; exact h)
  clear h1 g1
  obtain ⟨v2, h2⟩ : ∃ v, mulV 18446744073709551616 a b = v := ⟨_, rfl⟩
  obtain ⟨o2, g2⟩ : ∃ o, mulO 18446744073709551616 a b = o := ⟨_, rfl⟩
  have l2 : v2 < 18446744073709551616 := h2 ▸ mulV_lt (by decide) a b
  have x2 : IntKind.u64.wrap (v2 : Int) = (v2 : Int) := by rw [wu64]; omega
  have A2 : ∀ W, Hid (Calls Tryz.prog 106 #[.int .u64 (a : Int), .int .u64 (b : Int)] W fun e w' => e = .returned (.tuple #[.int .u64 (v2 : Int), .bool o2]) ∧ w' = W) := fun W => Lib.hid (by have h := mul_uint64 a b W ha hb; rw [h2, g2] at h; exact h)
  have R2 : ∀ W, Hid (Calls Tryz.prog 90 #[.int .u64 (a : Int), .int .u64 (b : Int), .int .i64 8] W fun e w' => e = .returned (.tuple #[.int .u64 (v2 : Int), .bool o2]) ∧ w' = W) := fun W => Lib.hid (by have h := refMul8 a b W ha hb; rw [h2, g2] at h; exact h)
  clear h2 g2
  obtain ⟨v3, h3⟩ : ∃ v, upV 18446744073709551616 a b = v := ⟨_, rfl⟩
  obtain ⟨o3, g3⟩ : ∃ o, upO 18446744073709551616 a b = o := ⟨_, rfl⟩
  have l3 : v3 < 18446744073709551616 := h3 ▸ upV_lt (by decide) a b
  have x3 : IntKind.u64.wrap (v3 : Int) = (v3 : Int) := by rw [wu64]; omega
  have A3 : ∀ W, Hid (Calls Tryz.prog 107 #[.int .u64 (a : Int), .int .u64 (b : Int)] W fun e w' => e = .returned (.tuple #[.int .u64 (v3 : Int), .bool o3]) ∧ w' = W) := fun W => Lib.hid (by have h := up_uint64 a b W ha hb; rw [h3, g3] at h; exact h)
  have R3 : ∀ W, Hid (Calls Tryz.prog 92 #[.int .u64 (a : Int), .int .u64 (b : Int), .int .i64 8] W fun e w' => e = .returned (.tuple #[.int .u64 (v3 : Int), .bool o3]) ∧ w' = W) := fun W => Lib.hid (by have h := refUp8 a b W ha hb; rw [h3, g3] at h; exact h)
  clear h3 g3
  go_enter Tryz.func39, Tryz.ntmps39
  go_wp2_with (first
    | (go_at_call 104; refine ((A0 _).out).mono ?_; rintro e w' ⟨rfl, rfl⟩)
    | (go_at_call 86; refine ((R0 _).out).mono ?_; rintro e w' ⟨rfl, rfl⟩)
    | (go_at_call 105; refine ((A1 _).out).mono ?_; rintro e w' ⟨rfl, rfl⟩)
    | (go_at_call 88; refine ((R1 _).out).mono ?_; rintro e w' ⟨rfl, rfl⟩)
    | (go_at_call 106; refine ((A2 _).out).mono ?_; rintro e w' ⟨rfl, rfl⟩)
    | (go_at_call 90; refine ((R2 _).out).mono ?_; rintro e w' ⟨rfl, rfl⟩)
    | (go_at_call 107; refine ((A3 _).out).mono ?_; rintro e w' ⟨rfl, rfl⟩)
    | (go_at_call 92; refine ((R3 _).out).mono ?_; rintro e w' ⟨rfl, rfl⟩))
  go_ret
  exact ⟨rfl, rfl⟩
set_option maxHeartbeats 3200000 in
set_option maxRecDepth 100000 in
theorem sums_Tiny (a b : Nat) (w : World) (ha : a < 256) (hb : b < 256) : Calls Tryz.prog 42 #[.int .i64 1, .int .u8 (a : Int), .int .u8 (b : Int)] w fun e w' => e = .returned (.bool true) ∧ w' = w := by
  have wa : IntKind.u64.wrap (a : Int) = (a : Int) := by rw [wu64]; omega
  have wb : IntKind.u64.wrap (b : Int) = (b : Int) := by rw [wu64]; omega
  obtain ⟨v0, h0⟩ : ∃ v, addV 256 a b = v := ⟨_, rfl⟩
  obtain ⟨o0, g0⟩ : ∃ o, addO 256 a b = o := ⟨_, rfl⟩
  have l0 : v0 < 256 := h0 ▸ addV_lt (by decide) a b
  have x0 : IntKind.u64.wrap (v0 : Int) = (v0 : Int) := by rw [wu64]; omega
  have A0 : ∀ W, Hid (Calls Tryz.prog 109 #[.int .u8 (a : Int), .int .u8 (b : Int)] W fun e w' => e = .returned (.tuple #[.int .u8 (v0 : Int), .bool o0]) ∧ w' = W) := fun W => Lib.hid (by have h := add_Tiny a b W ha hb; rw [h0, g0] at h; exact h)
  have R0 : ∀ W, Hid (Calls Tryz.prog 86 #[.int .u64 (a : Int), .int .u64 (b : Int), .int .i64 1] W fun e w' => e = .returned (.tuple #[.int .u64 (v0 : Int), .bool o0]) ∧ w' = W) := fun W => Lib.hid (by have h := refAdd1 a b W ha hb; rw [h0, g0] at h; exact h)
  clear h0 g0
  obtain ⟨v1, h1⟩ : ∃ v, subV a b = v := ⟨_, rfl⟩
  obtain ⟨o1, g1⟩ : ∃ o, subO a b = o := ⟨_, rfl⟩
  have l1 : v1 < 256 := h1 ▸ subV_lt ha b
  have x1 : IntKind.u64.wrap (v1 : Int) = (v1 : Int) := by rw [wu64]; omega
  have A1 : ∀ W, Hid (Calls Tryz.prog 110 #[.int .u8 (a : Int), .int .u8 (b : Int)] W fun e w' => e = .returned (.tuple #[.int .u8 (v1 : Int), .bool o1]) ∧ w' = W) := fun W => Lib.hid (by have h := sub_Tiny a b W ha hb; rw [h1, g1] at h; exact h)
  have R1 : ∀ W, Hid (Calls Tryz.prog 88 #[.int .u64 (a : Int), .int .u64 (b : Int), .int .i64 1] W fun e w' => e = .returned (.tuple #[.int .u64 (v1 : Int), .bool o1]) ∧ w' = W) := fun W => Lib.hid (by have h := refSub1 a b W ha hb; rw [h1, g1] at h; exact h)
  clear h1 g1
  obtain ⟨v2, h2⟩ : ∃ v, mulV 256 a b = v := ⟨_, rfl⟩
  obtain ⟨o2, g2⟩ : ∃ o, mulO 256 a b = o := ⟨_, rfl⟩
  have l2 : v2 < 256 := h2 ▸ mulV_lt (by decide) a b
  have x2 : IntKind.u64.wrap (v2 : Int) = (v2 : Int) := by rw [wu64]; omega
  have A2 : ∀ W, Hid (Calls Tryz.prog 111 #[.int .u8 (a : Int), .int .u8 (b : Int)] W fun e w' => e = .returned (.tuple #[.int .u8 (v2 : Int), .bool o2]) ∧ w' = W) := fun W => Lib.hid (by have h := mul_Tiny a b W ha hb; rw [h2, g2] at h; exact h)
  have R2 : ∀ W, Hid (Calls Tryz.prog 90 #[.int .u64 (a : Int), .int .u64 (b : Int), .int .i64 1] W fun e w' => e = .returned (.tuple #[.int .u64 (v2 : Int), .bool o2]) ∧ w' = W) := fun W => Lib.hid (by have h := refMul1 a b W ha hb; rw [h2, g2] at h; exact h)
  clear h2 g2
  obtain ⟨v3, h3⟩ : ∃ v, upV 256 a b = v := ⟨_, rfl⟩
  obtain ⟨o3, g3⟩ : ∃ o, upO 256 a b = o := ⟨_, rfl⟩
  have l3 : v3 < 256 := h3 ▸ upV_lt (by decide) a b
  have x3 : IntKind.u64.wrap (v3 : Int) = (v3 : Int) := by rw [wu64]; omega
  have A3 : ∀ W, Hid (Calls Tryz.prog 112 #[.int .u8 (a : Int), .int .u8 (b : Int)] W fun e w' => e = .returned (.tuple #[.int .u8 (v3 : Int), .bool o3]) ∧ w' = W) := fun W => Lib.hid (by have h := up_Tiny a b W ha hb; rw [h3, g3] at h; exact h)
  have R3 : ∀ W, Hid (Calls Tryz.prog 92 #[.int .u64 (a : Int), .int .u64 (b : Int), .int .i64 1] W fun e w' => e = .returned (.tuple #[.int .u64 (v3 : Int), .bool o3]) ∧ w' = W) := fun W => Lib.hid (by have h := refUp1 a b W ha hb; rw [h3, g3] at h; exact h)
  clear h3 g3
  go_enter Tryz.func42, Tryz.ntmps42
  go_wp2_with (first
    | (go_at_call 109; refine ((A0 _).out).mono ?_; rintro e w' ⟨rfl, rfl⟩)
    | (go_at_call 86; refine ((R0 _).out).mono ?_; rintro e w' ⟨rfl, rfl⟩)
    | (go_at_call 110; refine ((A1 _).out).mono ?_; rintro e w' ⟨rfl, rfl⟩)
    | (go_at_call 88; refine ((R1 _).out).mono ?_; rintro e w' ⟨rfl, rfl⟩)
    | (go_at_call 111; refine ((A2 _).out).mono ?_; rintro e w' ⟨rfl, rfl⟩)
    | (go_at_call 90; refine ((R2 _).out).mono ?_; rintro e w' ⟨rfl, rfl⟩)
    | (go_at_call 112; refine ((A3 _).out).mono ?_; rintro e w' ⟨rfl, rfl⟩)
    | (go_at_call 92; refine ((R3 _).out).mono ?_; rintro e w' ⟨rfl, rfl⟩))
  go_ret
  exact ⟨rfl, rfl⟩
set_option maxHeartbeats 3200000 in
set_option maxRecDepth 100000 in
theorem sums_Small (a b : Nat) (w : World) (ha : a < 65536) (hb : b < 65536) : Calls Tryz.prog 45 #[.int .i64 2, .int .u16 (a : Int), .int .u16 (b : Int)] w fun e w' => e = .returned (.bool true) ∧ w' = w := by
  have wa : IntKind.u64.wrap (a : Int) = (a : Int) := by rw [wu64]; omega
  have wb : IntKind.u64.wrap (b : Int) = (b : Int) := by rw [wu64]; omega
  obtain ⟨v0, h0⟩ : ∃ v, addV 65536 a b = v := ⟨_, rfl⟩
  obtain ⟨o0, g0⟩ : ∃ o, addO 65536 a b = o := ⟨_, rfl⟩
  have l0 : v0 < 65536 := h0 ▸ addV_lt (by decide) a b
  have x0 : IntKind.u64.wrap (v0 : Int) = (v0 : Int) := by rw [wu64]; omega
  have A0 : ∀ W, Hid (Calls Tryz.prog 114 #[.int .u16 (a : Int), .int .u16 (b : Int)] W fun e w' => e = .returned (.tuple #[.int .u16 (v0 : Int), .bool o0]) ∧ w' = W) := fun W => Lib.hid (by have h := add_Small a b W ha hb; rw [h0, g0] at h; exact h)
  have R0 : ∀ W, Hid (Calls Tryz.prog 86 #[.int .u64 (a : Int), .int .u64 (b : Int), .int .i64 2] W fun e w' => e = .returned (.tuple #[.int .u64 (v0 : Int), .bool o0]) ∧ w' = W) := fun W => Lib.hid (by have h := refAdd2 a b W ha hb; rw [h0, g0] at h; exact h)
  clear h0 g0
  obtain ⟨v1, h1⟩ : ∃ v, subV a b = v := ⟨_, rfl⟩
  obtain ⟨o1, g1⟩ : ∃ o, subO a b = o := ⟨_, rfl⟩
  have l1 : v1 < 65536 := h1 ▸ subV_lt ha b
  have x1 : IntKind.u64.wrap (v1 : Int) = (v1 : Int) := by rw [wu64]; omega
  have A1 : ∀ W, Hid (Calls Tryz.prog 115 #[.int .u16 (a : Int), .int .u16 (b : Int)] W fun e w' => e = .returned (.tuple #[.int .u16 (v1 : Int), .bool o1]) ∧ w' = W) := fun W => Lib.hid (by have h := sub_Small a b W ha hb; rw [h1, g1] at h; exact h)
  have R1 : ∀ W, Hid (Calls Tryz.prog 88 #[.int .u64 (a : Int), .int .u64 (b : Int), .int .i64 2] W fun e w' => e = .returned (.tuple #[.int .u64 (v1 : Int), .bool o1]) ∧ w' = W) := fun W => Lib.hid (by have h := refSub2 a b W ha hb; rw [h1, g1] at h; exact h)
  clear h1 g1
  obtain ⟨v2, h2⟩ : ∃ v, mulV 65536 a b = v := ⟨_, rfl⟩
  obtain ⟨o2, g2⟩ : ∃ o, mulO 65536 a b = o := ⟨_, rfl⟩
  have l2 : v2 < 65536 := h2 ▸ mulV_lt (by decide) a b
  have x2 : IntKind.u64.wrap (v2 : Int) = (v2 : Int) := by rw [wu64]; omega
  have A2 : ∀ W, Hid (Calls Tryz.prog 116 #[.int .u16 (a : Int), .int .u16 (b : Int)] W fun e w' => e = .returned (.tuple #[.int .u16 (v2 : Int), .bool o2]) ∧ w' = W) := fun W => Lib.hid (by have h := mul_Small a b W ha hb; rw [h2, g2] at h; exact h)
  have R2 : ∀ W, Hid (Calls Tryz.prog 90 #[.int .u64 (a : Int), .int .u64 (b : Int), .int .i64 2] W fun e w' => e = .returned (.tuple #[.int .u64 (v2 : Int), .bool o2]) ∧ w' = W) := fun W => Lib.hid (by have h := refMul2 a b W ha hb; rw [h2, g2] at h; exact h)
  clear h2 g2
  obtain ⟨v3, h3⟩ : ∃ v, upV 65536 a b = v := ⟨_, rfl⟩
  obtain ⟨o3, g3⟩ : ∃ o, upO 65536 a b = o := ⟨_, rfl⟩
  have l3 : v3 < 65536 := h3 ▸ upV_lt (by decide) a b
  have x3 : IntKind.u64.wrap (v3 : Int) = (v3 : Int) := by rw [wu64]; omega
  have A3 : ∀ W, Hid (Calls Tryz.prog 117 #[.int .u16 (a : Int), .int .u16 (b : Int)] W fun e w' => e = .returned (.tuple #[.int .u16 (v3 : Int), .bool o3]) ∧ w' = W) := fun W => Lib.hid (by have h := up_Small a b W ha hb; rw [h3, g3] at h; exact h)
  have R3 : ∀ W, Hid (Calls Tryz.prog 92 #[.int .u64 (a : Int), .int .u64 (b : Int), .int .i64 2] W fun e w' => e = .returned (.tuple #[.int .u64 (v3 : Int), .bool o3]) ∧ w' = W) := fun W => Lib.hid (by have h := refUp2 a b W ha hb; rw [h3, g3] at h; exact h)
  clear h3 g3
  go_enter Tryz.func45, Tryz.ntmps45
  go_wp2_with (first
    | (go_at_call 114; refine ((A0 _).out).mono ?_; rintro e w' ⟨rfl, rfl⟩)
    | (go_at_call 86; refine ((R0 _).out).mono ?_; rintro e w' ⟨rfl, rfl⟩)
    | (go_at_call 115; refine ((A1 _).out).mono ?_; rintro e w' ⟨rfl, rfl⟩)
    | (go_at_call 88; refine ((R1 _).out).mono ?_; rintro e w' ⟨rfl, rfl⟩)
    | (go_at_call 116; refine ((A2 _).out).mono ?_; rintro e w' ⟨rfl, rfl⟩)
    | (go_at_call 90; refine ((R2 _).out).mono ?_; rintro e w' ⟨rfl, rfl⟩)
    | (go_at_call 117; refine ((A3 _).out).mono ?_; rintro e w' ⟨rfl, rfl⟩)
    | (go_at_call 92; refine ((R3 _).out).mono ?_; rintro e w' ⟨rfl, rfl⟩))
  go_ret
  exact ⟨rfl, rfl⟩
set_option maxHeartbeats 3200000 in
set_option maxRecDepth 100000 in
theorem sums_Plain (a b : Nat) (w : World) (ha : a < 4294967296) (hb : b < 4294967296) : Calls Tryz.prog 48 #[.int .i64 4, .int .u32 (a : Int), .int .u32 (b : Int)] w fun e w' => e = .returned (.bool true) ∧ w' = w := by
  have wa : IntKind.u64.wrap (a : Int) = (a : Int) := by rw [wu64]; omega
  have wb : IntKind.u64.wrap (b : Int) = (b : Int) := by rw [wu64]; omega
  obtain ⟨v0, h0⟩ : ∃ v, addV 4294967296 a b = v := ⟨_, rfl⟩
  obtain ⟨o0, g0⟩ : ∃ o, addO 4294967296 a b = o := ⟨_, rfl⟩
  have l0 : v0 < 4294967296 := h0 ▸ addV_lt (by decide) a b
  have x0 : IntKind.u64.wrap (v0 : Int) = (v0 : Int) := by rw [wu64]; omega
  have A0 : ∀ W, Hid (Calls Tryz.prog 119 #[.int .u32 (a : Int), .int .u32 (b : Int)] W fun e w' => e = .returned (.tuple #[.int .u32 (v0 : Int), .bool o0]) ∧ w' = W) := fun W => Lib.hid (by have h := add_Plain a b W ha hb; rw [h0, g0] at h; exact h)
  have R0 : ∀ W, Hid (Calls Tryz.prog 86 #[.int .u64 (a : Int), .int .u64 (b : Int), .int .i64 4] W fun e w' => e = .returned (.tuple #[.int .u64 (v0 : Int), .bool o0]) ∧ w' = W) := fun W => Lib.hid (by have h := refAdd4 a b W ha hb; rw [h0, g0] at h; exact h)
  clear h0 g0
  obtain ⟨v1, h1⟩ : ∃ v, subV a b = v := ⟨_, rfl⟩
  obtain ⟨o1, g1⟩ : ∃ o, subO a b = o := ⟨_, rfl⟩
  have l1 : v1 < 4294967296 := h1 ▸ subV_lt ha b
  have x1 : IntKind.u64.wrap (v1 : Int) = (v1 : Int) := by rw [wu64]; omega
  have A1 : ∀ W, Hid (Calls Tryz.prog 120 #[.int .u32 (a : Int), .int .u32 (b : Int)] W fun e w' => e = .returned (.tuple #[.int .u32 (v1 : Int), .bool o1]) ∧ w' = W) := fun W => Lib.hid (by have h := sub_Plain a b W ha hb; rw [h1, g1] at h; exact h)
  have R1 : ∀ W, Hid (Calls Tryz.prog 88 #[.int .u64 (a : Int), .int .u64 (b : Int), .int .i64 4] W fun e w' => e = .returned (.tuple #[.int .u64 (v1 : Int), .bool o1]) ∧ w' = W) := fun W => Lib.hid (by have h := refSub4 a b W ha hb; rw [h1, g1] at h; exact h)
  clear h1 g1
  obtain ⟨v2, h2⟩ : ∃ v, mulV 4294967296 a b = v := ⟨_, rfl⟩
  obtain ⟨o2, g2⟩ : ∃ o, mulO 4294967296 a b = o := ⟨_, rfl⟩
  have l2 : v2 < 4294967296 := h2 ▸ mulV_lt (by decide) a b
  have x2 : IntKind.u64.wrap (v2 : Int) = (v2 : Int) := by rw [wu64]; omega
  have A2 : ∀ W, Hid (Calls Tryz.prog 121 #[.int .u32 (a : Int), .int .u32 (b : Int)] W fun e w' => e = .returned (.tuple #[.int .u32 (v2 : Int), .bool o2]) ∧ w' = W) := fun W => Lib.hid (by have h := mul_Plain a b W ha hb; rw [h2, g2] at h; exact h)
  have R2 : ∀ W, Hid (Calls Tryz.prog 90 #[.int .u64 (a : Int), .int .u64 (b : Int), .int .i64 4] W fun e w' => e = .returned (.tuple #[.int .u64 (v2 : Int), .bool o2]) ∧ w' = W) := fun W => Lib.hid (by have h := refMul4 a b W ha hb; rw [h2, g2] at h; exact h)
  clear h2 g2
  obtain ⟨v3, h3⟩ : ∃ v, upV 4294967296 a b = v := ⟨_, rfl⟩
  obtain ⟨o3, g3⟩ : ∃ o, upO 4294967296 a b = o := ⟨_, rfl⟩
  have l3 : v3 < 4294967296 := h3 ▸ upV_lt (by decide) a b
  have x3 : IntKind.u64.wrap (v3 : Int) = (v3 : Int) := by rw [wu64]; omega
  have A3 : ∀ W, Hid (Calls Tryz.prog 122 #[.int .u32 (a : Int), .int .u32 (b : Int)] W fun e w' => e = .returned (.tuple #[.int .u32 (v3 : Int), .bool o3]) ∧ w' = W) := fun W => Lib.hid (by have h := up_Plain a b W ha hb; rw [h3, g3] at h; exact h)
  have R3 : ∀ W, Hid (Calls Tryz.prog 92 #[.int .u64 (a : Int), .int .u64 (b : Int), .int .i64 4] W fun e w' => e = .returned (.tuple #[.int .u64 (v3 : Int), .bool o3]) ∧ w' = W) := fun W => Lib.hid (by have h := refUp4 a b W ha hb; rw [h3, g3] at h; exact h)
  clear h3 g3
  go_enter Tryz.func48, Tryz.ntmps48
  go_wp2_with (first
    | (go_at_call 119; refine ((A0 _).out).mono ?_; rintro e w' ⟨rfl, rfl⟩)
    | (go_at_call 86; refine ((R0 _).out).mono ?_; rintro e w' ⟨rfl, rfl⟩)
    | (go_at_call 120; refine ((A1 _).out).mono ?_; rintro e w' ⟨rfl, rfl⟩)
    | (go_at_call 88; refine ((R1 _).out).mono ?_; rintro e w' ⟨rfl, rfl⟩)
    | (go_at_call 121; refine ((A2 _).out).mono ?_; rintro e w' ⟨rfl, rfl⟩)
    | (go_at_call 90; refine ((R2 _).out).mono ?_; rintro e w' ⟨rfl, rfl⟩)
    | (go_at_call 122; refine ((A3 _).out).mono ?_; rintro e w' ⟨rfl, rfl⟩)
    | (go_at_call 92; refine ((R3 _).out).mono ?_; rintro e w' ⟨rfl, rfl⟩))
  go_ret
  exact ⟨rfl, rfl⟩
set_option maxHeartbeats 3200000 in
set_option maxRecDepth 100000 in
theorem sums_Great (a b : Nat) (w : World) (ha : a < 18446744073709551616) (hb : b < 18446744073709551616) : Calls Tryz.prog 51 #[.int .i64 8, .int .u64 (a : Int), .int .u64 (b : Int)] w fun e w' => e = .returned (.bool true) ∧ w' = w := by
  have wa : IntKind.u64.wrap (a : Int) = (a : Int) := by rw [wu64]; omega
  have wb : IntKind.u64.wrap (b : Int) = (b : Int) := by rw [wu64]; omega
  obtain ⟨v0, h0⟩ : ∃ v, addV 18446744073709551616 a b = v := ⟨_, rfl⟩
  obtain ⟨o0, g0⟩ : ∃ o, addO 18446744073709551616 a b = o := ⟨_, rfl⟩
  have l0 : v0 < 18446744073709551616 := h0 ▸ addV_lt (by decide) a b
  have x0 : IntKind.u64.wrap (v0 : Int) = (v0 : Int) := by rw [wu64]; omega
  have A0 : ∀ W, Hid (Calls Tryz.prog 124 #[.int .u64 (a : Int), .int .u64 (b : Int)] W fun e w' => e = .returned (.tuple #[.int .u64 (v0 : Int), .bool o0]) ∧ w' = W) := fun W => Lib.hid (by have h := add_Great a b W ha hb; rw [h0, g0] at h; exact h)
  have R0 : ∀ W, Hid (Calls Tryz.prog 86 #[.int .u64 (a : Int), .int .u64 (b : Int), .int .i64 8] W fun e w' => e = .returned (.tuple #[.int .u64 (v0 : Int), .bool o0]) ∧ w' = W) := fun W => Lib.hid (by have h := refAdd8 a b W ha hb; rw [h0, g0] at h; exact h)
  clear h0 g0
  obtain ⟨v1, h1⟩ : ∃ v, subV a b = v := ⟨_, rfl⟩
  obtain ⟨o1, g1⟩ : ∃ o, subO a b = o := ⟨_, rfl⟩
  have l1 : v1 < 18446744073709551616 := h1 ▸ subV_lt ha b
  have x1 : IntKind.u64.wrap (v1 : Int) = (v1 : Int) := by rw [wu64]; omega
  have A1 : ∀ W, Hid (Calls Tryz.prog 125 #[.int .u64 (a : Int), .int .u64 (b : Int)] W fun e w' => e = .returned (.tuple #[.int .u64 (v1 : Int), .bool o1]) ∧ w' = W) := fun W => Lib.hid (by have h := sub_Great a b W ha hb; rw [h1, g1] at h; exact h)
  have R1 : ∀ W, Hid (Calls Tryz.prog 88 #[.int .u64 (a : Int), .int .u64 (b : Int), .int .i64 8] W fun e w' => e = .returned (.tuple #[.int .u64 (v1 : Int), .bool o1]) ∧ w' = W) := fun W => Lib.hid (by have h := refSub8 a b W ha hb; rw [h1, g1] at h; exact h)
  clear h1 g1
  obtain ⟨v2, h2⟩ : ∃ v, mulV 18446744073709551616 a b = v := ⟨_, rfl⟩
  obtain ⟨o2, g2⟩ : ∃ o, mulO 18446744073709551616 a b = o := ⟨_, rfl⟩
  have l2 : v2 < 18446744073709551616 := h2 ▸ mulV_lt (by decide) a b
  have x2 : IntKind.u64.wrap (v2 : Int) = (v2 : Int) := by rw [wu64]; omega
  have A2 : ∀ W, Hid (Calls Tryz.prog 126 #[.int .u64 (a : Int), .int .u64 (b : Int)] W fun e w' => e = .returned (.tuple #[.int .u64 (v2 : Int), .bool o2]) ∧ w' = W) := fun W => Lib.hid (by have h := mul_Great a b W ha hb; rw [h2, g2] at h; exact h)
  have R2 : ∀ W, Hid (Calls Tryz.prog 90 #[.int .u64 (a : Int), .int .u64 (b : Int), .int .i64 8] W fun e w' => e = .returned (.tuple #[.int .u64 (v2 : Int), .bool o2]) ∧ w' = W) := fun W => Lib.hid (by have h := refMul8 a b W ha hb; rw [h2, g2] at h; exact h)
  clear h2 g2
  obtain ⟨v3, h3⟩ : ∃ v, upV 18446744073709551616 a b = v := ⟨_, rfl⟩
  obtain ⟨o3, g3⟩ : ∃ o, upO 18446744073709551616 a b = o := ⟨_, rfl⟩
  have l3 : v3 < 18446744073709551616 := h3 ▸ upV_lt (by decide) a b
  have x3 : IntKind.u64.wrap (v3 : Int) = (v3 : Int) := by rw [wu64]; omega
  have A3 : ∀ W, Hid (Calls Tryz.prog 127 #[.int .u64 (a : Int), .int .u64 (b : Int)] W fun e w' => e = .returned (.tuple #[.int .u64 (v3 : Int), .bool o3]) ∧ w' = W) := fun W => Lib.hid (by have h := up_Great a b W ha hb; rw [h3, g3] at h; exact h)
  have R3 : ∀ W, Hid (Calls Tryz.prog 92 #[.int .u64 (a : Int), .int .u64 (b : Int), .int .i64 8] W fun e w' => e = .returned (.tuple #[.int .u64 (v3 : Int), .bool o3]) ∧ w' = W) := fun W => Lib.hid (by have h := refUp8 a b W ha hb; rw [h3, g3] at h; exact h)
  clear h3 g3
  go_enter Tryz.func51, Tryz.ntmps51
  go_wp2_with (first
    | (go_at_call 124; refine ((A0 _).out).mono ?_; rintro e w' ⟨rfl, rfl⟩)
    | (go_at_call 86; refine ((R0 _).out).mono ?_; rintro e w' ⟨rfl, rfl⟩)
    | (go_at_call 125; refine ((A1 _).out).mono ?_; rintro e w' ⟨rfl, rfl⟩)
    | (go_at_call 88; refine ((R1 _).out).mono ?_; rintro e w' ⟨rfl, rfl⟩)
    | (go_at_call 126; refine ((A2 _).out).mono ?_; rintro e w' ⟨rfl, rfl⟩)
    | (go_at_call 90; refine ((R2 _).out).mono ?_; rintro e w' ⟨rfl, rfl⟩)
    | (go_at_call 127; refine ((A3 _).out).mono ?_; rintro e w' ⟨rfl, rfl⟩)
    | (go_at_call 92; refine ((R3 _).out).mono ?_; rintro e w' ⟨rfl, rfl⟩))
  go_ret
  exact ⟨rfl, rfl⟩
set_option maxHeartbeats 3200000 in
set_option maxRecDepth 100000 in
theorem lawto_uint8 (a : Nat) (w : World) (ha : a < 256) : Calls Tryz.prog 13 #[.int .u8 (a : Int)] w fun e w' => e = .returned (.bool true) ∧ w' = w := by
  have wa : IntKind.u64.wrap (a : Int) = (a : Int) := by rw [wu64]; omega
  have ha2 : a < 18446744073709551616 := by omega
  obtain ⟨v0, h0⟩ : ∃ v, toV 256 a = v := ⟨_, rfl⟩
  obtain ⟨o0, g0⟩ : ∃ o, toO 256 a = o := ⟨_, rfl⟩
  have l0 : v0 < 256 := h0 ▸ toV_lt (by decide) a
  have x0 : IntKind.u64.wrap (v0 : Int) = (v0 : Int) := by rw [wu64]; omega
  have A0 : ∀ W, Hid (Calls Tryz.prog 52 #[.int .u8 (a : Int)] W fun e w' => e = .returned (.tuple #[.int .u8 (v0 : Int), .bool o0]) ∧ w' = W) := fun W => Lib.hid (by have h := to_uint8_uint8 a W ha; rw [h0, g0] at h; exact h)
  have R0 : ∀ W, Hid (Calls Tryz.prog 53 #[.int .u64 (a : Int), .int .i64 1] W fun e w' => e = .returned (.tuple #[.int .u64 (v0 : Int), .bool o0]) ∧ w' = W) := fun W => Lib.hid (by have h := refTo1 a W ha2; rw [h0, g0] at h; exact h)
  clear h0 g0
  obtain ⟨v1, h1⟩ : ∃ v, toV 65536 a = v := ⟨_, rfl⟩
  obtain ⟨o1, g1⟩ : ∃ o, toO 65536 a = o := ⟨_, rfl⟩
  have l1 : v1 < 65536 := h1 ▸ toV_lt (by decide) a
  have x1 : IntKind.u64.wrap (v1 : Int) = (v1 : Int) := by rw [wu64]; omega
  have A1 : ∀ W, Hid (Calls Tryz.prog 54 #[.int .u8 (a : Int)] W fun e w' => e = .returned (.tuple #[.int .u16 (v1 : Int), .bool o1]) ∧ w' = W) := fun W => Lib.hid (by have h := to_uint16_uint8 a W ha; rw [h1, g1] at h; exact h)
  have R1 : ∀ W, Hid (Calls Tryz.prog 53 #[.int .u64 (a : Int), .int .i64 2] W fun e w' => e = .returned (.tuple #[.int .u64 (v1 : Int), .bool o1]) ∧ w' = W) := fun W => Lib.hid (by have h := refTo2 a W ha2; rw [h1, g1] at h; exact h)
  have A4 : ∀ W, Hid (Calls Tryz.prog 57 #[.int .u8 (a : Int)] W fun e w' => e = .returned (.tuple #[.int .u16 (v1 : Int), .bool o1]) ∧ w' = W) := fun W => Lib.hid (by have h := to_Small_uint8 a W ha; rw [h1, g1] at h; exact h)
  clear h1 g1
  obtain ⟨v2, h2⟩ : ∃ v, toV 4294967296 a = v := ⟨_, rfl⟩
  obtain ⟨o2, g2⟩ : ∃ o, toO 4294967296 a = o := ⟨_, rfl⟩
  have l2 : v2 < 4294967296 := h2 ▸ toV_lt (by decide) a
  have x2 : IntKind.u64.wrap (v2 : Int) = (v2 : Int) := by rw [wu64]; omega
  have A2 : ∀ W, Hid (Calls Tryz.prog 55 #[.int .u8 (a : Int)] W fun e w' => e = .returned (.tuple #[.int .u32 (v2 : Int), .bool o2]) ∧ w' = W) := fun W => Lib.hid (by have h := to_uint32_uint8 a W ha; rw [h2, g2] at h; exact h)
  have R2 : ∀ W, Hid (Calls Tryz.prog 53 #[.int .u64 (a : Int), .int .i64 4] W fun e w' => e = .returned (.tuple #[.int .u64 (v2 : Int), .bool o2]) ∧ w' = W) := fun W => Lib.hid (by have h := refTo4 a W ha2; rw [h2, g2] at h; exact h)
  clear h2 g2
  have A3 : ∀ W, Hid (Calls Tryz.prog 56 #[.int .u8 (a : Int)] W fun e w' => e = .returned (.tuple #[.int .u64 (a : Int), .bool true]) ∧ w' = W) := fun W => Lib.hid (by have h := to_uint64_uint8 a W ha; rw [show toV 18446744073709551616 a = a from if_pos ha2, show toO 18446744073709551616 a = true from decide_eq_true ha2] at h; exact h)
  go_enter Tryz.func13, Tryz.ntmps13
  go_wp2_with (first
    | (go_at_call 52; refine ((A0 _).out).mono ?_; rintro e w' ⟨rfl, rfl⟩)
    | (go_at_call 53; (with_reducible refine ((R0 _).out).mono ?_); rintro e w' ⟨rfl, rfl⟩)
    | (go_at_call 54; refine ((A1 _).out).mono ?_; rintro e w' ⟨rfl, rfl⟩)
    | (go_at_call 53; (with_reducible refine ((R1 _).out).mono ?_); rintro e w' ⟨rfl, rfl⟩)
    | (go_at_call 55; refine ((A2 _).out).mono ?_; rintro e w' ⟨rfl, rfl⟩)
    | (go_at_call 53; (with_reducible refine ((R2 _).out).mono ?_); rintro e w' ⟨rfl, rfl⟩)
    | (go_at_call 56; refine ((A3 _).out).mono ?_; rintro e w' ⟨rfl, rfl⟩)
    | (go_at_call 57; refine ((A4 _).out).mono ?_; rintro e w' ⟨rfl, rfl⟩))
  go_ret
  exact ⟨rfl, rfl⟩
set_option maxHeartbeats 3200000 in
set_option maxRecDepth 100000 in
theorem lawto_uint16 (a : Nat) (w : World) (ha : a < 65536) : Calls Tryz.prog 14 #[.int .u16 (a : Int)] w fun e w' => e = .returned (.bool true) ∧ w' = w := by
  have wa : IntKind.u64.wrap (a : Int) = (a : Int) := by rw [wu64]; omega
  have ha2 : a < 18446744073709551616 := by omega
  obtain ⟨v0, h0⟩ : ∃ v, toV 256 a = v := ⟨_, rfl⟩
  obtain ⟨o0, g0⟩ : ∃ o, toO 256 a = o := ⟨_, rfl⟩
  have l0 : v0 < 256 := h0 ▸ toV_lt (by decide) a
  have x0 : IntKind.u64.wrap (v0 : Int) = (v0 : Int) := by rw [wu64]; omega
  have A0 : ∀ W, Hid (Calls Tryz.prog 58 #[.int .u16 (a : Int)] W fun e w' => e = .returned (.tuple #[.int .u8 (v0 : Int), .bool o0]) ∧ w' = W) := fun W => Lib.hid (by have h := to_uint8_uint16 a W ha; rw [h0, g0] at h; exact h)
  have R0 : ∀ W, Hid (Calls Tryz.prog 53 #[.int .u64 (a : Int), .int .i64 1] W fun e w' => e = .returned (.tuple #[.int .u64 (v0 : Int), .bool o0]) ∧ w' = W) := fun W => Lib.hid (by have h := refTo1 a W ha2; rw [h0, g0] at h; exact h)
  clear h0 g0
  obtain ⟨v1, h1⟩ : ∃ v, toV 65536 a = v := ⟨_, rfl⟩
  obtain ⟨o1, g1⟩ : ∃ o, toO 65536 a = o := ⟨_, rfl⟩
  have l1 : v1 < 65536 := h1 ▸ toV_lt (by decide) a
  have x1 : IntKind.u64.wrap (v1 : Int) = (v1 : Int) := by rw [wu64]; omega
  have A1 : ∀ W, Hid (Calls Tryz.prog 59 #[.int .u16 (a : Int)] W fun e w' => e = .returned (.tuple #[.int .u16 (v1 : Int), .bool o1]) ∧ w' = W) := fun W => Lib.hid (by have h := to_uint16_uint16 a W ha; rw [h1, g1] at h; exact h)
  have R1 : ∀ W, Hid (Calls Tryz.prog 53 #[.int .u64 (a : Int), .int .i64 2] W fun e w' => e = .returned (.tuple #[.int .u64 (v1 : Int), .bool o1]) ∧ w' = W) := fun W => Lib.hid (by have h := refTo2 a W ha2; rw [h1, g1] at h; exact h)
  have A4 : ∀ W, Hid (Calls Tryz.prog 62 #[.int .u16 (a : Int)] W fun e w' => e = .returned (.tuple #[.int .u16 (v1 : Int), .bool o1]) ∧ w' = W) := fun W => Lib.hid (by have h := to_Small_uint16 a W ha; rw [h1, g1] at h; exact h)
  clear h1 g1
  obtain ⟨v2, h2⟩ : ∃ v, toV 4294967296 a = v := ⟨_, rfl⟩
  obtain ⟨o2, g2⟩ : ∃ o, toO 4294967296 a = o := ⟨_, rfl⟩
  have l2 : v2 < 4294967296 := h2 ▸ toV_lt (by decide) a
  have x2 : IntKind.u64.wrap (v2 : Int) = (v2 : Int) := by rw [wu64]; omega
  have A2 : ∀ W, Hid (Calls Tryz.prog 60 #[.int .u16 (a : Int)] W fun e w' => e = .returned (.tuple #[.int .u32 (v2 : Int), .bool o2]) ∧ w' = W) := fun W => Lib.hid (by have h := to_uint32_uint16 a W ha; rw [h2, g2] at h; exact h)
  have R2 : ∀ W, Hid (Calls Tryz.prog 53 #[.int .u64 (a : Int), .int .i64 4] W fun e w' => e = .returned (.tuple #[.int .u64 (v2 : Int), .bool o2]) ∧ w' = W) := fun W => Lib.hid (by have h := refTo4 a W ha2; rw [h2, g2] at h; exact h)
  clear h2 g2
  have A3 : ∀ W, Hid (Calls Tryz.prog 61 #[.int .u16 (a : Int)] W fun e w' => e = .returned (.tuple #[.int .u64 (a : Int), .bool true]) ∧ w' = W) := fun W => Lib.hid (by have h := to_uint64_uint16 a W ha; rw [show toV 18446744073709551616 a = a from if_pos ha2, show toO 18446744073709551616 a = true from decide_eq_true ha2] at h; exact h)
  go_enter Tryz.func14, Tryz.ntmps14
  go_wp2_with (first
    | (go_at_call 58; refine ((A0 _).out).mono ?_; rintro e w' ⟨rfl, rfl⟩)
    | (go_at_call 53; (with_reducible refine ((R0 _).out).mono ?_); rintro e w' ⟨rfl, rfl⟩)
    | (go_at_call 59; refine ((A1 _).out).mono ?_; rintro e w' ⟨rfl, rfl⟩)
    | (go_at_call 53; (with_reducible refine ((R1 _).out).mono ?_); rintro e w' ⟨rfl, rfl⟩)
    | (go_at_call 60; refine ((A2 _).out).mono ?_; rintro e w' ⟨rfl, rfl⟩)
    | (go_at_call 53; (with_reducible refine ((R2 _).out).mono ?_); rintro e w' ⟨rfl, rfl⟩)
    | (go_at_call 61; refine ((A3 _).out).mono ?_; rintro e w' ⟨rfl, rfl⟩)
    | (go_at_call 62; refine ((A4 _).out).mono ?_; rintro e w' ⟨rfl, rfl⟩))
  go_ret
  exact ⟨rfl, rfl⟩
set_option maxHeartbeats 3200000 in
set_option maxRecDepth 100000 in
theorem lawto_uint32 (a : Nat) (w : World) (ha : a < 4294967296) : Calls Tryz.prog 15 #[.int .u32 (a : Int)] w fun e w' => e = .returned (.bool true) ∧ w' = w := by
  have wa : IntKind.u64.wrap (a : Int) = (a : Int) := by rw [wu64]; omega
  have ha2 : a < 18446744073709551616 := by omega
  obtain ⟨v0, h0⟩ : ∃ v, toV 256 a = v := ⟨_, rfl⟩
  obtain ⟨o0, g0⟩ : ∃ o, toO 256 a = o := ⟨_, rfl⟩
  have l0 : v0 < 256 := h0 ▸ toV_lt (by decide) a
  have x0 : IntKind.u64.wrap (v0 : Int) = (v0 : Int) := by rw [wu64]; omega
  have A0 : ∀ W, Hid (Calls Tryz.prog 63 #[.int .u32 (a : Int)] W fun e w' => e = .returned (.tuple #[.int .u8 (v0 : Int), .bool o0]) ∧ w' = W) := fun W => Lib.hid (by have h := to_uint8_uint32 a W ha; rw [h0, g0] at h; exact h)
  have R0 : ∀ W, Hid (Calls Tryz.prog 53 #[.int .u64 (a : Int), .int .i64 1] W fun e w' => e = .returned (.tuple #[.int .u64 (v0 : Int), .bool o0]) ∧ w' = W) := fun W => Lib.hid (by have h := refTo1 a W ha2; rw [h0, g0] at h; exact h)
  clear h0 g0
  obtain ⟨v1, h1⟩ : ∃ v, toV 65536 a = v := ⟨_, rfl⟩
  obtain ⟨o1, g1⟩ : ∃ o, toO 65536 a = o := ⟨_, rfl⟩
  have l1 : v1 < 65536 := h1 ▸ toV_lt (by decide) a
  have x1 : IntKind.u64.wrap (v1 : Int) = (v1 : Int) := by rw [wu64]; omega
  have A1 : ∀ W, Hid (Calls Tryz.prog 64 #[.int .u32 (a : Int)] W fun e w' => e = .returned (.tuple #[.int .u16 (v1 : Int), .bool o1]) ∧ w' = W) := fun W => Lib.hid (by have h := to_uint16_uint32 a W ha; rw [h1, g1] at h; exact h)
  have R1 : ∀ W, Hid (Calls Tryz.prog 53 #[.int .u64 (a : Int), .int .i64 2] W fun e w' => e = .returned (.tuple #[.int .u64 (v1 : Int), .bool o1]) ∧ w' = W) := fun W => Lib.hid (by have h := refTo2 a W ha2; rw [h1, g1] at h; exact h)
  have A4 : ∀ W, Hid (Calls Tryz.prog 67 #[.int .u32 (a : Int)] W fun e w' => e = .returned (.tuple #[.int .u16 (v1 : Int), .bool o1]) ∧ w' = W) := fun W => Lib.hid (by have h := to_Small_uint32 a W ha; rw [h1, g1] at h; exact h)
  clear h1 g1
  obtain ⟨v2, h2⟩ : ∃ v, toV 4294967296 a = v := ⟨_, rfl⟩
  obtain ⟨o2, g2⟩ : ∃ o, toO 4294967296 a = o := ⟨_, rfl⟩
  have l2 : v2 < 4294967296 := h2 ▸ toV_lt (by decide) a
  have x2 : IntKind.u64.wrap (v2 : Int) = (v2 : Int) := by rw [wu64]; omega
  have A2 : ∀ W, Hid (Calls Tryz.prog 65 #[.int .u32 (a : Int)] W fun e w' => e = .returned (.tuple #[.int .u32 (v2 : Int), .bool o2]) ∧ w' = W) := fun W => Lib.hid (by have h := to_uint32_uint32 a W ha; rw [h2, g2] at h; exact h)
  have R2 : ∀ W, Hid (Calls Tryz.prog 53 #[.int .u64 (a : Int), .int .i64 4] W fun e w' => e = .returned (.tuple #[.int .u64 (v2 : Int), .bool o2]) ∧ w' = W) := fun W => Lib.hid (by have h := refTo4 a W ha2; rw [h2, g2] at h; exact h)
  clear h2 g2
  have A3 : ∀ W, Hid (Calls Tryz.prog 66 #[.int .u32 (a : Int)] W fun e w' => e = .returned (.tuple #[.int .u64 (a : Int), .bool true]) ∧ w' = W) := fun W => Lib.hid (by have h := to_uint64_uint32 a W ha; rw [show toV 18446744073709551616 a = a from if_pos ha2, show toO 18446744073709551616 a = true from decide_eq_true ha2] at h; exact h)
  go_enter Tryz.func15, Tryz.ntmps15
  go_wp2_with (first
    | (go_at_call 63; refine ((A0 _).out).mono ?_; rintro e w' ⟨rfl, rfl⟩)
    | (go_at_call 53; (with_reducible refine ((R0 _).out).mono ?_); rintro e w' ⟨rfl, rfl⟩)
    | (go_at_call 64; refine ((A1 _).out).mono ?_; rintro e w' ⟨rfl, rfl⟩)
    | (go_at_call 53; (with_reducible refine ((R1 _).out).mono ?_); rintro e w' ⟨rfl, rfl⟩)
    | (go_at_call 65; refine ((A2 _).out).mono ?_; rintro e w' ⟨rfl, rfl⟩)
    | (go_at_call 53; (with_reducible refine ((R2 _).out).mono ?_); rintro e w' ⟨rfl, rfl⟩)
    | (go_at_call 66; refine ((A3 _).out).mono ?_; rintro e w' ⟨rfl, rfl⟩)
    | (go_at_call 67; refine ((A4 _).out).mono ?_; rintro e w' ⟨rfl, rfl⟩))
  go_ret
  exact ⟨rfl, rfl⟩
set_option maxHeartbeats 3200000 in
set_option maxRecDepth 100000 in
theorem lawto_uint64 (a : Nat) (w : World) (ha : a < 18446744073709551616) : Calls Tryz.prog 16 #[.int .u64 (a : Int)] w fun e w' => e = .returned (.bool true) ∧ w' = w := by
  have wa : IntKind.u64.wrap (a : Int) = (a : Int) := by rw [wu64]; omega
  have ha2 : a < 18446744073709551616 := by omega
  obtain ⟨v0, h0⟩ : ∃ v, toV 256 a = v := ⟨_, rfl⟩
  obtain ⟨o0, g0⟩ : ∃ o, toO 256 a = o := ⟨_, rfl⟩
  have l0 : v0 < 256 := h0 ▸ toV_lt (by decide) a
  have x0 : IntKind.u64.wrap (v0 : Int) = (v0 : Int) := by rw [wu64]; omega
  have A0 : ∀ W, Hid (Calls Tryz.prog 68 #[.int .u64 (a : Int)] W fun e w' => e = .returned (.tuple #[.int .u8 (v0 : Int), .bool o0]) ∧ w' = W) := fun W => Lib.hid (by have h := to_uint8_uint64 a W ha; rw [h0, g0] at h; exact h)
  have R0 : ∀ W, Hid (Calls Tryz.prog 53 #[.int .u64 (a : Int), .int .i64 1] W fun e w' => e = .returned (.tuple #[.int .u64 (v0 : Int), .bool o0]) ∧ w' = W) := fun W => Lib.hid (by have h := refTo1 a W ha2; rw [h0, g0] at h; exact h)
  clear h0 g0
  obtain ⟨v1, h1⟩ : ∃ v, toV 65536 a = v := ⟨_, rfl⟩
  obtain ⟨o1, g1⟩ : ∃ o, toO 65536 a = o := ⟨_, rfl⟩
  have l1 : v1 < 65536 := h1 ▸ toV_lt (by decide) a
  have x1 : IntKind.u64.wrap (v1 : Int) = (v1 : Int) := by rw [wu64]; omega
  have A1 : ∀ W, Hid (Calls Tryz.prog 69 #[.int .u64 (a : Int)] W fun e w' => e = .returned (.tuple #[.int .u16 (v1 : Int), .bool o1]) ∧ w' = W) := fun W => Lib.hid (by have h := to_uint16_uint64 a W ha; rw [h1, g1] at h; exact h)
  have R1 : ∀ W, Hid (Calls Tryz.prog 53 #[.int .u64 (a : Int), .int .i64 2] W fun e w' => e = .returned (.tuple #[.int .u64 (v1 : Int), .bool o1]) ∧ w' = W) := fun W => Lib.hid (by have h := refTo2 a W ha2; rw [h1, g1] at h; exact h)
  have A4 : ∀ W, Hid (Calls Tryz.prog 72 #[.int .u64 (a : Int)] W fun e w' => e = .returned (.tuple #[.int .u16 (v1 : Int), .bool o1]) ∧ w' = W) := fun W => Lib.hid (by have h := to_Small_uint64 a W ha; rw [h1, g1] at h; exact h)
  clear h1 g1
  obtain ⟨v2, h2⟩ : ∃ v, toV 4294967296 a = v := ⟨_, rfl⟩
  obtain ⟨o2, g2⟩ : ∃ o, toO 4294967296 a = o := ⟨_, rfl⟩
  have l2 : v2 < 4294967296 := h2 ▸ toV_lt (by decide) a
  have x2 : IntKind.u64.wrap (v2 : Int) = (v2 : Int) := by rw [wu64]; omega
  have A2 : ∀ W, Hid (Calls Tryz.prog 70 #[.int .u64 (a : Int)] W fun e w' => e = .returned (.tuple #[.int .u32 (v2 : Int), .bool o2]) ∧ w' = W) := fun W => Lib.hid (by have h := to_uint32_uint64 a W ha; rw [h2, g2] at h; exact h)
  have R2 : ∀ W, Hid (Calls Tryz.prog 53 #[.int .u64 (a : Int), .int .i64 4] W fun e w' => e = .returned (.tuple #[.int .u64 (v2 : Int), .bool o2]) ∧ w' = W) := fun W => Lib.hid (by have h := refTo4 a W ha2; rw [h2, g2] at h; exact h)
  clear h2 g2
  have A3 : ∀ W, Hid (Calls Tryz.prog 71 #[.int .u64 (a : Int)] W fun e w' => e = .returned (.tuple #[.int .u64 (a : Int), .bool true]) ∧ w' = W) := fun W => Lib.hid (by have h := to_uint64_uint64 a W ha; rw [show toV 18446744073709551616 a = a from if_pos ha2, show toO 18446744073709551616 a = true from decide_eq_true ha2] at h; exact h)
  go_enter Tryz.func16, Tryz.ntmps16
  go_wp2_with (first
    | (go_at_call 68; refine ((A0 _).out).mono ?_; rintro e w' ⟨rfl, rfl⟩)
    | (go_at_call 53; (with_reducible refine ((R0 _).out).mono ?_); rintro e w' ⟨rfl, rfl⟩)
    | (go_at_call 69; refine ((A1 _).out).mono ?_; rintro e w' ⟨rfl, rfl⟩)
    | (go_at_call 53; (with_reducible refine ((R1 _).out).mono ?_); rintro e w' ⟨rfl, rfl⟩)
    | (go_at_call 70; refine ((A2 _).out).mono ?_; rintro e w' ⟨rfl, rfl⟩)
    | (go_at_call 53; (with_reducible refine ((R2 _).out).mono ?_); rintro e w' ⟨rfl, rfl⟩)
    | (go_at_call 71; refine ((A3 _).out).mono ?_; rintro e w' ⟨rfl, rfl⟩)
    | (go_at_call 72; refine ((A4 _).out).mono ?_; rintro e w' ⟨rfl, rfl⟩))
  go_ret
  exact ⟨rfl, rfl⟩
set_option maxHeartbeats 3200000 in
set_option maxRecDepth 100000 in
theorem lawto_Great (a : Nat) (w : World) (ha : a < 18446744073709551616) : Calls Tryz.prog 17 #[.int .u64 (a : Int)] w fun e w' => e = .returned (.bool true) ∧ w' = w := by
  have wa : IntKind.u64.wrap (a : Int) = (a : Int) := by rw [wu64]; omega
  have ha2 : a < 18446744073709551616 := by omega
  obtain ⟨v0, h0⟩ : ∃ v, toV 256 a = v := ⟨_, rfl⟩
  obtain ⟨o0, g0⟩ : ∃ o, toO 256 a = o := ⟨_, rfl⟩
  have l0 : v0 < 256 := h0 ▸ toV_lt (by decide) a
  have x0 : IntKind.u64.wrap (v0 : Int) = (v0 : Int) := by rw [wu64]; omega
  have A0 : ∀ W, Hid (Calls Tryz.prog 73 #[.int .u64 (a : Int)] W fun e w' => e = .returned (.tuple #[.int .u8 (v0 : Int), .bool o0]) ∧ w' = W) := fun W => Lib.hid (by have h := to_uint8_Great a W ha; rw [h0, g0] at h; exact h)
  have R0 : ∀ W, Hid (Calls Tryz.prog 53 #[.int .u64 (a : Int), .int .i64 1] W fun e w' => e = .returned (.tuple #[.int .u64 (v0 : Int), .bool o0]) ∧ w' = W) := fun W => Lib.hid (by have h := refTo1 a W ha2; rw [h0, g0] at h; exact h)
  clear h0 g0
  obtain ⟨v1, h1⟩ : ∃ v, toV 65536 a = v := ⟨_, rfl⟩
  obtain ⟨o1, g1⟩ : ∃ o, toO 65536 a = o := ⟨_, rfl⟩
  have l1 : v1 < 65536 := h1 ▸ toV_lt (by decide) a
  have x1 : IntKind.u64.wrap (v1 : Int) = (v1 : Int) := by rw [wu64]; omega
  have A1 : ∀ W, Hid (Calls Tryz.prog 74 #[.int .u64 (a : Int)] W fun e w' => e = .returned (.tuple #[.int .u16 (v1 : Int), .bool o1]) ∧ w' = W) := fun W => Lib.hid (by have h := to_uint16_Great a W ha; rw [h1, g1] at h; exact h)
  have R1 : ∀ W, Hid (Calls Tryz.prog 53 #[.int .u64 (a : Int), .int .i64 2] W fun e w' => e = .returned (.tuple #[.int .u64 (v1 : Int), .bool o1]) ∧ w' = W) := fun W => Lib.hid (by have h := refTo2 a W ha2; rw [h1, g1] at h; exact h)
  have A4 : ∀ W, Hid (Calls Tryz.prog 77 #[.int .u64 (a : Int)] W fun e w' => e = .returned (.tuple #[.int .u16 (v1 : Int), .bool o1]) ∧ w' = W) := fun W => Lib.hid (by have h := to_Small_Great a W ha; rw [h1, g1] at h; exact h)
  clear h1 g1
  obtain ⟨v2, h2⟩ : ∃ v, toV 4294967296 a = v := ⟨_, rfl⟩
  obtain ⟨o2, g2⟩ : ∃ o, toO 4294967296 a = o := ⟨_, rfl⟩
  have l2 : v2 < 4294967296 := h2 ▸ toV_lt (by decide) a
  have x2 : IntKind.u64.wrap (v2 : Int) = (v2 : Int) := by rw [wu64]; omega
  have A2 : ∀ W, Hid (Calls Tryz.prog 75 #[.int .u64 (a : Int)] W fun e w' => e = .returned (.tuple #[.int .u32 (v2 : Int), .bool o2]) ∧ w' = W) := fun W => Lib.hid (by have h := to_uint32_Great a W ha; rw [h2, g2] at h; exact h)
  have R2 : ∀ W, Hid (Calls Tryz.prog 53 #[.int .u64 (a : Int), .int .i64 4] W fun e w' => e = .returned (.tuple #[.int .u64 (v2 : Int), .bool o2]) ∧ w' = W) := fun W => Lib.hid (by have h := refTo4 a W ha2; rw [h2, g2] at h; exact h)
  clear h2 g2
  have A3 : ∀ W, Hid (Calls Tryz.prog 76 #[.int .u64 (a : Int)] W fun e w' => e = .returned (.tuple #[.int .u64 (a : Int), .bool true]) ∧ w' = W) := fun W => Lib.hid (by have h := to_uint64_Great a W ha; rw [show toV 18446744073709551616 a = a from if_pos ha2, show toO 18446744073709551616 a = true from decide_eq_true ha2] at h; exact h)
  go_enter Tryz.func17, Tryz.ntmps17
  go_wp2_with (first
    | (go_at_call 73; refine ((A0 _).out).mono ?_; rintro e w' ⟨rfl, rfl⟩)
    | (go_at_call 53; (with_reducible refine ((R0 _).out).mono ?_); rintro e w' ⟨rfl, rfl⟩)
    | (go_at_call 74; refine ((A1 _).out).mono ?_; rintro e w' ⟨rfl, rfl⟩)
    | (go_at_call 53; (with_reducible refine ((R1 _).out).mono ?_); rintro e w' ⟨rfl, rfl⟩)
    | (go_at_call 75; refine ((A2 _).out).mono ?_; rintro e w' ⟨rfl, rfl⟩)
    | (go_at_call 53; (with_reducible refine ((R2 _).out).mono ?_); rintro e w' ⟨rfl, rfl⟩)
    | (go_at_call 76; refine ((A3 _).out).mono ?_; rintro e w' ⟨rfl, rfl⟩)
    | (go_at_call 77; refine ((A4 _).out).mono ?_; rintro e w' ⟨rfl, rfl⟩))
  go_ret
  exact ⟨rfl, rfl⟩
set_option maxHeartbeats 3200000 in
set_option maxRecDepth 100000 in
theorem lawto_Tiny (a : Nat) (w : World) (ha : a < 256) : Calls Tryz.prog 18 #[.int .u8 (a : Int)] w fun e w' => e = .returned (.bool true) ∧ w' = w := by
  have wa : IntKind.u64.wrap (a : Int) = (a : Int) := by rw [wu64]; omega
  have ha2 : a < 18446744073709551616 := by omega
  obtain ⟨v0, h0⟩ : ∃ v, toV 256 a = v := ⟨_, rfl⟩
  obtain ⟨o0, g0⟩ : ∃ o, toO 256 a = o := ⟨_, rfl⟩
  have l0 : v0 < 256 := h0 ▸ toV_lt (by decide) a
  have x0 : IntKind.u64.wrap (v0 : Int) = (v0 : Int) := by rw [wu64]; omega
  have A0 : ∀ W, Hid (Calls Tryz.prog 78 #[.int .u8 (a : Int)] W fun e w' => e = .returned (.tuple #[.int .u8 (v0 : Int), .bool o0]) ∧ w' = W) := fun W => Lib.hid (by have h := to_uint8_Tiny a W ha; rw [h0, g0] at h; exact h)
  have R0 : ∀ W, Hid (Calls Tryz.prog 53 #[.int .u64 (a : Int), .int .i64 1] W fun e w' => e = .returned (.tuple #[.int .u64 (v0 : Int), .bool o0]) ∧ w' = W) := fun W => Lib.hid (by have h := refTo1 a W ha2; rw [h0, g0] at h; exact h)
  clear h0 g0
  obtain ⟨v1, h1⟩ : ∃ v, toV 65536 a = v := ⟨_, rfl⟩
  obtain ⟨o1, g1⟩ : ∃ o, toO 65536 a = o := ⟨_, rfl⟩
  have l1 : v1 < 65536 := h1 ▸ toV_lt (by decide) a
  have x1 : IntKind.u64.wrap (v1 : Int) = (v1 : Int) := by rw [wu64]; omega
  have A1 : ∀ W, Hid (Calls Tryz.prog 79 #[.int .u8 (a : Int)] W fun e w' => e = .returned (.tuple #[.int .u16 (v1 : Int), .bool o1]) ∧ w' = W) := fun W => Lib.hid (by have h := to_uint16_Tiny a W ha; rw [h1, g1] at h; exact h)
  have R1 : ∀ W, Hid (Calls Tryz.prog 53 #[.int .u64 (a : Int), .int .i64 2] W fun e w' => e = .returned (.tuple #[.int .u64 (v1 : Int), .bool o1]) ∧ w' = W) := fun W => Lib.hid (by have h := refTo2 a W ha2; rw [h1, g1] at h; exact h)
  have A4 : ∀ W, Hid (Calls Tryz.prog 82 #[.int .u8 (a : Int)] W fun e w' => e = .returned (.tuple #[.int .u16 (v1 : Int), .bool o1]) ∧ w' = W) := fun W => Lib.hid (by have h := to_Small_Tiny a W ha; rw [h1, g1] at h; exact h)
  clear h1 g1
  obtain ⟨v2, h2⟩ : ∃ v, toV 4294967296 a = v := ⟨_, rfl⟩
  obtain ⟨o2, g2⟩ : ∃ o, toO 4294967296 a = o := ⟨_, rfl⟩
  have l2 : v2 < 4294967296 := h2 ▸ toV_lt (by decide) a
  have x2 : IntKind.u64.wrap (v2 : Int) = (v2 : Int) := by rw [wu64]; omega
  have A2 : ∀ W, Hid (Calls Tryz.prog 80 #[.int .u8 (a : Int)] W fun e w' => e = .returned (.tuple #[.int .u32 (v2 : Int), .bool o2]) ∧ w' = W) := fun W => Lib.hid (by have h := to_uint32_Tiny a W ha; rw [h2, g2] at h; exact h)
  have R2 : ∀ W, Hid (Calls Tryz.prog 53 #[.int .u64 (a : Int), .int .i64 4] W fun e w' => e = .returned (.tuple #[.int .u64 (v2 : Int), .bool o2]) ∧ w' = W) := fun W => Lib.hid (by have h := refTo4 a W ha2; rw [h2, g2] at h; exact h)
  clear h2 g2
  have A3 : ∀ W, Hid (Calls Tryz.prog 81 #[.int .u8 (a : Int)] W fun e w' => e = .returned (.tuple #[.int .u64 (a : Int), .bool true]) ∧ w' = W) := fun W => Lib.hid (by have h := to_uint64_Tiny a W ha; rw [show toV 18446744073709551616 a = a from if_pos ha2, show toO 18446744073709551616 a = true from decide_eq_true ha2] at h; exact h)
  go_enter Tryz.func18, Tryz.ntmps18
  go_wp2_with (first
    | (go_at_call 78; refine ((A0 _).out).mono ?_; rintro e w' ⟨rfl, rfl⟩)
    | (go_at_call 53; (with_reducible refine ((R0 _).out).mono ?_); rintro e w' ⟨rfl, rfl⟩)
    | (go_at_call 79; refine ((A1 _).out).mono ?_; rintro e w' ⟨rfl, rfl⟩)
    | (go_at_call 53; (with_reducible refine ((R1 _).out).mono ?_); rintro e w' ⟨rfl, rfl⟩)
    | (go_at_call 80; refine ((A2 _).out).mono ?_; rintro e w' ⟨rfl, rfl⟩)
    | (go_at_call 53; (with_reducible refine ((R2 _).out).mono ?_); rintro e w' ⟨rfl, rfl⟩)
    | (go_at_call 81; refine ((A3 _).out).mono ?_; rintro e w' ⟨rfl, rfl⟩)
    | (go_at_call 82; refine ((A4 _).out).mono ?_; rintro e w' ⟨rfl, rfl⟩))
  go_ret
  exact ⟨rfl, rfl⟩
end Go.Proofs.YthdjddpomaendaaGreat.B
