/- Marks. -/
import Derived.Test.YthdjddpomaendaaGreatK3
namespace Go.Proofs.YthdjddpomaendaaGreat.B
open Go.RowKit
set_option linter.unusedVariables false
set_option linter.unusedSimpArgs false

def markB (i j : Nat) : Nat := (i + 1) / 2 ^ (8 * (j % 3)) % 256
set_option maxHeartbeats 3200000 in
set_option maxRecDepth 100000 in
theorem bytes_ (i j : Nat) (w : World) (hi : i ≤ 1152921504606846976) (hj : j ≤ 9223372036854775807) :
    Calls Tryz.prog 20 #[.int .i64 (i : Int), .int .i64 (j : Int)] w fun r w' => r = .returned (.int .u8 ((markB i j : Nat) : Int)) ∧ w' = w := by
  have h3 : j % 3 = 0 ∨ j % 3 = 1 ∨ j % 3 = 2 := by omega
  rcases h3 with h | h | h
  · have e : (j : Int) % 3 = 0 := by omega
    have HM := Lib.hid (show ((markB i j : Nat) : Int) = ((i : Int) + 1) % 256 by unfold markB; rw [h]; simp)
    clear h
    go_enter Tryz.func20, Tryz.ntmps20
    go_wp2
    go_ret
    exact ⟨ret_int (by rw [HM.out]), rfl⟩
  · have e : (j : Int) % 3 = 1 := by omega
    have HM := Lib.hid (show ((markB i j : Nat) : Int) = ((i : Int) + 1) / 256 % 256 by unfold markB; rw [h]; simp)
    clear h
    go_enter Tryz.func20, Tryz.ntmps20
    go_wp2
    go_ret
    exact ⟨ret_int (by rw [HM.out]), rfl⟩
  · have e : (j : Int) % 3 = 2 := by omega
    have HM := Lib.hid (show ((markB i j : Nat) : Int) = ((i : Int) + 1) / 65536 % 256 by unfold markB; rw [h]; simp)
    clear h
    go_enter Tryz.func20, Tryz.ntmps20
    go_wp2
    go_ret
    exact ⟨ret_int (by rw [HM.out]), rfl⟩
end Go.Proofs.YthdjddpomaendaaGreat.B
