/- The reference's Bytes. Printed by gen_ref.py. -/
import Derived.Test.YthdjddpomaendaaW3
namespace Go.Proofs.Ythdjddpomaendaa.B
open Go.RowKit
set_option linter.unusedVariables false
set_option linter.unusedSimpArgs false

set_option maxHeartbeats 3200000 in
set_option maxRecDepth 100000 in
theorem refBytes1 (x : Nat) (w : World) (hx : x < 18446744073709551616) : Calls Try.prog 127 #[.int .u64 (x : Int), .int .i64 1] w fun r w' => ∃ A' c', r = .returned (.slice A' 1 c') ∧ Own w' w.heap.size (.slice A' 1 c') (leBytes 1 x) ∧ Below w.heap.size w w' := by
  have hb1 : Below w.heap.size w w := Below.refl _ _
  have hO : Own w w.heap.size (.slice none 0 0) [] := Own.nil _ _
  go_enter Try.func127, Try.ntmps127
  go_wp2_with fail
  refine wp_loop_rounds 2 ?_
  rw [rounds_succ]
  go_wp2_with ((with_reducible refine at_builtin_ (b := .append) rfl ?_); go_must (refine app1_u8 rfl _ _ rfl w.heap.size _ _ _ ?_ ?_ ?_ ?_ hO hb1.size 1 ?_ ?_ w.heap.size w hb1 (Nat.le_refl _) ?_; rfl; rfl; omega; omega; (first | rfl | (simp; done) | (simp <;> omega)); omega); clear hO hb1; intro A0 c0 w0 hO hb1 _ _)
  rw [rounds_succ]
  go_wp2
  go_ret
  exact ⟨_, _, rfl, Own.eq_ hO (by simp only [leBytes_succ, leBytes_zero, List.append_assoc, List.cons_append, List.nil_append]; simp only [List.cons.injEq, and_true]; (repeat' refine And.intro ?_ ?_) <;> (refine u8_of ?_; omega)), hb1⟩

set_option maxHeartbeats 3200000 in
set_option maxRecDepth 100000 in
theorem refBytes2 (x : Nat) (w : World) (hx : x < 18446744073709551616) : Calls Try.prog 127 #[.int .u64 (x : Int), .int .i64 2] w fun r w' => ∃ A' c', r = .returned (.slice A' 2 c') ∧ Own w' w.heap.size (.slice A' 2 c') (leBytes 2 x) ∧ Below w.heap.size w w' := by
  have hb1 : Below w.heap.size w w := Below.refl _ _
  have hO : Own w w.heap.size (.slice none 0 0) [] := Own.nil _ _
  go_enter Try.func127, Try.ntmps127
  go_wp2_with fail
  refine wp_loop_rounds 3 ?_
  rw [rounds_succ]
  go_wp2_with ((with_reducible refine at_builtin_ (b := .append) rfl ?_); go_must (refine app1_u8 rfl _ _ rfl w.heap.size _ _ _ ?_ ?_ ?_ ?_ hO hb1.size 1 ?_ ?_ w.heap.size w hb1 (Nat.le_refl _) ?_; rfl; rfl; omega; omega; (first | rfl | (simp; done) | (simp <;> omega)); omega); clear hO hb1; intro A0 c0 w0 hO hb1 _ _)
  rw [rounds_succ]
  go_wp2_with ((with_reducible refine at_builtin_ (b := .append) rfl ?_); go_must (refine app1_u8 rfl _ _ rfl w.heap.size _ _ _ ?_ ?_ ?_ ?_ hO hb1.size 2 ?_ ?_ w.heap.size w hb1 (Nat.le_refl _) ?_; rfl; rfl; omega; omega; (first | rfl | (simp; done) | (simp <;> omega)); omega); clear hO hb1; intro A1 c1 w1 hO hb1 _ _)
  rw [rounds_succ]
  go_wp2
  go_ret
  exact ⟨_, _, rfl, Own.eq_ hO (by simp only [leBytes_succ, leBytes_zero, List.append_assoc, List.cons_append, List.nil_append]; simp only [List.cons.injEq, and_true]; (repeat' refine And.intro ?_ ?_) <;> (refine u8_of ?_; omega)), hb1⟩

set_option maxHeartbeats 3200000 in
set_option maxRecDepth 100000 in
theorem refBytes4 (x : Nat) (w : World) (hx : x < 18446744073709551616) : Calls Try.prog 127 #[.int .u64 (x : Int), .int .i64 4] w fun r w' => ∃ A' c', r = .returned (.slice A' 4 c') ∧ Own w' w.heap.size (.slice A' 4 c') (leBytes 4 x) ∧ Below w.heap.size w w' := by
  have hb1 : Below w.heap.size w w := Below.refl _ _
  have hO : Own w w.heap.size (.slice none 0 0) [] := Own.nil _ _
  go_enter Try.func127, Try.ntmps127
  go_wp2_with fail
  refine wp_loop_rounds 5 ?_
  rw [rounds_succ]
  go_wp2_with ((with_reducible refine at_builtin_ (b := .append) rfl ?_); go_must (refine app1_u8 rfl _ _ rfl w.heap.size _ _ _ ?_ ?_ ?_ ?_ hO hb1.size 1 ?_ ?_ w.heap.size w hb1 (Nat.le_refl _) ?_; rfl; rfl; omega; omega; (first | rfl | (simp; done) | (simp <;> omega)); omega); clear hO hb1; intro A0 c0 w0 hO hb1 _ _)
  rw [rounds_succ]
  go_wp2_with ((with_reducible refine at_builtin_ (b := .append) rfl ?_); go_must (refine app1_u8 rfl _ _ rfl w.heap.size _ _ _ ?_ ?_ ?_ ?_ hO hb1.size 2 ?_ ?_ w.heap.size w hb1 (Nat.le_refl _) ?_; rfl; rfl; omega; omega; (first | rfl | (simp; done) | (simp <;> omega)); omega); clear hO hb1; intro A1 c1 w1 hO hb1 _ _)
  rw [rounds_succ]
  go_wp2_with ((with_reducible refine at_builtin_ (b := .append) rfl ?_); go_must (refine app1_u8 rfl _ _ rfl w.heap.size _ _ _ ?_ ?_ ?_ ?_ hO hb1.size 3 ?_ ?_ w.heap.size w hb1 (Nat.le_refl _) ?_; rfl; rfl; omega; omega; (first | rfl | (simp; done) | (simp <;> omega)); omega); clear hO hb1; intro A2 c2 w2 hO hb1 _ _)
  rw [rounds_succ]
  go_wp2_with ((with_reducible refine at_builtin_ (b := .append) rfl ?_); go_must (refine app1_u8 rfl _ _ rfl w.heap.size _ _ _ ?_ ?_ ?_ ?_ hO hb1.size 4 ?_ ?_ w.heap.size w hb1 (Nat.le_refl _) ?_; rfl; rfl; omega; omega; (first | rfl | (simp; done) | (simp <;> omega)); omega); clear hO hb1; intro A3 c3 w3 hO hb1 _ _)
  rw [rounds_succ]
  go_wp2
  go_ret
  exact ⟨_, _, rfl, Own.eq_ hO (by simp only [leBytes_succ, leBytes_zero, List.append_assoc, List.cons_append, List.nil_append]; simp only [List.cons.injEq, and_true]; (repeat' refine And.intro ?_ ?_) <;> (refine u8_of ?_; omega)), hb1⟩

set_option maxHeartbeats 3200000 in
set_option maxRecDepth 100000 in
theorem refBytes8 (x : Nat) (w : World) (hx : x < 18446744073709551616) : Calls Try.prog 127 #[.int .u64 (x : Int), .int .i64 8] w fun r w' => ∃ A' c', r = .returned (.slice A' 8 c') ∧ Own w' w.heap.size (.slice A' 8 c') (leBytes 8 x) ∧ Below w.heap.size w w' := by
  have hb1 : Below w.heap.size w w := Below.refl _ _
  have hO : Own w w.heap.size (.slice none 0 0) [] := Own.nil _ _
  go_enter Try.func127, Try.ntmps127
  go_wp2_with fail
  refine wp_loop_rounds 9 ?_
  rw [rounds_succ]
  go_wp2_with ((with_reducible refine at_builtin_ (b := .append) rfl ?_); go_must (refine app1_u8 rfl _ _ rfl w.heap.size _ _ _ ?_ ?_ ?_ ?_ hO hb1.size 1 ?_ ?_ w.heap.size w hb1 (Nat.le_refl _) ?_; rfl; rfl; omega; omega; (first | rfl | (simp; done) | (simp <;> omega)); omega); clear hO hb1; intro A0 c0 w0 hO hb1 _ _)
  rw [rounds_succ]
  go_wp2_with ((with_reducible refine at_builtin_ (b := .append) rfl ?_); go_must (refine app1_u8 rfl _ _ rfl w.heap.size _ _ _ ?_ ?_ ?_ ?_ hO hb1.size 2 ?_ ?_ w.heap.size w hb1 (Nat.le_refl _) ?_; rfl; rfl; omega; omega; (first | rfl | (simp; done) | (simp <;> omega)); omega); clear hO hb1; intro A1 c1 w1 hO hb1 _ _)
  rw [rounds_succ]
  go_wp2_with ((with_reducible refine at_builtin_ (b := .append) rfl ?_); go_must (refine app1_u8 rfl _ _ rfl w.heap.size _ _ _ ?_ ?_ ?_ ?_ hO hb1.size 3 ?_ ?_ w.heap.size w hb1 (Nat.le_refl _) ?_; rfl; rfl; omega; omega; (first | rfl | (simp; done) | (simp <;> omega)); omega); clear hO hb1; intro A2 c2 w2 hO hb1 _ _)
  rw [rounds_succ]
  go_wp2_with ((with_reducible refine at_builtin_ (b := .append) rfl ?_); go_must (refine app1_u8 rfl _ _ rfl w.heap.size _ _ _ ?_ ?_ ?_ ?_ hO hb1.size 4 ?_ ?_ w.heap.size w hb1 (Nat.le_refl _) ?_; rfl; rfl; omega; omega; (first | rfl | (simp; done) | (simp <;> omega)); omega); clear hO hb1; intro A3 c3 w3 hO hb1 _ _)
  rw [rounds_succ]
  go_wp2_with ((with_reducible refine at_builtin_ (b := .append) rfl ?_); go_must (refine app1_u8 rfl _ _ rfl w.heap.size _ _ _ ?_ ?_ ?_ ?_ hO hb1.size 5 ?_ ?_ w.heap.size w hb1 (Nat.le_refl _) ?_; rfl; rfl; omega; omega; (first | rfl | (simp; done) | (simp <;> omega)); omega); clear hO hb1; intro A4 c4 w4 hO hb1 _ _)
  rw [rounds_succ]
  go_wp2_with ((with_reducible refine at_builtin_ (b := .append) rfl ?_); go_must (refine app1_u8 rfl _ _ rfl w.heap.size _ _ _ ?_ ?_ ?_ ?_ hO hb1.size 6 ?_ ?_ w.heap.size w hb1 (Nat.le_refl _) ?_; rfl; rfl; omega; omega; (first | rfl | (simp; done) | (simp <;> omega)); omega); clear hO hb1; intro A5 c5 w5 hO hb1 _ _)
  rw [rounds_succ]
  go_wp2_with ((with_reducible refine at_builtin_ (b := .append) rfl ?_); go_must (refine app1_u8 rfl _ _ rfl w.heap.size _ _ _ ?_ ?_ ?_ ?_ hO hb1.size 7 ?_ ?_ w.heap.size w hb1 (Nat.le_refl _) ?_; rfl; rfl; omega; omega; (first | rfl | (simp; done) | (simp <;> omega)); omega); clear hO hb1; intro A6 c6 w6 hO hb1 _ _)
  rw [rounds_succ]
  go_wp2_with ((with_reducible refine at_builtin_ (b := .append) rfl ?_); go_must (refine app1_u8 rfl _ _ rfl w.heap.size _ _ _ ?_ ?_ ?_ ?_ hO hb1.size 8 ?_ ?_ w.heap.size w hb1 (Nat.le_refl _) ?_; rfl; rfl; omega; omega; (first | rfl | (simp; done) | (simp <;> omega)); omega); clear hO hb1; intro A7 c7 w7 hO hb1 _ _)
  rw [rounds_succ]
  go_wp2
  go_ret
  exact ⟨_, _, rfl, Own.eq_ hO (by simp only [leBytes_succ, leBytes_zero, List.append_assoc, List.cons_append, List.nil_append]; simp only [List.cons.injEq, and_true]; (repeat' refine And.intro ?_ ?_) <;> (refine u8_of ?_; omega)), hb1⟩
end Go.Proofs.Ythdjddpomaendaa.B
