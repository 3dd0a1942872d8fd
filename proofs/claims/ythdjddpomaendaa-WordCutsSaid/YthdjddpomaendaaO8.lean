/- The walks of width and alike: two steps that bear the same. -/
import Derived.Test.YthdjddpomaendaaO6
import Derived.Deep.RegionHeld3
import Derived.Deep.DrawnRows
namespace Go.Proofs.Ythdjddpomaendaa.B
open Go.RowKit
set_option linter.unusedVariables false
set_option linter.unusedSimpArgs false
attribute [local go_sem ↓] Go.wp_at_zero Go.wp_at_succ

set_option maxHeartbeats 800000 in
set_option maxRecDepth 100000 in
theorem width1 (w : World) : Calls Try.prog 99 #[.int .i64 1] w fun r w' => r = .returned (.int .i64 1) ∧ Below w.heap.size w w' := by
  go_enter Try.func99, Try.ntmps99
  go_wp2
  go_ret
  exact ⟨rfl, below_alloc (Below.refl _ w) _⟩
set_option maxHeartbeats 800000 in
set_option maxRecDepth 100000 in
theorem width2 (w : World) : Calls Try.prog 99 #[.int .i64 2] w fun r w' => r = .returned (.int .i64 2) ∧ Below w.heap.size w w' := by
  go_enter Try.func99, Try.ntmps99
  go_wp2
  go_ret
  exact ⟨rfl, below_alloc (Below.refl _ w) _⟩
set_option maxHeartbeats 800000 in
set_option maxRecDepth 100000 in
theorem width3 (w : World) : Calls Try.prog 99 #[.int .i64 3] w fun r w' => r = .returned (.int .i64 4) ∧ Below w.heap.size w w' := by
  go_enter Try.func99, Try.ntmps99
  go_wp2
  go_ret
  exact ⟨rfl, below_alloc (Below.refl _ w) _⟩

theorem bcell {W w1 : World} (hb : Below W.heap.size W w1) : (∀ b o, b < W.heap.size → w1.cell? ⟨b, o, none⟩ = W.cell? ⟨b, o, none⟩) ∧ (∀ b o, b < W.heap.size → w1.frozen? ⟨b, o, none⟩ = W.frozen? ⟨b, o, none⟩) :=
  ⟨fun b o h => hb.cell (p := ⟨b, o, none⟩) h, fun b o h => hb.frozen (p := ⟨b, o, none⟩) h⟩
section
variable (w : World) (a : Int) (n : Nat) (num : Int) (A2 : Option Addr) (c2 : Nat) (p : List UInt8) (s : ByteArray) (kd' a' : Int) (n' : Nat) (num' : Int) (A2' : Option Addr) (c2' : Nat) (p' : List UInt8) (s' : ByteArray)
set_option maxHeartbeats 3200000 in
set_option maxRecDepth 100000 in
theorem alike1 (hn : n % 256 = n') :
    Calls Try.prog 56 #[OpV.val ⟨1, a, n, num, A2, c2, p, s⟩, OpV.val ⟨kd', a', n', num', A2', c2', p', s'⟩] w fun r w' => r = .returned (.bool true) ∧ Below w.heap.size w w' := by
  have t1 : ((n : Int) % 256 == (n' : Int)) = true := by rw [beq_iff_eq]; omega
  have t2 : ((n : Int).tmod 256 == (n' : Int)) = true := by rw [Int.tmod_eq_emod_of_nonneg (by omega)]; exact t1
  have h0 : (0 : Int) ≤ (n : Int) := by omega
  have hB : Below w.heap.size w ((w.alloc (.cells (OpV.cells ⟨1, a, n, num, A2, c2, p, s⟩) 54)).alloc (.cells (OpV.cells ⟨kd', a', n', num', A2', c2', p', s'⟩) 54)) := below_alloc (below_alloc (Below.refl _ w) _) _
  have HB := Lib.hid hB
  have z1 : IntKind.i64.wrap 8 = 8 := by decide
  have z2 : IntKind.u64.wrap 8 = 8 := by decide
  have z3 : IntKind.u64.wrap (2 ^ min 8 64) = 256 := by decide
  have z4 : IntKind.u64.wrap 256 = 256 := by decide
  clear hn hB
  show Calls Try.prog 56 #[.agg #[.int .i64 1, .int .i64 a, .int .u64 (n : Int), .int .i64 num, .slice A2 p.length c2, .string s], .agg #[.int .i64 kd', .int .i64 a', .int .u64 (n' : Int), .int .i64 num', .slice A2' p'.length c2', .string s']] w _
  go_enter Try.func56, Try.ntmps56
  go_wp2_with fail
  go_region_held3 (fun w' => w'.cell? ⟨w.heap.size, 0, none⟩ = some (.int .i64 1) ∧ w'.cell? ⟨w.heap.size, 2, none⟩ = some (.int .u64 (n : Int)) ∧ w'.cell? ⟨w.heap.size + 1, 2, none⟩ = some (.int .u64 (n' : Int))) (go_keep)
    (first | (go_at_call 99; refine (width1 _).mono ?_; rintro e w' ⟨rfl, hb⟩; have q1 := (bcell hb).1 w.heap.size 0 (by simp; omega); have q2 := (bcell hb).1 w.heap.size 2 (by simp; omega); have q3 := (bcell hb).1 (w.heap.size + 1) 2 (by simp)))
  all_goals
    have HB3 := Lib.hid ((below_drewN HB.out 1).trans (hb.mono (below_drewN HB.out 1).size))
    clear hb q1 q2 q3
    go_wp2_with fail
    go_ret
    exact ⟨rfl, HB3.out⟩
set_option maxHeartbeats 3200000 in
set_option maxRecDepth 100000 in
theorem alike2 (hn : n % 65536 = n') :
    Calls Try.prog 56 #[OpV.val ⟨2, a, n, num, A2, c2, p, s⟩, OpV.val ⟨kd', a', n', num', A2', c2', p', s'⟩] w fun r w' => r = .returned (.bool true) ∧ Below w.heap.size w w' := by
  have t1 : ((n : Int) % 65536 == (n' : Int)) = true := by rw [beq_iff_eq]; omega
  have t2 : ((n : Int).tmod 65536 == (n' : Int)) = true := by rw [Int.tmod_eq_emod_of_nonneg (by omega)]; exact t1
  have h0 : (0 : Int) ≤ (n : Int) := by omega
  have hB : Below w.heap.size w ((w.alloc (.cells (OpV.cells ⟨2, a, n, num, A2, c2, p, s⟩) 54)).alloc (.cells (OpV.cells ⟨kd', a', n', num', A2', c2', p', s'⟩) 54)) := below_alloc (below_alloc (Below.refl _ w) _) _
  have HB := Lib.hid hB
  have z1 : IntKind.i64.wrap 16 = 16 := by decide
  have z2 : IntKind.u64.wrap 16 = 16 := by decide
  have z3 : IntKind.u64.wrap (2 ^ min 16 64) = 65536 := by decide
  have z4 : IntKind.u64.wrap 65536 = 65536 := by decide
  clear hn hB
  show Calls Try.prog 56 #[.agg #[.int .i64 2, .int .i64 a, .int .u64 (n : Int), .int .i64 num, .slice A2 p.length c2, .string s], .agg #[.int .i64 kd', .int .i64 a', .int .u64 (n' : Int), .int .i64 num', .slice A2' p'.length c2', .string s']] w _
  go_enter Try.func56, Try.ntmps56
  go_wp2_with fail
  go_region_held3 (fun w' => w'.cell? ⟨w.heap.size, 0, none⟩ = some (.int .i64 2) ∧ w'.cell? ⟨w.heap.size, 2, none⟩ = some (.int .u64 (n : Int)) ∧ w'.cell? ⟨w.heap.size + 1, 2, none⟩ = some (.int .u64 (n' : Int))) (go_keep)
    (first | (go_at_call 99; refine (width2 _).mono ?_; rintro e w' ⟨rfl, hb⟩; have q1 := (bcell hb).1 w.heap.size 0 (by simp; omega); have q2 := (bcell hb).1 w.heap.size 2 (by simp; omega); have q3 := (bcell hb).1 (w.heap.size + 1) 2 (by simp)))
  all_goals
    have HB3 := Lib.hid ((below_drewN HB.out 1).trans (hb.mono (below_drewN HB.out 1).size))
    clear hb q1 q2 q3
    go_wp2_with fail
    go_ret
    exact ⟨rfl, HB3.out⟩
set_option maxHeartbeats 3200000 in
set_option maxRecDepth 100000 in
theorem alike3 (hn : n % 4294967296 = n') :
    Calls Try.prog 56 #[OpV.val ⟨3, a, n, num, A2, c2, p, s⟩, OpV.val ⟨kd', a', n', num', A2', c2', p', s'⟩] w fun r w' => r = .returned (.bool true) ∧ Below w.heap.size w w' := by
  have t1 : ((n : Int) % 4294967296 == (n' : Int)) = true := by rw [beq_iff_eq]; omega
  have t2 : ((n : Int).tmod 4294967296 == (n' : Int)) = true := by rw [Int.tmod_eq_emod_of_nonneg (by omega)]; exact t1
  have h0 : (0 : Int) ≤ (n : Int) := by omega
  have hB : Below w.heap.size w ((w.alloc (.cells (OpV.cells ⟨3, a, n, num, A2, c2, p, s⟩) 54)).alloc (.cells (OpV.cells ⟨kd', a', n', num', A2', c2', p', s'⟩) 54)) := below_alloc (below_alloc (Below.refl _ w) _) _
  have HB := Lib.hid hB
  have z1 : IntKind.i64.wrap 32 = 32 := by decide
  have z2 : IntKind.u64.wrap 32 = 32 := by decide
  have z3 : IntKind.u64.wrap (2 ^ min 32 64) = 4294967296 := by decide
  have z4 : IntKind.u64.wrap 4294967296 = 4294967296 := by decide
  clear hn hB
  show Calls Try.prog 56 #[.agg #[.int .i64 3, .int .i64 a, .int .u64 (n : Int), .int .i64 num, .slice A2 p.length c2, .string s], .agg #[.int .i64 kd', .int .i64 a', .int .u64 (n' : Int), .int .i64 num', .slice A2' p'.length c2', .string s']] w _
  go_enter Try.func56, Try.ntmps56
  go_wp2_with fail
  go_region_held3 (fun w' => w'.cell? ⟨w.heap.size, 0, none⟩ = some (.int .i64 3) ∧ w'.cell? ⟨w.heap.size, 2, none⟩ = some (.int .u64 (n : Int)) ∧ w'.cell? ⟨w.heap.size + 1, 2, none⟩ = some (.int .u64 (n' : Int))) (go_keep)
    (first | (go_at_call 99; refine (width3 _).mono ?_; rintro e w' ⟨rfl, hb⟩; have q1 := (bcell hb).1 w.heap.size 0 (by simp; omega); have q2 := (bcell hb).1 w.heap.size 2 (by simp; omega); have q3 := (bcell hb).1 (w.heap.size + 1) 2 (by simp)))
  all_goals
    have HB3 := Lib.hid ((below_drewN HB.out 1).trans (hb.mono (below_drewN HB.out 1).size))
    clear hb q1 q2 q3
    go_wp2_with fail
    go_ret
    exact ⟨rfl, HB3.out⟩
set_option maxHeartbeats 3200000 in
set_option maxRecDepth 100000 in
theorem alike4 (hn : n = n') :
    Calls Try.prog 56 #[OpV.val ⟨4, a, n, num, A2, c2, p, s⟩, OpV.val ⟨kd', a', n', num', A2', c2', p', s'⟩] w fun r w' => r = .returned (.bool true) ∧ Below w.heap.size w w' := by
  subst hn
  have HB := Lib.hid (below_alloc (below_alloc (Below.refl w.heap.size w) (.cells (OpV.cells ⟨4, a, n, num, A2, c2, p, s⟩) 54)) (.cells (OpV.cells ⟨kd', a', n, num', A2', c2', p', s'⟩) 54))
  show Calls Try.prog 56 #[.agg #[.int .i64 4, .int .i64 a, .int .u64 (n : Int), .int .i64 num, .slice A2 p.length c2, .string s], .agg #[.int .i64 kd', .int .i64 a', .int .u64 (n : Int), .int .i64 num', .slice A2' p'.length c2', .string s']] w _
  go_enter Try.func56, Try.ntmps56
  go_wp2_with fail
  go_ret
  exact ⟨rfl, HB.out⟩
set_option maxHeartbeats 3200000 in
set_option maxRecDepth 100000 in
theorem alike5 (hp : p = p') (hr : Rd w A2 p.length (bvs p)) (hr' : Rd w A2' p'.length (bvs p')) :
    Calls Try.prog 56 #[OpV.val ⟨5, a, n, num, A2, c2, p, s⟩, OpV.val ⟨kd', a', n', num', A2', c2', p', s'⟩] w fun r w' => r = .returned (.bool true) ∧ Below w.heap.size w w' := by
  subst hp
  have hB := below_alloc (below_alloc (Below.refl w.heap.size w) (.cells (OpV.cells ⟨5, a, n, num, A2, c2, p, s⟩) 54)) (.cells (OpV.cells ⟨kd', a', n', num', A2', c2', p, s'⟩) 54)
  have HB := Lib.hid hB
  have ka := conv_string (c := c2) (hr.below hB (Nat.le_refl _))
  have kb := conv_string (c := c2') (hr'.below hB (Nat.le_refl _))
  dsimp only [OpV.cells] at ka kb
  clear hB
  show Calls Try.prog 56 #[.agg #[.int .i64 5, .int .i64 a, .int .u64 (n : Int), .int .i64 num, .slice A2 p.length c2, .string s], .agg #[.int .i64 kd', .int .i64 a', .int .u64 (n' : Int), .int .i64 num', .slice A2' p.length c2', .string s']] w _
  go_enter Try.func56, Try.ntmps56
  go_wp2_with fail
  go_ret
  exact ⟨rfl, HB.out⟩
set_option maxHeartbeats 3200000 in
set_option maxRecDepth 100000 in
theorem alike6 (hs : s = s') :
    Calls Try.prog 56 #[OpV.val ⟨6, a, n, num, A2, c2, p, s⟩, OpV.val ⟨kd', a', n', num', A2', c2', p', s'⟩] w fun r w' => r = .returned (.bool true) ∧ Below w.heap.size w w' := by
  subst hs
  have HB := Lib.hid (below_alloc (below_alloc (Below.refl w.heap.size w) (.cells (OpV.cells ⟨6, a, n, num, A2, c2, p, s⟩) 54)) (.cells (OpV.cells ⟨kd', a', n', num', A2', c2', p', s⟩) 54))
  show Calls Try.prog 56 #[.agg #[.int .i64 6, .int .i64 a, .int .u64 (n : Int), .int .i64 num, .slice A2 p.length c2, .string s], .agg #[.int .i64 kd', .int .i64 a', .int .u64 (n' : Int), .int .i64 num', .slice A2' p'.length c2', .string s]] w _
  go_enter Try.func56, Try.ntmps56
  go_wp2_with fail
  go_ret
  exact ⟨rfl, HB.out⟩
set_option maxHeartbeats 3200000 in
set_option maxRecDepth 100000 in
theorem alikeX (kd : Int) (h1 : (kd == 1) = false) (h2 : (kd == 2) = false) (h3 : (kd == 3) = false) (h4 : (kd == 4) = false) (h5 : (kd == 5) = false) (h6 : (kd == 6) = false) :
    Calls Try.prog 56 #[OpV.val ⟨kd, a, n, num, A2, c2, p, s⟩, OpV.val ⟨kd', a', n', num', A2', c2', p', s'⟩] w fun r w' => r = .returned (.bool true) ∧ Below w.heap.size w w' := by
  have HB := Lib.hid (below_alloc (below_alloc (Below.refl w.heap.size w) (.cells (OpV.cells ⟨kd, a, n, num, A2, c2, p, s⟩) 54)) (.cells (OpV.cells ⟨kd', a', n', num', A2', c2', p', s'⟩) 54))
  show Calls Try.prog 56 #[.agg #[.int .i64 kd, .int .i64 a, .int .u64 (n : Int), .int .i64 num, .slice A2 p.length c2, .string s], .agg #[.int .i64 kd', .int .i64 a', .int .u64 (n' : Int), .int .i64 num', .slice A2' p'.length c2', .string s']] w _
  go_enter Try.func56, Try.ntmps56
  go_wp2_with fail
  go_ret
  exact ⟨rfl, HB.out⟩
end
theorem alike_ (o o' : OpV) (w : World) (h : alikeP o o') (hr : Rd w o.A o.p.length (bvs o.p)) (hr' : Rd w o'.A o'.p.length (bvs o'.p)) :
    Calls Try.prog 56 #[o.val, o'.val] w fun r w' => r = .returned (.bool true) ∧ Below w.heap.size w w' := by
  obtain ⟨kd, a, n, num, A2, c2, p, s⟩ := o
  obtain ⟨kd', a', n', num', A2', c2', p', s'⟩ := o'
  obtain ⟨g1, g2, g3, g4, g5, g6⟩ := h
  by_cases h1 : kd = 1
  · subst h1; exact alike1 w a n num A2 c2 p s kd' a' n' num' A2' c2' p' s' (g1 rfl)
  by_cases h2 : kd = 2
  · subst h2; exact alike2 w a n num A2 c2 p s kd' a' n' num' A2' c2' p' s' (g2 rfl)
  by_cases h3 : kd = 3
  · subst h3; exact alike3 w a n num A2 c2 p s kd' a' n' num' A2' c2' p' s' (g3 rfl)
  by_cases h4 : kd = 4
  · subst h4; exact alike4 w a n num A2 c2 p s kd' a' n' num' A2' c2' p' s' (g4 rfl)
  by_cases h5 : kd = 5
  · subst h5; exact alike5 w a n num A2 c2 p s kd' a' n' num' A2' c2' p' s' (g5 rfl) hr hr'
  by_cases h6 : kd = 6
  · subst h6; exact alike6 w a n num A2 c2 p s kd' a' n' num' A2' c2' p' s' (g6 rfl)
  exact alikeX w a n num A2 c2 p s kd' a' n' num' A2' c2' p' s' kd (beqf h1) (beqf h2) (beqf h3) (beqf h4) (beqf h5) (beqf h6)
end Go.Proofs.Ythdjddpomaendaa.B
