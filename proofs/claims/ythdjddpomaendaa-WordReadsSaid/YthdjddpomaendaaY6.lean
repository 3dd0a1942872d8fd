/- The walk of step, over readers. Printed by gen_sstep.py. -/
import Derived.Test.YthdjddpomaendaaY5
namespace Go.Proofs.Ythdjddpomaendaa.B
open Go.RowKit
set_option linter.unusedVariables false
set_option linter.unusedSimpArgs false

/-- The two rows begin somewhere. -/
theorem ShC.shape {w : World} {base gx c0 : Nat} {A0 : Option Addr} {bs : List UInt8} {vrs vis vl vw : Value} {n : Int} {P : List Rp} {I : List Kp} (h : ShC w base gx A0 c0 bs vrs vis vl vw n (rpc P) (upc P) P I) (hP : P ≠ []) :
    ∃ aw cw av cv, vrs = .slice (some aw) P.length cw ∧ vis = .slice (some av) P.length cv := by
  obtain ⟨A, c, e, _⟩ := h.rr.shape
  obtain ⟨A2, c2, e2, _⟩ := h.ru.shape
  subst e e2
  obtain ⟨p, hp⟩ : ∃ p, P[0]? = some p := by
    cases P with
    | nil => exact absurd rfl hP
    | cons p r => exact ⟨p, rfl⟩
  obtain ⟨ad, rfl, _⟩ := row_one h.rr 0 _ (rpc_get hp)
  obtain ⟨ad2, rfl, _⟩ := row_one h.ru 0 _ (upc_get hp)
  exact ⟨ad, c, ad2, c2, by rw [rpc_length], by rw [upc_length]⟩

set_option maxHeartbeats 6400000 in
set_option maxRecDepth 100000 in
theorem sstep_new (base gx : Nat) (A0 : Option Addr) (c0 : Nat) (bs : List UInt8) (vrs vis vl vw : Value) (n : Int) (P : List Rp) (I : List Kp) (o : OpV) (w : World) (hS : ShC w base gx A0 c0 bs vrs vis vl vw n (rpc P) (upc P) P I) (hP : P.length ≤ 20) (hne : P ≠ []) (ho : o.kind = 10) :
    Calls Try.prog 44 #[.pointer (some ⟨gx, 0, none⟩), o.val] w fun r w' => r = .returned (.bool true) ∧ ∃ vrs' vis' P', ShC w' base gx A0 c0 bs vrs' vis' vl vw n (rpc P') (upc P') P' I ∧ Below base w w' ∧ P'.length ≤ 20 ∧ P' ≠ [] := by
  obtain ⟨kd, a, nn, num, A2, c2, p, s⟩ := o
  obtain rfl : kd = 10 := ho
  obtain ⟨A, c, e, _⟩ := hS.rr.shape
  rw [rpc_length] at e
  have hb1 : Below w.heap.size w (w.alloc (.cells (OpV.cells ⟨10, a, nn, num, A2, c2, p, s⟩) 54)) := below_alloc (Below.refl _ w) _
  have hS1 := hS.below hb1
  have h0 := hS.blk.cell 1 _ rfl
  have n0 := hS.lt.2
  have HS1 := Lib.hid (And.intro hS1 (hb1.mono (by have := hS.lt; omega) : Below base _ _))
  subst e
  clear hS hb1 hS1
  by_cases h20 : P.length = 20
  · have t1 : decide (20 ≤ P.length) = true := decide_eq_true (by omega)
    have t2 : decide ((20 : Int) ≤ (P.length : Int)) = true := decide_eq_true (by omega)
    have HP := Lib.hid h20
    clear h20
    show Calls Try.prog 44 #[.pointer (some ⟨gx, 0, none⟩), .agg #[.int .i64 10, .int .i64 a, .int .u64 (nn : Int), .int .i64 num, .slice A2 p.length c2, .string s]] w _
    go_enter Try.func44, Try.ntmps44
    go_wp2_with fail
    go_ret
    exact ⟨rfl, _, _, P, HS1.out.1, HS1.out.2, hP, hne⟩
  · have t1 : decide (20 ≤ P.length) = false := decide_eq_false (by omega)
    have t2 : decide ((20 : Int) ≤ (P.length : Int)) = false := decide_eq_false (by omega)
    have h19 : P.length ≤ 19 := by omega
    clear h20
    show Calls Try.prog 44 #[.pointer (some ⟨gx, 0, none⟩), .agg #[.int .i64 10, .int .i64 a, .int .u64 (nn : Int), .int .i64 num, .slice A2 p.length c2, .string s]] w _
    go_enter Try.func44, Try.ntmps44
    go_wp2_with fail
    refine (opens_ base gx A0 c0 bs _ _ vl vw n P I _ HS1.out.1 (by omega)).mono ?_
    rintro r w2 ⟨rfl, vrs2, vis2, p2, hS2, hB2⟩
    have HX := Lib.hid (And.intro hS2 (HS1.out.2.trans hB2))
    clear hS2 hB2 h0 n0
    go_wp2_with fail
    go_ret
    exact ⟨rfl, _, _, P ++ [p2], HX.out.1, HX.out.2, by simp; omega, by simp⟩

set_option maxHeartbeats 6400000 in
set_option maxRecDepth 100000 in
theorem sstep_take (base gx : Nat) (A0 : Option Addr) (c0 : Nat) (bs : List UInt8) (vrs vis vl vw : Value) (n : Int) (P : List Rp) (I : List Kp) (o : OpV) (w : World) (hS : ShC w base gx A0 c0 bs vrs vis vl vw n (rpc P) (upc P) P I) (hP : P.length ≤ 1000000) (hne : P ≠ []) (ho : ¬ o.kind = 10) (ha : I64 o.at_) (hnum : o.num ≤ 9223372036854775807) :
    Calls Try.prog 44 #[.pointer (some ⟨gx, 0, none⟩), o.val] w fun r w' => r = .returned (.bool true) ∧ ∃ vl' vw' n' P' I', ShC w' base gx A0 c0 bs vrs vis vl' vw' n' (rpc P') (upc P') P' I' ∧ Below base w w' ∧ P'.length = P.length := by
  obtain ⟨aw, cw, av, cv, rfl, rfl⟩ := hS.shape hne
  obtain ⟨i, hi, him⟩ := at_exG o.at_ P.length (List.length_pos_iff.2 hne)
  obtain ⟨q, hq⟩ : ∃ q, P[i]? = some q := ⟨_, List.getElem?_eq_getElem him⟩
  have HQ := Lib.hid hq
  obtain ⟨m, hm⟩ : ∃ m, P.length = m := ⟨_, rfl⟩
  rw [hm] at hS hi him hP ⊢
  have HM := Lib.hid hm
  have ha0 : -9223372036854775808 ≤ o.at_ := ha.1
  have ha1 : o.at_ ≤ 9223372036854775807 := ha.2
  have hb1 : Below w.heap.size w (w.alloc (.cells o.cells 54)) := below_alloc (Below.refl _ w) _
  have hk1 : Blk (w.alloc (.cells o.cells 54)) w.heap.size o.cells.toList 54 := Blk.new w _ _
  have hS1 := hS.below hb1
  have h0 := hS1.blk.cell 1 _ rfl
  have h1 := hk1.cell 1 (.int .i64 o.at_) rfl
  have h2 := hk1.cell 0 (.int .i64 o.kind) rfl
  have HS1 := Lib.hid (And.intro hS1 (And.intro (hb1.mono (by have := hS.lt; omega) : Below base _ _) hk1))
  have u1 : IntKind.i64.wrap ((m : Int) - 1) = (m : Int) - 1 := IntWalk.i64_in _ (by omega)
  have t1 := beqf ho
  have HI := Lib.hid hi
  have HW := fun W => Lib.hid (within_ o.at_ ((m : Int) - 1) W ha0 ha1 (by omega) (by omega))
  have p0 : (0 : Int) ≤ (i : Int) := by omega
  have p1 : (i : Int) < (m : Int) := by omega
  clear hS hb1 hk1 hS1 hi hm hq ha
  show Calls Try.prog 44 #[.pointer (some ⟨gx, 0, none⟩), .agg #[.int .i64 o.kind, .int .i64 o.at_, .int .u64 (o.n : Int), .int .i64 o.num, .slice o.A o.p.length o.c, .string o.s]] w _
  go_enter Try.func44, Try.ntmps44
  go_wp2_with fail
  refine wp_region_held_drew (S := (fun w' => w'.cell? ⟨gx, 1, none⟩ = some (.slice (some aw) m cw) ∧ w'.cell? ⟨w.heap.size, 1, none⟩ = some (.int .i64 o.at_))) (by kernel_rfl) ?_ (fun hHeld => ?_)
  · (try dsimp only); (exact ⟨h0, h1⟩)
  refine tk 0 (v := ?_) rfl ⟨by kernel_rfl, by kernel_rfl, by kernel_rfl⟩ (fun _ _ _ h => h) (by kernel_rfl) hHeld ?_ ?_
  rotate_left
  · (intro w0 hSw; (try dsimp only at hSw); go_simp; (try with_reducible rfl))
  (try simp only [Act.put, List.setIfInBounds_toArray, List.set_cons_zero, List.set_cons_succ])
  refine tk 1 (v := ?_) rfl ⟨by kernel_rfl, by kernel_rfl, by kernel_rfl⟩ (fun _ _ _ h => h) (by kernel_rfl) hHeld ?_ ?_
  rotate_left
  · (intro w0 hSw; (try dsimp only at hSw); go_simp; (try with_reducible rfl))
  (try simp only [Act.put, List.setIfInBounds_toArray, List.set_cons_zero, List.set_cons_succ])
  refine tk 2 (v := ?_) rfl ⟨by kernel_rfl, by kernel_rfl, by kernel_rfl⟩ (fun _ _ _ h => h) (by kernel_rfl) hHeld ?_ ?_
  rotate_left
  · (intro w0 hSw; (try dsimp only at hSw); go_simp; (try with_reducible rfl))
  (try simp only [Act.put, List.setIfInBounds_toArray, List.set_cons_zero, List.set_cons_succ])
  refine tk 3 (v := ?_) rfl ⟨by kernel_rfl, by kernel_rfl, by kernel_rfl⟩ (fun _ _ _ h => h) (by kernel_rfl) hHeld ?_ ?_
  rotate_left
  · (intro w0 hSw; (try dsimp only at hSw); go_simp; (try with_reducible rfl))
  (try simp only [Act.put, List.setIfInBounds_toArray, List.set_cons_zero, List.set_cons_succ])
  refine tk 4 (v := ?_) rfl ⟨by kernel_rfl, by kernel_rfl, by kernel_rfl⟩ (fun _ _ _ h => h) (by kernel_rfl) hHeld ?_ ?_
  rotate_left
  · (intro w0 hSw; (try dsimp only at hSw); go_simp; (try with_reducible rfl))
  (try simp only [Act.put, List.setIfInBounds_toArray, List.set_cons_zero, List.set_cons_succ])
  refine tk 5 (v := ?_) rfl ⟨by kernel_rfl, by kernel_rfl, by kernel_rfl⟩ (fun _ _ _ h => h) (by kernel_rfl) hHeld ?_ ?_
  rotate_left
  · (intro w0 hSw; (try dsimp only at hSw); go_simp; (try with_reducible rfl))
  (try simp only [Act.put, List.setIfInBounds_toArray, List.set_cons_zero, List.set_cons_succ])
  refine tk 6 (v := ?_) rfl ⟨by kernel_rfl, by kernel_rfl, by kernel_rfl⟩ (fun _ _ _ h => h) (by kernel_rfl) hHeld ?_ ?_
  rotate_left
  · (intro w0 hSw; (try dsimp only at hSw); go_simp; (try with_reducible rfl))
  (try simp only [Act.put, List.setIfInBounds_toArray, List.set_cons_zero, List.set_cons_succ])
  refine tk 7 (v := ?_) rfl ⟨by kernel_rfl, by kernel_rfl, by kernel_rfl⟩ (fun _ _ _ h => h) (by kernel_rfl) hHeld ?_ ?_
  rotate_left
  · (intro w0 hSw; (try dsimp only at hSw); go_simp; (try with_reducible rfl))
  (try simp only [Act.put, List.setIfInBounds_toArray, List.set_cons_zero, List.set_cons_succ])
  refine cr 8 rfl (by kernel_rfl) (fun K hK => ?_)
  (refine goes Try.func58 (by kernel_rfl) rfl #[.int .i64 o.at_, .int .i64 0, .int .i64 ((m : Int) - 1)] rfl rfl (by simp only [List.map_toArray, List.map_cons, List.map_nil]; rfl) ?_; refine ((HW _).out).mono ?_; rintro r wS ⟨rfl, rfl⟩; refine ⟨_, rfl, ?_⟩; rw [HI.out])
  clear hHeld
  refine hK.out _ _ ?_ (fun hHeld => ?_)
  · (try dsimp only); (exact ⟨h0, h1⟩)
  clear hK K
  (try simp only [Act.put, List.setIfInBounds_toArray, List.set_cons_zero, List.set_cons_succ])
  refine tk 9 (v := ?_) rfl ⟨by kernel_rfl, by kernel_rfl, by kernel_rfl⟩ (fun _ _ _ h => h) (by kernel_rfl) hHeld ?_ ?_
  rotate_left
  · (intro w0 hSw; (try dsimp only at hSw); go_simp; (try with_reducible rfl))
  (try simp only [Act.put, List.setIfInBounds_toArray, List.set_cons_zero, List.set_cons_succ])
  refine wpAnyH_done (by kernel_rfl) ?_ _
  clear hHeld u1 h0 h1 h2
  obtain ⟨w1, hw1⟩ : ∃ w1, (w.alloc (.cells #[.int .i64 o.kind, .int .i64 o.at_, .int .u64 (o.n : Int), .int .i64 o.num, .slice o.A o.p.length o.c, .string o.s] 54)).drew = w1 := ⟨_, rfl⟩
  have hS2 : ShC w1 base gx A0 c0 bs (.slice (some aw) m cw) (.slice (some av) m cv) vl vw n (rpc P) (upc P) P I := by rw [← hw1]; exact HS1.out.1.below (below_drewN (Below.refl _ _) 1)
  have hB2 : Below base w w1 := by rw [← hw1]; exact HS1.out.2.1.trans (below_drewN (Below.refl base _) 1)
  have hk2 : Blk w1 w.heap.size o.cells.toList 54 := by rw [← hw1]; exact HS1.out.2.2.drewN 1
  rw [hw1]
  have h0 := hS2.blk.cell 1 _ rfl
  have h1 := hS2.blk.cell 2 _ rfl
  have h2 := ptr_atG hS2.rr (rpc_get HQ.out)
  have h3 := ptr_atG hS2.ru (upc_get HQ.out)
  have k0 := hk2.cell 0 (.int .i64 o.kind) rfl
  have k1 := hk2.cell 1 (.int .i64 o.at_) rfl
  have k2 := hk2.cell 2 (.int .u64 (o.n : Int)) rfl
  have k3 := hk2.cell 3 (.int .i64 o.num) rfl
  have k4 := hk2.cell 4 (.slice o.A o.p.length o.c) rfl
  have k5 := hk2.cell 5 (.string o.s) rfl
  have HS2 : Hid (ShC w1.drew base gx A0 c0 bs (.slice (some aw) m cw) (.slice (some av) m cv) vl vw n (rpc P) (upc P) P I ∧ Below base w w1.drew) := Lib.hid ⟨hS2.below (below_drewN (Below.refl _ _) 1), hB2.trans (below_drewN (Below.refl base _) 1)⟩
  have HK2 : Hid (Blk w1.drew w.heap.size o.cells.toList 54) := Lib.hid (hk2.drewN 1)
  clear hS2 hB2 hk2 hw1 HS1
  go_wp2_with fail
  refine wp_region_held_drew (S := (fun w' => w'.cell? ⟨gx, 1, none⟩ = some (.slice (some aw) m cw) ∧ w'.cell? ⟨gx, 2, none⟩ = some (.slice (some av) m cv) ∧ w'.cell? (aw.add i) = some (.pointer (some ⟨q.g, 0, none⟩)) ∧ w'.cell? (av.add i) = some (.pointer (some ⟨q.gv, 0, none⟩)) ∧ w'.cell? ⟨w.heap.size, 0, none⟩ = some (.int .i64 o.kind) ∧ w'.cell? ⟨w.heap.size, 1, none⟩ = some (.int .i64 o.at_) ∧ w'.cell? ⟨w.heap.size, 2, none⟩ = some (.int .u64 (o.n : Int)) ∧ w'.cell? ⟨w.heap.size, 3, none⟩ = some (.int .i64 o.num) ∧ w'.cell? ⟨w.heap.size, 4, none⟩ = some (.slice o.A o.p.length o.c) ∧ w'.cell? ⟨w.heap.size, 5, none⟩ = some (.string o.s))) (by kernel_rfl) ?_ (fun hHeld => ?_)
  · (try dsimp only); go_keep
  refine tk 0 (v := ?_) rfl ⟨by kernel_rfl, by kernel_rfl, by kernel_rfl⟩ (fun _ _ _ h => h) (by kernel_rfl) hHeld ?_ ?_
  rotate_left
  · (intro w0 hSw; (try dsimp only at hSw); go_simp; (try with_reducible rfl))
  (try simp only [Act.put, List.setIfInBounds_toArray, List.set_cons_zero, List.set_cons_succ])
  refine tk 1 (v := ?_) rfl ⟨by kernel_rfl, by kernel_rfl, by kernel_rfl⟩ (fun _ _ _ h => h) (by kernel_rfl) hHeld ?_ ?_
  rotate_left
  · (intro w0 hSw; (try dsimp only at hSw); go_simp; (try with_reducible rfl))
  (try simp only [Act.put, List.setIfInBounds_toArray, List.set_cons_zero, List.set_cons_succ])
  refine tk 2 (v := ?_) rfl ⟨by kernel_rfl, by kernel_rfl, by kernel_rfl⟩ (fun _ _ _ h => h) (by kernel_rfl) hHeld ?_ ?_
  rotate_left
  · (intro w0 hSw; (try dsimp only at hSw); go_simp; (try with_reducible rfl))
  (try simp only [Act.put, List.setIfInBounds_toArray, List.set_cons_zero, List.set_cons_succ])
  refine tk 3 (v := ?_) rfl ⟨by kernel_rfl, by kernel_rfl, by kernel_rfl⟩ (fun _ _ _ h => h) (by kernel_rfl) hHeld ?_ ?_
  rotate_left
  · (intro w0 hSw; (try dsimp only at hSw); go_simp; (try with_reducible rfl))
  (try simp only [Act.put, List.setIfInBounds_toArray, List.set_cons_zero, List.set_cons_succ])
  refine tk 4 (v := ?_) rfl ⟨by kernel_rfl, by kernel_rfl, by kernel_rfl⟩ (fun _ _ _ h => h) (by kernel_rfl) hHeld ?_ ?_
  rotate_left
  · (intro w0 hSw; (try dsimp only at hSw); go_simp; (try with_reducible rfl))
  (try simp only [Act.put, List.setIfInBounds_toArray, List.set_cons_zero, List.set_cons_succ])
  refine tk 5 (v := ?_) rfl ⟨by kernel_rfl, by kernel_rfl, by kernel_rfl⟩ (fun _ _ _ h => h) (by kernel_rfl) hHeld ?_ ?_
  rotate_left
  · (intro w0 hSw; (try dsimp only at hSw); go_simp; (try with_reducible rfl))
  (try simp only [Act.put, List.setIfInBounds_toArray, List.set_cons_zero, List.set_cons_succ])
  refine tk 6 (v := ?_) rfl ⟨by kernel_rfl, by kernel_rfl, by kernel_rfl⟩ (fun _ _ _ h => h) (by kernel_rfl) hHeld ?_ ?_
  rotate_left
  · (intro w0 hSw; (try dsimp only at hSw); go_simp; (try with_reducible rfl))
  (try simp only [Act.put, List.setIfInBounds_toArray, List.set_cons_zero, List.set_cons_succ])
  refine tk 7 (v := ?_) rfl ⟨by kernel_rfl, by kernel_rfl, by kernel_rfl⟩ (fun _ _ _ h => h) (by kernel_rfl) hHeld ?_ ?_
  rotate_left
  · (intro w0 hSw; (try dsimp only at hSw); go_simp; (try with_reducible rfl))
  (try simp only [Act.put, List.setIfInBounds_toArray, List.set_cons_zero, List.set_cons_succ])
  refine tk 8 (v := ?_) rfl ⟨by kernel_rfl, by kernel_rfl, by kernel_rfl⟩ (fun _ _ _ h => h) (by kernel_rfl) hHeld ?_ ?_
  rotate_left
  · (intro w0 hSw; (try dsimp only at hSw); go_simp; (try with_reducible rfl))
  (try simp only [Act.put, List.setIfInBounds_toArray, List.set_cons_zero, List.set_cons_succ])
  refine tk 9 (v := ?_) rfl ⟨by kernel_rfl, by kernel_rfl, by kernel_rfl⟩ (fun _ _ _ h => h) (by kernel_rfl) hHeld ?_ ?_
  rotate_left
  · (intro w0 hSw; (try dsimp only at hSw); go_simp; (try with_reducible rfl))
  (try simp only [Act.put, List.setIfInBounds_toArray, List.set_cons_zero, List.set_cons_succ])
  refine tk 10 (v := ?_) rfl ⟨by kernel_rfl, by kernel_rfl, by kernel_rfl⟩ (fun _ _ _ h => h) (by kernel_rfl) hHeld ?_ ?_
  rotate_left
  · (intro w0 hSw; (try dsimp only at hSw); go_simp; (try with_reducible rfl))
  (try simp only [Act.put, List.setIfInBounds_toArray, List.set_cons_zero, List.set_cons_succ])
  refine tk 11 (v := ?_) rfl ⟨by kernel_rfl, by kernel_rfl, by kernel_rfl⟩ (fun _ _ _ h => h) (by kernel_rfl) hHeld ?_ ?_
  rotate_left
  · (intro w0 hSw; (try dsimp only at hSw); go_simp; (try with_reducible rfl))
  (try simp only [Act.put, List.setIfInBounds_toArray, List.set_cons_zero, List.set_cons_succ])
  refine tk 12 (v := ?_) rfl ⟨by kernel_rfl, by kernel_rfl, by kernel_rfl⟩ (fun _ _ _ h => h) (by kernel_rfl) hHeld ?_ ?_
  rotate_left
  · (intro w0 hSw; (try dsimp only at hSw); go_simp; (try with_reducible rfl))
  (try simp only [Act.put, List.setIfInBounds_toArray, List.set_cons_zero, List.set_cons_succ])
  refine tk 13 (v := ?_) rfl ⟨by kernel_rfl, by kernel_rfl, by kernel_rfl⟩ (fun _ _ _ h => h) (by kernel_rfl) hHeld ?_ ?_
  rotate_left
  · (intro w0 hSw; (try dsimp only at hSw); go_simp; (try with_reducible rfl))
  (try simp only [Act.put, List.setIfInBounds_toArray, List.set_cons_zero, List.set_cons_succ])
  refine tk 14 (v := ?_) rfl ⟨by kernel_rfl, by kernel_rfl, by kernel_rfl⟩ (fun _ _ _ h => h) (by kernel_rfl) hHeld ?_ ?_
  rotate_left
  · (intro w0 hSw; (try dsimp only at hSw); go_simp; (try with_reducible rfl))
  (try simp only [Act.put, List.setIfInBounds_toArray, List.set_cons_zero, List.set_cons_succ])
  refine tk 15 (v := ?_) rfl ⟨by kernel_rfl, by kernel_rfl, by kernel_rfl⟩ (fun _ _ _ h => h) (by kernel_rfl) hHeld ?_ ?_
  rotate_left
  · (intro w0 hSw; (try dsimp only at hSw); go_simp; (try with_reducible rfl))
  (try simp only [Act.put, List.setIfInBounds_toArray, List.set_cons_zero, List.set_cons_succ])
  refine cr 16 rfl (by kernel_rfl) (fun K hK => ?_)
  (refine goes Try.func88 (by kernel_rfl) rfl #[.pointer (some ⟨gx, 0, none⟩), .pointer (some ⟨q.g, 0, none⟩), .pointer (some ⟨q.gv, 0, none⟩), o.val] rfl rfl (by simp only [List.map_toArray, List.map_cons, List.map_nil]; rfl) ?_; refine (takes_ base gx A0 c0 bs _ _ vl vw n P I i q o _ HS2.out.1 HQ.out hnum).mono ?_; rintro r w8 ⟨rfl, vl8, vw8, n8, I8, a8, e8, hS8, hB8, hk8⟩; refine ⟨_, rfl, ?_⟩; have HPI := Lib.hid (show (P.set i ⟨q.g, q.A, q.c, q.gv, a8, e8⟩)[i]? = some ⟨q.g, q.A, q.c, q.gv, a8, e8⟩ by rw [List.getElem?_set_self (by rw [HM.out]; exact him)]); have hO := hk8 _ _ HK2.out; have HX := Lib.hid (And.intro hS8 (And.intro (HS2.out.2.trans hB8) (show (P.set i ⟨q.g, q.A, q.c, q.gv, a8, e8⟩).length = m by rw [List.length_set, HM.out]))); clear hS8 hB8 hk8; obtain ⟨P8, hP8e⟩ : ∃ P8, P.set i ⟨q.g, q.A, q.c, q.gv, a8, e8⟩ = P8 := ⟨_, rfl⟩; rw [hP8e] at HPI HX; clear hP8e)
  clear hHeld
  refine hK.out _ _ ?_ (fun hHeld => ?_)
  · (try dsimp only); (exact ⟨(HX.out.1.blk.cell 1 _ rfl), (HX.out.1.blk.cell 2 _ rfl), ptr_atG (v := .pointer (some ⟨q.g, 0, none⟩)) HX.out.1.rr (rpc_get (p := ⟨q.g, q.A, q.c, q.gv, a8, e8⟩) HPI.out), ptr_atG (v := .pointer (some ⟨q.gv, 0, none⟩)) HX.out.1.ru (upc_get (p := ⟨q.g, q.A, q.c, q.gv, a8, e8⟩) HPI.out), hO.cell 0 _ rfl, hO.cell 1 _ rfl, hO.cell 2 _ rfl, hO.cell 3 _ rfl, hO.cell 4 _ rfl, hO.cell 5 _ rfl⟩)
  clear hK K
  (try simp only [Act.put, List.setIfInBounds_toArray, List.set_cons_zero, List.set_cons_succ])
  refine tk 17 (v := ?_) rfl ⟨by kernel_rfl, by kernel_rfl, by kernel_rfl⟩ (fun _ _ _ h => h) (by kernel_rfl) hHeld ?_ ?_
  rotate_left
  · (intro w0 hSw; (try dsimp only at hSw); go_simp; (try with_reducible rfl))
  (try simp only [Act.put, List.setIfInBounds_toArray, List.set_cons_zero, List.set_cons_succ])
  refine tk 18 (v := ?_) rfl ⟨by kernel_rfl, by kernel_rfl, by kernel_rfl⟩ (fun _ _ _ h => h) (by kernel_rfl) hHeld ?_ ?_
  rotate_left
  · (intro w0 hSw; (try dsimp only at hSw); go_simp; (try with_reducible rfl))
  (try simp only [Act.put, List.setIfInBounds_toArray, List.set_cons_zero, List.set_cons_succ])
  refine tk 19 (v := ?_) rfl ⟨by kernel_rfl, by kernel_rfl, by kernel_rfl⟩ (fun _ _ _ h => h) (by kernel_rfl) hHeld ?_ ?_
  rotate_left
  · (intro w0 hSw; (try dsimp only at hSw); go_simp; (try with_reducible rfl))
  (try simp only [Act.put, List.setIfInBounds_toArray, List.set_cons_zero, List.set_cons_succ])
  refine tk 20 (v := ?_) rfl ⟨by kernel_rfl, by kernel_rfl, by kernel_rfl⟩ (fun _ _ _ h => h) (by kernel_rfl) hHeld ?_ ?_
  rotate_left
  · (intro w0 hSw; (try dsimp only at hSw); go_simp; (try with_reducible rfl))
  (try simp only [Act.put, List.setIfInBounds_toArray, List.set_cons_zero, List.set_cons_succ])
  refine tk 21 (v := ?_) rfl ⟨by kernel_rfl, by kernel_rfl, by kernel_rfl⟩ (fun _ _ _ h => h) (by kernel_rfl) hHeld ?_ ?_
  rotate_left
  · (intro w0 hSw; (try dsimp only at hSw); go_simp; (try with_reducible rfl))
  (try simp only [Act.put, List.setIfInBounds_toArray, List.set_cons_zero, List.set_cons_succ])
  refine tk 22 (v := ?_) rfl ⟨by kernel_rfl, by kernel_rfl, by kernel_rfl⟩ (fun _ _ _ h => h) (by kernel_rfl) hHeld ?_ ?_
  rotate_left
  · (intro w0 hSw; (try dsimp only at hSw); go_simp; (try with_reducible rfl))
  (try simp only [Act.put, List.setIfInBounds_toArray, List.set_cons_zero, List.set_cons_succ])
  refine tk 23 (v := ?_) rfl ⟨by kernel_rfl, by kernel_rfl, by kernel_rfl⟩ (fun _ _ _ h => h) (by kernel_rfl) hHeld ?_ ?_
  rotate_left
  · (intro w0 hSw; (try dsimp only at hSw); go_simp; (try with_reducible rfl))
  (try simp only [Act.put, List.setIfInBounds_toArray, List.set_cons_zero, List.set_cons_succ])
  refine tk 24 (v := ?_) rfl ⟨by kernel_rfl, by kernel_rfl, by kernel_rfl⟩ (fun _ _ _ h => h) (by kernel_rfl) hHeld ?_ ?_
  rotate_left
  · (intro w0 hSw; (try dsimp only at hSw); go_simp; (try with_reducible rfl))
  (try simp only [Act.put, List.setIfInBounds_toArray, List.set_cons_zero, List.set_cons_succ])
  refine tk 25 (v := ?_) rfl ⟨by kernel_rfl, by kernel_rfl, by kernel_rfl⟩ (fun _ _ _ h => h) (by kernel_rfl) hHeld ?_ ?_
  rotate_left
  · (intro w0 hSw; (try dsimp only at hSw); go_simp; (try with_reducible rfl))
  (try simp only [Act.put, List.setIfInBounds_toArray, List.set_cons_zero, List.set_cons_succ])
  refine tk 26 (v := ?_) rfl ⟨by kernel_rfl, by kernel_rfl, by kernel_rfl⟩ (fun _ _ _ h => h) (by kernel_rfl) hHeld ?_ ?_
  rotate_left
  · (intro w0 hSw; (try dsimp only at hSw); go_simp; (try with_reducible rfl))
  (try simp only [Act.put, List.setIfInBounds_toArray, List.set_cons_zero, List.set_cons_succ])
  refine tk 27 (v := ?_) rfl ⟨by kernel_rfl, by kernel_rfl, by kernel_rfl⟩ (fun _ _ _ h => h) (by kernel_rfl) hHeld ?_ ?_
  rotate_left
  · (intro w0 hSw; (try dsimp only at hSw); go_simp; (try with_reducible rfl))
  (try simp only [Act.put, List.setIfInBounds_toArray, List.set_cons_zero, List.set_cons_succ])
  refine tk 28 (v := ?_) rfl ⟨by kernel_rfl, by kernel_rfl, by kernel_rfl⟩ (fun _ _ _ h => h) (by kernel_rfl) hHeld ?_ ?_
  rotate_left
  · (intro w0 hSw; (try dsimp only at hSw); go_simp; (try with_reducible rfl))
  (try simp only [Act.put, List.setIfInBounds_toArray, List.set_cons_zero, List.set_cons_succ])
  refine tk 29 (v := ?_) rfl ⟨by kernel_rfl, by kernel_rfl, by kernel_rfl⟩ (fun _ _ _ h => h) (by kernel_rfl) hHeld ?_ ?_
  rotate_left
  · (intro w0 hSw; (try dsimp only at hSw); go_simp; (try with_reducible rfl))
  (try simp only [Act.put, List.setIfInBounds_toArray, List.set_cons_zero, List.set_cons_succ])
  refine tk 30 (v := ?_) rfl ⟨by kernel_rfl, by kernel_rfl, by kernel_rfl⟩ (fun _ _ _ h => h) (by kernel_rfl) hHeld ?_ ?_
  rotate_left
  · (intro w0 hSw; (try dsimp only at hSw); go_simp; (try with_reducible rfl))
  (try simp only [Act.put, List.setIfInBounds_toArray, List.set_cons_zero, List.set_cons_succ])
  refine tk 31 (v := ?_) rfl ⟨by kernel_rfl, by kernel_rfl, by kernel_rfl⟩ (fun _ _ _ h => h) (by kernel_rfl) hHeld ?_ ?_
  rotate_left
  · (intro w0 hSw; (try dsimp only at hSw); go_simp; (try with_reducible rfl))
  (try simp only [Act.put, List.setIfInBounds_toArray, List.set_cons_zero, List.set_cons_succ])
  refine cr 32 rfl (by kernel_rfl) (fun K hK => ?_)
  (refine goes Try.func45 (by kernel_rfl) rfl #[.pointer (some ⟨q.g, 0, none⟩), .pointer (some ⟨q.gv, 0, none⟩)] rfl rfl (by simp only [List.map_toArray, List.map_cons, List.map_nil]; rfl) ?_; have hok8 := HX.out.1.ok _ (List.mem_of_getElem? HPI.out); refine (told_ base q.g q.A q.c q.gv A0 c0 bs a8 e8 _ hok8.hr hok8.hu).mono ?_; rintro r wS ⟨rfl, ⟨n9, rfl⟩⟩; refine ⟨_, rfl, ?_⟩)
  clear hHeld
  refine hK.out _ _ ?_ (fun hHeld => ?_)
  · (try dsimp only); (exact ⟨(HX.out.1.blk.cell 1 _ rfl), (HX.out.1.blk.cell 2 _ rfl), ptr_atG (v := .pointer (some ⟨q.g, 0, none⟩)) HX.out.1.rr (rpc_get (p := ⟨q.g, q.A, q.c, q.gv, a8, e8⟩) HPI.out), ptr_atG (v := .pointer (some ⟨q.gv, 0, none⟩)) HX.out.1.ru (upc_get (p := ⟨q.g, q.A, q.c, q.gv, a8, e8⟩) HPI.out), hO.cell 0 _ rfl, hO.cell 1 _ rfl, hO.cell 2 _ rfl, hO.cell 3 _ rfl, hO.cell 4 _ rfl, hO.cell 5 _ rfl⟩)
  clear hK K
  (try simp only [Act.put, List.setIfInBounds_toArray, List.set_cons_zero, List.set_cons_succ])
  refine tk 33 (v := ?_) rfl ⟨by kernel_rfl, by kernel_rfl, by kernel_rfl⟩ (fun _ _ _ h => h) (by kernel_rfl) hHeld ?_ ?_
  rotate_left
  · (intro w0 hSw; (try dsimp only at hSw); go_simp; (try with_reducible rfl))
  (try simp only [Act.put, List.setIfInBounds_toArray, List.set_cons_zero, List.set_cons_succ])
  refine tk 34 (v := ?_) rfl ⟨by kernel_rfl, by kernel_rfl, by kernel_rfl⟩ (fun _ _ _ h => h) (by kernel_rfl) hHeld ?_ ?_
  rotate_left
  · (intro w0 hSw; (try dsimp only at hSw); go_simp; (try with_reducible rfl))
  (try simp only [Act.put, List.setIfInBounds_toArray, List.set_cons_zero, List.set_cons_succ])
  refine wpAnyH_done (by kernel_rfl) ?_ _
  clear hHeld k0 k1 k2 k3 k4 k5 h0 h1 h2 h3 hO
  go_wp2_with fail
  go_ret
  exact ⟨rfl, _, _, _, P8, I8, HX.out.1.below (below_drewN (Below.refl _ w8) n9), HX.out.2.1.trans (below_drewN (Below.refl base w8) n9), HX.out.2.2⟩
end Go.Proofs.Ythdjddpomaendaa.B
