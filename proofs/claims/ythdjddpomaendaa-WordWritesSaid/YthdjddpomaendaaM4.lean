/- The walk of step: the other kinds. Printed by gen_step.py. -/
import Derived.Test.YthdjddpomaendaaM3
namespace Go.Proofs.Ythdjddpomaendaa.B
open Go.RowKit
set_option linter.unusedVariables false
set_option linter.unusedSimpArgs false

/-- The place that a step names. -/
theorem at_ex (a : Int) (m : Nat) (hm : 0 < m) : ∃ i : Nat, a % ((m : Int) - 1 + 1) = (i : Int) ∧ i < m := by
  have h1 := Int.emod_nonneg a (show (m : Int) ≠ 0 by omega)
  have h2 := Int.emod_lt_of_pos a (show (0 : Int) < (m : Int) by omega)
  refine ⟨(a % (m : Int)).toNat, ?_, by omega⟩
  rw [Int.sub_add_cancel]
  omega

set_option maxHeartbeats 6400000 in
set_option maxRecDepth 100000 in
theorem step_tell (base gx : Nat) (vws vis vl vw : Value) (n : Int) (P : List Wp) (I : List Kp) (o : OpV) (M : Nat) (w : World) (hR : RowC w base gx vws vis vl vw n (wpc P) (vpc P) P I) (hP : P.length ≤ 1000000) (hne : P ≠ []) (ho : o.kind = 9) (ha : I64 o.at_) (hl : ∀ p ∈ P, p.bs.length ≤ M) (hM : M ≤ 140737488351232) :
    Calls Try.prog 27 #[.pointer (some ⟨gx, 0, none⟩), o.val] w fun r w' => r = .returned (.bool true) ∧ ∃ vl' vw' n' I', RowC w' base gx vws vis vl' vw' n' (wpc P) (vpc P) P I' ∧ Below base w w' := by
  obtain ⟨aw, cw, av, cv, rfl, rfl⟩ := hR.shape hne
  obtain ⟨kd, a, nn, num, A2, c2, p, s⟩ := o
  obtain rfl : kd = 9 := ho
  obtain ⟨i, hi, him⟩ := at_ex a P.length (List.length_pos_iff.2 hne)
  obtain ⟨q, hq⟩ : ∃ q, P[i]? = some q := ⟨_, List.getElem?_eq_getElem him⟩
  have hql := hl q (List.mem_of_getElem? hq)
  have HQ := Lib.hid hq
  obtain ⟨m, hm⟩ : ∃ m, P.length = m := ⟨_, rfl⟩
  rw [hm] at hR hi him hP ⊢
  have ha0 : -9223372036854775808 ≤ a := ha.1
  have ha1 : a ≤ 9223372036854775807 := ha.2
  have hb1 : Below w.heap.size w (w.alloc (.cells (OpV.cells ⟨9, a, nn, num, A2, c2, p, s⟩) 54)) := below_alloc (Below.refl _ w) _
  have hk1 : Blk (w.alloc (.cells (OpV.cells ⟨9, a, nn, num, A2, c2, p, s⟩) 54)) w.heap.size (OpV.cells ⟨9, a, nn, num, A2, c2, p, s⟩).toList 54 := Blk.new w _ _
  have hR1 := hR.below hb1
  have h0 := hR1.blk.cell 0 _ rfl
  have h1 := hk1.cell 1 (.int .i64 a) rfl
  have h2 := hk1.cell 0 (.int .i64 9) rfl
  have HR1 := Lib.hid (And.intro hR1 (hb1.mono (by have := hR.lt; omega) : Below base _ _))
  have u1 : IntKind.i64.wrap ((m : Int) - 1) = (m : Int) - 1 := IntWalk.i64_in _ (by omega)
  have HI := Lib.hid hi
  have HW := fun W => Lib.hid (within_ a ((m : Int) - 1) W ha0 ha1 (by omega) (by omega))
  clear hR hb1 hk1 hR1 hi hm hq ha hl
  show Calls Try.prog 27 #[.pointer (some ⟨gx, 0, none⟩), .agg #[.int .i64 9, .int .i64 a, .int .u64 (nn : Int), .int .i64 num, .slice A2 p.length c2, .string s]] w _
  go_enter Try.func27, Try.ntmps27
  go_wp2_with fail
  refine wp_region_held_drew (S := (fun w' => w'.cell? ⟨gx, 0, none⟩ = some (.slice (some aw) m cw) ∧ w'.cell? ⟨w.heap.size, 1, none⟩ = some (.int .i64 a))) (by kernel_rfl) ?_ (fun hHeld => ?_)
  · (try dsimp only); (exact ⟨h0, h1⟩)
  refine tk 0 (v := ?_) rfl ⟨by kernel_rfl, by kernel_rfl, by kernel_rfl⟩ (fun _ _ _ h => h) (by kernel_rfl) hHeld ?_ ?_
  rotate_left
  · (intro w0 hSw; (try dsimp only at hSw); go_simp; (try with_reducible rfl))
  (try simp only [Act.put, List.setIfInBounds_toArray, List.set_cons_zero, List.set_cons_succ])
  refine tk 1 (v := ?_) rfl ⟨by kernel_rfl, by kernel_rfl, by kernel_rfl⟩ (fun _ _ _ h => h) (by kernel_rfl) hHeld ?_ ?_
  rotate_left
  · (intro w0 hSw; (try dsimp only at hSw); go_simp; (try with_reducible rfl))
  (try simp only [Act.put, List.setIfInBounds_toArray, List.set_cons_zero, List.set_cons_succ])
  refine tk 2 (v := ?_) rfl ⟨by kernel_rfl, by kernel_rfl, by kernel_rfl⟩ (fun _ _ _ h => h) (by kernel_rfl) hHeld ?_ ?_
  rotate_left
  · (intro w0 hSw; (try dsimp only at hSw); go_simp; (try with_reducible rfl))
  (try simp only [Act.put, List.setIfInBounds_toArray, List.set_cons_zero, List.set_cons_succ])
  refine tk 3 (v := ?_) rfl ⟨by kernel_rfl, by kernel_rfl, by kernel_rfl⟩ (fun _ _ _ h => h) (by kernel_rfl) hHeld ?_ ?_
  rotate_left
  · (intro w0 hSw; (try dsimp only at hSw); go_simp; (try with_reducible rfl))
  (try simp only [Act.put, List.setIfInBounds_toArray, List.set_cons_zero, List.set_cons_succ])
  refine tk 4 (v := ?_) rfl ⟨by kernel_rfl, by kernel_rfl, by kernel_rfl⟩ (fun _ _ _ h => h) (by kernel_rfl) hHeld ?_ ?_
  rotate_left
  · (intro w0 hSw; (try dsimp only at hSw); go_simp; (try with_reducible rfl))
  (try simp only [Act.put, List.setIfInBounds_toArray, List.set_cons_zero, List.set_cons_succ])
  refine tk 5 (v := ?_) rfl ⟨by kernel_rfl, by kernel_rfl, by kernel_rfl⟩ (fun _ _ _ h => h) (by kernel_rfl) hHeld ?_ ?_
  rotate_left
  · (intro w0 hSw; (try dsimp only at hSw); go_simp; (try with_reducible rfl))
  (try simp only [Act.put, List.setIfInBounds_toArray, List.set_cons_zero, List.set_cons_succ])
  refine tk 6 (v := ?_) rfl ⟨by kernel_rfl, by kernel_rfl, by kernel_rfl⟩ (fun _ _ _ h => h) (by kernel_rfl) hHeld ?_ ?_
  rotate_left
  · (intro w0 hSw; (try dsimp only at hSw); go_simp; (try with_reducible rfl))
  (try simp only [Act.put, List.setIfInBounds_toArray, List.set_cons_zero, List.set_cons_succ])
  refine tk 7 (v := ?_) rfl ⟨by kernel_rfl, by kernel_rfl, by kernel_rfl⟩ (fun _ _ _ h => h) (by kernel_rfl) hHeld ?_ ?_
  rotate_left
  · (intro w0 hSw; (try dsimp only at hSw); go_simp; (try with_reducible rfl))
  (try simp only [Act.put, List.setIfInBounds_toArray, List.set_cons_zero, List.set_cons_succ])
  refine cr 8 rfl (by kernel_rfl) (fun K hK => ?_)
  (refine goes Try.func58 (by kernel_rfl) rfl #[.int .i64 a, .int .i64 0, .int .i64 ((m : Int) - 1)] rfl rfl (by simp only [List.map_toArray, List.map_cons, List.map_nil]; rfl) ?_; refine ((HW _).out).mono ?_; rintro r wS ⟨rfl, rfl⟩; refine ⟨_, rfl, ?_⟩; rw [HI.out])
  clear hHeld
  refine hK.out _ _ ?_ (fun hHeld => ?_)
  · (try dsimp only); (exact ⟨h0, h1⟩)
  clear hK K
  (try simp only [Act.put, List.setIfInBounds_toArray, List.set_cons_zero, List.set_cons_succ])
  refine tk 9 (v := ?_) rfl ⟨by kernel_rfl, by kernel_rfl, by kernel_rfl⟩ (fun _ _ _ h => h) (by kernel_rfl) hHeld ?_ ?_
  rotate_left
  · (intro w0 hSw; (try dsimp only at hSw); go_simp; (try with_reducible rfl))
  (try simp only [Act.put, List.setIfInBounds_toArray, List.set_cons_zero, List.set_cons_succ])
  refine wpAnyH_done (by kernel_rfl) ?_ _
  clear hHeld u1
  go_wp2_with fail
  have hR2 : RowC ((w.alloc (.cells (OpV.cells ⟨9, a, nn, num, A2, c2, p, s⟩) 54)).drew) base gx (.slice (some aw) m cw) (.slice (some av) m cv) vl vw n (wpc P) (vpc P) P I := HR1.out.1.below (below_drewN (Below.refl _ _) 1)
  refine (tells_ base gx _ _ vl vw n P I i q _ hR2 HQ.out (by omega)).mono ?_
  rintro r w3 ⟨rfl, vl3, vw3, n3, I3, hR3, hB3⟩
  have HX := Lib.hid (And.intro hR3 ((HR1.out.2.trans (below_drewN (Below.refl base _) 1)).trans hB3))
  clear hR2 hR3 hB3 h0 h1 h2
  go_wp2_with fail
  go_ret
  exact ⟨rfl, _, _, _, _, HX.out.1, HX.out.2⟩

/-- Behind lays. -/
theorem lay_step {w w1 w8 : World} {base gx m cw cv i M : Nat} {aw av : Addr} {vl vw : Value} {n : Int} {P : List Wp} {I : List Kp} {q : Wp} {o : OpV} {lx : List UInt8} {vb8 vv8 : Option Nat} (hR : RowC w1 base gx (.slice (some aw) m cw) (.slice (some av) m cv) vl vw n (wpc P) (vpc P) P I ∧ Below base w w1) (hq : P[i]? = some q) (hm : P.length = m)
    (hl : (∀ p ∈ P, p.bs.length ≤ M) ∧ laidB o q.bs q.e = q.bs ++ lx ∧ lx.length ≤ 4097 + o.p.length + o.s.size) (hP8 : Pair w8 base q.g vb8 q.gv vv8 (laidB o q.bs q.e) (laidE o q.bs q.e)) (hF8 : FrP w1 w8 q.g q.vb vb8 q.gv q.vv vv8) :
    RowC w8 base gx (.slice (some aw) m cw) (.slice (some av) m cv) vl vw n (wpc (P.set i ⟨q.g, vb8, q.gv, vv8, laidB o q.bs q.e, laidE o q.bs q.e⟩)) (vpc (P.set i ⟨q.g, vb8, q.gv, vv8, laidB o q.bs q.e, laidE o q.bs q.e⟩)) (P.set i ⟨q.g, vb8, q.gv, vv8, laidB o q.bs q.e, laidE o q.bs q.e⟩) I ∧ Below base w w8 ∧ (P.set i ⟨q.g, vb8, q.gv, vv8, laidB o q.bs q.e, laidE o q.bs q.e⟩).length = m ∧
      ∀ p ∈ P.set i ⟨q.g, vb8, q.gv, vv8, laidB o q.bs q.e, laidE o q.bs q.e⟩, p.bs.length ≤ M + 4097 + o.p.length + o.s.size := by
  have hqm := List.mem_of_getElem? hq
  refine ⟨?_, hR.2.trans (hF8.1.below (fun k hk => (Wp.typed (hR.1.ok q hqm) k hk).1) (by have := hR.1.lt; omega)), by simp [hm], fun p hp => ?_⟩
  · rw [wpc_set (p' := ⟨q.g, vb8, q.gv, vv8, laidB o q.bs q.e, laidE o q.bs q.e⟩) hq rfl, vpc_set (p' := ⟨q.g, vb8, q.gv, vv8, laidB o q.bs q.e, laidE o q.bs q.e⟩) hq rfl]
    exact hR.1.step i q _ hq rfl rfl hP8 hF8
  · rcases List.mem_or_eq_of_mem_set hp with hp | rfl
    · have := hl.1 p hp; omega
    · show (laidB o q.bs q.e).length ≤ _
      rw [hl.2.1, List.length_append]
      have := hl.1 q hqm
      have := hl.2.2
      omega

set_option maxHeartbeats 6400000 in
set_option maxRecDepth 100000 in
theorem step_lay (base gx : Nat) (vws vis vl vw : Value) (n : Int) (P : List Wp) (I : List Kp) (o : OpV) (M : Nat) (w : World) (hR : RowC w base gx vws vis vl vw n (wpc P) (vpc P) P I) (hP : P.length ≤ 1000000) (hne : P ≠ []) (ho : ¬ o.kind = 10) (ho2 : ¬ o.kind = 9) (ha : I64 o.at_) (hl : ∀ p ∈ P, p.bs.length ≤ M)
    (hM : M + o.p.length + o.s.size + 4104 ≤ 140737488351232) (hn : o.n < 18446744073709551616) (hr : ∀ W : World, Below base w W → Rd W o.A o.p.length (bvs o.p)) :
    Calls Try.prog 27 #[.pointer (some ⟨gx, 0, none⟩), o.val] w fun r w' => r = .returned (.bool true) ∧ ∃ P', RowC w' base gx vws vis vl vw n (wpc P') (vpc P') P' I ∧ Below base w w' ∧ P'.length = P.length ∧ (∀ p ∈ P', p.bs.length ≤ M + 4097 + o.p.length + o.s.size) := by
  obtain ⟨aw, cw, av, cv, rfl, rfl⟩ := hR.shape hne
  obtain ⟨i, hi, him⟩ := at_ex o.at_ P.length (List.length_pos_iff.2 hne)
  obtain ⟨q, hq⟩ : ∃ q, P[i]? = some q := ⟨_, List.getElem?_eq_getElem him⟩
  have hql := hl q (List.mem_of_getElem? hq)
  obtain ⟨lx, hlx, hlx2⟩ := laid_ext o q.bs q.e
  have HL := Lib.hid (And.intro hl (And.intro hlx hlx2))
  have HQ := Lib.hid hq
  obtain ⟨m, hm⟩ : ∃ m, P.length = m := ⟨_, rfl⟩
  rw [hm] at hR hi him hP ⊢
  have HM := Lib.hid hm
  have ha0 : -9223372036854775808 ≤ o.at_ := ha.1
  have ha1 : o.at_ ≤ 9223372036854775807 := ha.2
  have hb1 : Below w.heap.size w (w.alloc (.cells o.cells 54)) := below_alloc (Below.refl _ w) _
  have hk1 : Blk (w.alloc (.cells o.cells 54)) w.heap.size o.cells.toList 54 := Blk.new w _ _
  have hR1 := hR.below hb1
  have h0 := hR1.blk.cell 0 _ rfl
  have h1 := hk1.cell 1 (.int .i64 o.at_) rfl
  have h2 := hk1.cell 0 (.int .i64 o.kind) rfl
  have HR1 := Lib.hid (And.intro hR1 (And.intro (hb1.mono (by have := hR.lt; omega) : Below base _ _) hk1))
  have u1 : IntKind.i64.wrap ((m : Int) - 1) = (m : Int) - 1 := IntWalk.i64_in _ (by omega)
  have t1 := beqf ho
  have t2 := beqf ho2
  have HI := Lib.hid hi
  have HW := fun W => Lib.hid (within_ o.at_ ((m : Int) - 1) W ha0 ha1 (by omega) (by omega))
  have p0 : (0 : Int) ≤ (i : Int) := by omega
  have p1 : (i : Int) < (m : Int) := by omega
  have HRR := Lib.hid hr
  clear hR hb1 hk1 hR1 hi hm hq ha hl hlx hlx2 hr
  show Calls Try.prog 27 #[.pointer (some ⟨gx, 0, none⟩), .agg #[.int .i64 o.kind, .int .i64 o.at_, .int .u64 (o.n : Int), .int .i64 o.num, .slice o.A o.p.length o.c, .string o.s]] w _
  go_enter Try.func27, Try.ntmps27
  go_wp2_with fail
  refine wp_region_held_drew (S := (fun w' => w'.cell? ⟨gx, 0, none⟩ = some (.slice (some aw) m cw) ∧ w'.cell? ⟨w.heap.size, 1, none⟩ = some (.int .i64 o.at_))) (by kernel_rfl) ?_ (fun hHeld => ?_)
  · (try dsimp only); (exact ⟨h0, h1⟩)
  refine tk 0 (v := ?_) rfl ⟨by kernel_rfl, by kernel_rfl, by kernel_rfl⟩ (fun _ _ _ h => h) (by kernel_rfl) hHeld ?_ ?_
  rotate_left
  · (intro w0 hSw; (try dsimp only at hSw); go_simp; (try with_reducible rfl))
  (try simp only [Act.put, List.setIfInBounds_toArray, List.set_cons_zero, List.set_cons_succ])
  refine tk 1 (v := ?_) rfl ⟨by kernel_rfl, by kernel_rfl, by kernel_rfl⟩ (fun _ _ _ h => h) (by kernel_rfl) hHeld ?_ ?_
  rotate_left
  · (intro w0 hSw; (try dsimp only at hSw); go_simp; (try with_reducible rfl))
  (try simp only [Act.put, List.setIfInBounds_toArray, List.set_cons_zero, List.set_cons_succ])
  refine tk 2 (v := ?_) rfl ⟨by kernel_rfl, by kernel_rfl, by kernel_rfl⟩ (fun _ _ _ h => h) (by kernel_rfl) hHeld ?_ ?_
  rotate_left
  · (intro w0 hSw; (try dsimp only at hSw); go_simp; (try with_reducible rfl))
  (try simp only [Act.put, List.setIfInBounds_toArray, List.set_cons_zero, List.set_cons_succ])
  refine tk 3 (v := ?_) rfl ⟨by kernel_rfl, by kernel_rfl, by kernel_rfl⟩ (fun _ _ _ h => h) (by kernel_rfl) hHeld ?_ ?_
  rotate_left
  · (intro w0 hSw; (try dsimp only at hSw); go_simp; (try with_reducible rfl))
  (try simp only [Act.put, List.setIfInBounds_toArray, List.set_cons_zero, List.set_cons_succ])
  refine tk 4 (v := ?_) rfl ⟨by kernel_rfl, by kernel_rfl, by kernel_rfl⟩ (fun _ _ _ h => h) (by kernel_rfl) hHeld ?_ ?_
  rotate_left
  · (intro w0 hSw; (try dsimp only at hSw); go_simp; (try with_reducible rfl))
  (try simp only [Act.put, List.setIfInBounds_toArray, List.set_cons_zero, List.set_cons_succ])
  refine tk 5 (v := ?_) rfl ⟨by kernel_rfl, by kernel_rfl, by kernel_rfl⟩ (fun _ _ _ h => h) (by kernel_rfl) hHeld ?_ ?_
  rotate_left
  · (intro w0 hSw; (try dsimp only at hSw); go_simp; (try with_reducible rfl))
  (try simp only [Act.put, List.setIfInBounds_toArray, List.set_cons_zero, List.set_cons_succ])
  refine tk 6 (v := ?_) rfl ⟨by kernel_rfl, by kernel_rfl, by kernel_rfl⟩ (fun _ _ _ h => h) (by kernel_rfl) hHeld ?_ ?_
  rotate_left
  · (intro w0 hSw; (try dsimp only at hSw); go_simp; (try with_reducible rfl))
  (try simp only [Act.put, List.setIfInBounds_toArray, List.set_cons_zero, List.set_cons_succ])
  refine tk 7 (v := ?_) rfl ⟨by kernel_rfl, by kernel_rfl, by kernel_rfl⟩ (fun _ _ _ h => h) (by kernel_rfl) hHeld ?_ ?_
  rotate_left
  · (intro w0 hSw; (try dsimp only at hSw); go_simp; (try with_reducible rfl))
  (try simp only [Act.put, List.setIfInBounds_toArray, List.set_cons_zero, List.set_cons_succ])
  refine cr 8 rfl (by kernel_rfl) (fun K hK => ?_)
  (refine goes Try.func58 (by kernel_rfl) rfl #[.int .i64 o.at_, .int .i64 0, .int .i64 ((m : Int) - 1)] rfl rfl (by simp only [List.map_toArray, List.map_cons, List.map_nil]; rfl) ?_; refine ((HW _).out).mono ?_; rintro r wS ⟨rfl, rfl⟩; refine ⟨_, rfl, ?_⟩; rw [HI.out])
  clear hHeld
  refine hK.out _ _ ?_ (fun hHeld => ?_)
  · (try dsimp only); (exact ⟨h0, h1⟩)
  clear hK K
  (try simp only [Act.put, List.setIfInBounds_toArray, List.set_cons_zero, List.set_cons_succ])
  refine tk 9 (v := ?_) rfl ⟨by kernel_rfl, by kernel_rfl, by kernel_rfl⟩ (fun _ _ _ h => h) (by kernel_rfl) hHeld ?_ ?_
  rotate_left
  · (intro w0 hSw; (try dsimp only at hSw); go_simp; (try with_reducible rfl))
  (try simp only [Act.put, List.setIfInBounds_toArray, List.set_cons_zero, List.set_cons_succ])
  refine wpAnyH_done (by kernel_rfl) ?_ _
  clear hHeld u1 h0 h1 h2
  obtain ⟨w1, hw1⟩ : ∃ w1, (w.alloc (.cells #[.int .i64 o.kind, .int .i64 o.at_, .int .u64 (o.n : Int), .int .i64 o.num, .slice o.A o.p.length o.c, .string o.s] 54)).drew = w1 := ⟨_, rfl⟩
  have hR2 : RowC w1 base gx (.slice (some aw) m cw) (.slice (some av) m cv) vl vw n (wpc P) (vpc P) P I := by rw [← hw1]; exact HR1.out.1.below (below_drewN (Below.refl _ _) 1)
  have hB2 : Below base w w1 := by rw [← hw1]; exact HR1.out.2.1.trans (below_drewN (Below.refl base _) 1)
  have hk2 : Blk w1 w.heap.size o.cells.toList 54 := by rw [← hw1]; exact HR1.out.2.2.drewN 1
  rw [hw1]
  have h0 := hR2.blk.cell 0 _ rfl
  have h1 := hR2.blk.cell 1 _ rfl
  have h2 := ptr_at hR2.rw_ (wpc_get HQ.out)
  have h3 := ptr_at hR2.rv (vpc_get HQ.out)
  have k0 := hk2.cell 0 (.int .i64 o.kind) rfl
  have k1 := hk2.cell 1 (.int .i64 o.at_) rfl
  have k2 := hk2.cell 2 (.int .u64 (o.n : Int)) rfl
  have k3 := hk2.cell 3 (.int .i64 o.num) rfl
  have k4 := hk2.cell 4 (.slice o.A o.p.length o.c) rfl
  have k5 := hk2.cell 5 (.string o.s) rfl
  have HR2 : Hid (RowC w1.drew base gx (.slice (some aw) m cw) (.slice (some av) m cv) vl vw n (wpc P) (vpc P) P I ∧ Below base w w1.drew) := Lib.hid ⟨hR2.below (below_drewN (Below.refl _ _) 1), hB2.trans (below_drewN (Below.refl base _) 1)⟩
  have HK2 : Hid (Blk w1.drew w.heap.size o.cells.toList 54) := Lib.hid (hk2.drewN 1)
  clear hR2 hB2 hk2 hw1 HR1
  go_wp2_with fail
  refine wp_region_held_drew (S := (fun w' => w'.cell? ⟨gx, 0, none⟩ = some (.slice (some aw) m cw) ∧ w'.cell? ⟨gx, 1, none⟩ = some (.slice (some av) m cv) ∧ w'.cell? (aw.add i) = some (.pointer (some ⟨q.g, 0, none⟩)) ∧ w'.cell? (av.add i) = some (.pointer (some ⟨q.gv, 0, none⟩)) ∧ w'.cell? ⟨w.heap.size, 0, none⟩ = some (.int .i64 o.kind) ∧ w'.cell? ⟨w.heap.size, 1, none⟩ = some (.int .i64 o.at_) ∧ w'.cell? ⟨w.heap.size, 2, none⟩ = some (.int .u64 (o.n : Int)) ∧ w'.cell? ⟨w.heap.size, 3, none⟩ = some (.int .i64 o.num) ∧ w'.cell? ⟨w.heap.size, 4, none⟩ = some (.slice o.A o.p.length o.c) ∧ w'.cell? ⟨w.heap.size, 5, none⟩ = some (.string o.s))) (by kernel_rfl) ?_ (fun hHeld => ?_)
  · (try dsimp only); go_keep
  refine tk 0 (v := ?_) rfl ⟨by kernel_rfl, by kernel_rfl, by kernel_rfl⟩ (fun _ _ _ h => h) (by kernel_rfl) hHeld ?_ ?_
  rotate_left
  · (intro w0 hSw; (try dsimp only at hSw); go_simp; (try with_reducible rfl))
  (try simp only [Act.put, List.setIfInBounds_toArray, List.set_cons_zero, List.set_cons_succ])
  refine tk 1 (v := ?_) rfl ⟨by kernel_rfl, by kernel_rfl, by kernel_rfl⟩ (fun _ _ _ h => h) (by kernel_rfl) hHeld ?_ ?_
  rotate_left
  · (intro w0 hSw; (try dsimp only at hSw); go_simp; (try with_reducible rfl))
  (try simp only [Act.put, List.setIfInBounds_toArray, List.set_cons_zero, List.set_cons_succ])
  refine tk 2 (v := ?_) rfl ⟨by kernel_rfl, by kernel_rfl, by kernel_rfl⟩ (fun _ _ _ h => h) (by kernel_rfl) hHeld ?_ ?_
  rotate_left
  · (intro w0 hSw; (try dsimp only at hSw); go_simp; (try with_reducible rfl))
  (try simp only [Act.put, List.setIfInBounds_toArray, List.set_cons_zero, List.set_cons_succ])
  refine tk 3 (v := ?_) rfl ⟨by kernel_rfl, by kernel_rfl, by kernel_rfl⟩ (fun _ _ _ h => h) (by kernel_rfl) hHeld ?_ ?_
  rotate_left
  · (intro w0 hSw; (try dsimp only at hSw); go_simp; (try with_reducible rfl))
  (try simp only [Act.put, List.setIfInBounds_toArray, List.set_cons_zero, List.set_cons_succ])
  refine tk 4 (v := ?_) rfl ⟨by kernel_rfl, by kernel_rfl, by kernel_rfl⟩ (fun _ _ _ h => h) (by kernel_rfl) hHeld ?_ ?_
  rotate_left
  · (intro w0 hSw; (try dsimp only at hSw); go_simp; (try with_reducible rfl))
  (try simp only [Act.put, List.setIfInBounds_toArray, List.set_cons_zero, List.set_cons_succ])
  refine tk 5 (v := ?_) rfl ⟨by kernel_rfl, by kernel_rfl, by kernel_rfl⟩ (fun _ _ _ h => h) (by kernel_rfl) hHeld ?_ ?_
  rotate_left
  · (intro w0 hSw; (try dsimp only at hSw); go_simp; (try with_reducible rfl))
  (try simp only [Act.put, List.setIfInBounds_toArray, List.set_cons_zero, List.set_cons_succ])
  refine tk 6 (v := ?_) rfl ⟨by kernel_rfl, by kernel_rfl, by kernel_rfl⟩ (fun _ _ _ h => h) (by kernel_rfl) hHeld ?_ ?_
  rotate_left
  · (intro w0 hSw; (try dsimp only at hSw); go_simp; (try with_reducible rfl))
  (try simp only [Act.put, List.setIfInBounds_toArray, List.set_cons_zero, List.set_cons_succ])
  refine tk 7 (v := ?_) rfl ⟨by kernel_rfl, by kernel_rfl, by kernel_rfl⟩ (fun _ _ _ h => h) (by kernel_rfl) hHeld ?_ ?_
  rotate_left
  · (intro w0 hSw; (try dsimp only at hSw); go_simp; (try with_reducible rfl))
  (try simp only [Act.put, List.setIfInBounds_toArray, List.set_cons_zero, List.set_cons_succ])
  refine tk 8 (v := ?_) rfl ⟨by kernel_rfl, by kernel_rfl, by kernel_rfl⟩ (fun _ _ _ h => h) (by kernel_rfl) hHeld ?_ ?_
  rotate_left
  · (intro w0 hSw; (try dsimp only at hSw); go_simp; (try with_reducible rfl))
  (try simp only [Act.put, List.setIfInBounds_toArray, List.set_cons_zero, List.set_cons_succ])
  refine tk 9 (v := ?_) rfl ⟨by kernel_rfl, by kernel_rfl, by kernel_rfl⟩ (fun _ _ _ h => h) (by kernel_rfl) hHeld ?_ ?_
  rotate_left
  · (intro w0 hSw; (try dsimp only at hSw); go_simp; (try with_reducible rfl))
  (try simp only [Act.put, List.setIfInBounds_toArray, List.set_cons_zero, List.set_cons_succ])
  refine tk 10 (v := ?_) rfl ⟨by kernel_rfl, by kernel_rfl, by kernel_rfl⟩ (fun _ _ _ h => h) (by kernel_rfl) hHeld ?_ ?_
  rotate_left
  · (intro w0 hSw; (try dsimp only at hSw); go_simp; (try with_reducible rfl))
  (try simp only [Act.put, List.setIfInBounds_toArray, List.set_cons_zero, List.set_cons_succ])
  refine tk 11 (v := ?_) rfl ⟨by kernel_rfl, by kernel_rfl, by kernel_rfl⟩ (fun _ _ _ h => h) (by kernel_rfl) hHeld ?_ ?_
  rotate_left
  · (intro w0 hSw; (try dsimp only at hSw); go_simp; (try with_reducible rfl))
  (try simp only [Act.put, List.setIfInBounds_toArray, List.set_cons_zero, List.set_cons_succ])
  refine tk 12 (v := ?_) rfl ⟨by kernel_rfl, by kernel_rfl, by kernel_rfl⟩ (fun _ _ _ h => h) (by kernel_rfl) hHeld ?_ ?_
  rotate_left
  · (intro w0 hSw; (try dsimp only at hSw); go_simp; (try with_reducible rfl))
  (try simp only [Act.put, List.setIfInBounds_toArray, List.set_cons_zero, List.set_cons_succ])
  refine tk 13 (v := ?_) rfl ⟨by kernel_rfl, by kernel_rfl, by kernel_rfl⟩ (fun _ _ _ h => h) (by kernel_rfl) hHeld ?_ ?_
  rotate_left
  · (intro w0 hSw; (try dsimp only at hSw); go_simp; (try with_reducible rfl))
  (try simp only [Act.put, List.setIfInBounds_toArray, List.set_cons_zero, List.set_cons_succ])
  refine tk 14 (v := ?_) rfl ⟨by kernel_rfl, by kernel_rfl, by kernel_rfl⟩ (fun _ _ _ h => h) (by kernel_rfl) hHeld ?_ ?_
  rotate_left
  · (intro w0 hSw; (try dsimp only at hSw); go_simp; (try with_reducible rfl))
  (try simp only [Act.put, List.setIfInBounds_toArray, List.set_cons_zero, List.set_cons_succ])
  refine cr 15 rfl (by kernel_rfl) (fun K hK => ?_)
  (refine goes Try.func81 (by kernel_rfl) rfl #[.pointer (some ⟨q.g, 0, none⟩), .pointer (some ⟨q.gv, 0, none⟩), o.val] rfl rfl (by simp only [List.map_toArray, List.map_cons, List.map_nil]; rfl) ?_; refine (lays_ base q.g q.vb q.gv q.vv q.bs q.e _ (HR2.out.1.ok q (List.mem_of_getElem? HQ.out)) o (by omega) hn (fun W hW => HRR.out W (HR2.out.2.trans hW))).mono ?_; rintro r w8 ⟨rfl, vb8, vv8, hP8, hF8⟩; refine ⟨_, rfl, ?_⟩; have HPI := Lib.hid (show (P.set i ⟨q.g, vb8, q.gv, vv8, laidB o q.bs q.e, laidE o q.bs q.e⟩)[i]? = some ⟨q.g, vb8, q.gv, vv8, laidB o q.bs q.e, laidE o q.bs q.e⟩ by rw [List.getElem?_set_self (by rw [HM.out]; exact him)]); have hO : Blk w8 w.heap.size o.cells.toList 54 := HK2.out.fr hF8.1 (Wp.ne_typed (HR2.out.1.ok q (List.mem_of_getElem? HQ.out)) HK2.out (by decide) (by decide) (by decide)); have HX := Lib.hid (lay_step HR2.out HQ.out HM.out HL.out hP8 hF8); clear hP8 hF8; obtain ⟨P8, hP8e⟩ : ∃ P8, P.set i ⟨q.g, vb8, q.gv, vv8, laidB o q.bs q.e, laidE o q.bs q.e⟩ = P8 := ⟨_, rfl⟩; rw [hP8e] at HPI HX; clear hP8e)
  clear hHeld
  refine hK.out _ _ ?_ (fun hHeld => ?_)
  · (try dsimp only); (exact ⟨(HX.out.1.blk.cell 0 _ rfl), (HX.out.1.blk.cell 1 _ rfl), ptr_at (v := .pointer (some ⟨q.g, 0, none⟩)) HX.out.1.rw_ (wpc_get (p := ⟨q.g, vb8, q.gv, vv8, laidB o q.bs q.e, laidE o q.bs q.e⟩) HPI.out), ptr_at (v := .pointer (some ⟨q.gv, 0, none⟩)) HX.out.1.rv (vpc_get (p := ⟨q.g, vb8, q.gv, vv8, laidB o q.bs q.e, laidE o q.bs q.e⟩) HPI.out), hO.cell 0 _ rfl, hO.cell 1 _ rfl, hO.cell 2 _ rfl, hO.cell 3 _ rfl, hO.cell 4 _ rfl, hO.cell 5 _ rfl⟩)
  clear hK K
  (try simp only [Act.put, List.setIfInBounds_toArray, List.set_cons_zero, List.set_cons_succ])
  refine tk 16 (v := ?_) rfl ⟨by kernel_rfl, by kernel_rfl, by kernel_rfl⟩ (fun _ _ _ h => h) (by kernel_rfl) hHeld ?_ ?_
  rotate_left
  · (intro w0 hSw; (try dsimp only at hSw); go_simp; (try with_reducible rfl))
  (try simp only [Act.put, List.setIfInBounds_toArray, List.set_cons_zero, List.set_cons_succ])
  refine wpAnyH_done (by kernel_rfl) ?_ _
  clear hHeld k0 k1 k2 k3 k4 k5 h0 h1 h2 h3 hO
  have hmx : m ≤ 9223372036854775807 := by omega
  obtain ⟨A2, c2, hs⟩ := HX.out.1.seen (W := []) (V := []) (HPI.out)
  have e0 := hs.ws
  have e1 := hs.vs
  have e2 := hs.wi
  have e3 := hs.vi
  have e4 := hs.vb
  have e5 := hs.ve
  have HR8 : Hid (RowC w8.drew base gx (.slice (some aw) m cw) (.slice (some av) m cv) vl vw n (wpc P8) (vpc P8) P8 I) := Lib.hid (HX.out.1.below (below_drewN (Below.refl _ w8) 1))
  clear hs
  go_wp2_with fail
  refine wp_region_held_drew (S := (fun w' => w'.cell? ⟨gx, 0, none⟩ = some (.slice (some aw) m cw) ∧ w'.cell? ⟨gx, 1, none⟩ = some (.slice (some av) m cv) ∧ w'.cell? (aw.add i) = some (.pointer (some ⟨q.g, 0, none⟩)) ∧ w'.cell? (av.add i) = some (.pointer (some ⟨q.gv, 0, none⟩)) ∧ w'.cell? ⟨q.gv, 0, none⟩ = some (.slice A2 (laidB o q.bs q.e).length c2) ∧ w'.cell? ⟨q.gv, 1, none⟩ = some (.int .i64 (laidE o q.bs q.e)))) (by kernel_rfl) ?_ (fun hHeld => ?_)
  · (try dsimp only); go_keep
  refine tk 0 (v := ?_) rfl ⟨by kernel_rfl, by kernel_rfl, by kernel_rfl⟩ (fun _ _ _ h => h) (by kernel_rfl) hHeld ?_ ?_
  rotate_left
  · (intro w0 hSw; (try dsimp only at hSw); go_simp; (try with_reducible rfl))
  (try simp only [Act.put, List.setIfInBounds_toArray, List.set_cons_zero, List.set_cons_succ])
  refine tk 1 (v := ?_) rfl ⟨by kernel_rfl, by kernel_rfl, by kernel_rfl⟩ (fun _ _ _ h => h) (by kernel_rfl) hHeld ?_ ?_
  rotate_left
  · (intro w0 hSw; (try dsimp only at hSw); go_simp; (try with_reducible rfl))
  (try simp only [Act.put, List.setIfInBounds_toArray, List.set_cons_zero, List.set_cons_succ])
  refine tk 2 (v := ?_) rfl ⟨by kernel_rfl, by kernel_rfl, by kernel_rfl⟩ (fun _ _ _ h => h) (by kernel_rfl) hHeld ?_ ?_
  rotate_left
  · (intro w0 hSw; (try dsimp only at hSw); go_simp; (try with_reducible rfl))
  (try simp only [Act.put, List.setIfInBounds_toArray, List.set_cons_zero, List.set_cons_succ])
  refine tk 3 (v := ?_) rfl ⟨by kernel_rfl, by kernel_rfl, by kernel_rfl⟩ (fun _ _ _ h => h) (by kernel_rfl) hHeld ?_ ?_
  rotate_left
  · (intro w0 hSw; (try dsimp only at hSw); go_simp; (try with_reducible rfl))
  (try simp only [Act.put, List.setIfInBounds_toArray, List.set_cons_zero, List.set_cons_succ])
  refine tk 4 (v := ?_) rfl ⟨by kernel_rfl, by kernel_rfl, by kernel_rfl⟩ (fun _ _ _ h => h) (by kernel_rfl) hHeld ?_ ?_
  rotate_left
  · (intro w0 hSw; (try dsimp only at hSw); go_simp; (try with_reducible rfl))
  (try simp only [Act.put, List.setIfInBounds_toArray, List.set_cons_zero, List.set_cons_succ])
  refine tk 5 (v := ?_) rfl ⟨by kernel_rfl, by kernel_rfl, by kernel_rfl⟩ (fun _ _ _ h => h) (by kernel_rfl) hHeld ?_ ?_
  rotate_left
  · (intro w0 hSw; (try dsimp only at hSw); go_simp; (try with_reducible rfl))
  (try simp only [Act.put, List.setIfInBounds_toArray, List.set_cons_zero, List.set_cons_succ])
  refine tk 6 (v := ?_) rfl ⟨by kernel_rfl, by kernel_rfl, by kernel_rfl⟩ (fun _ _ _ h => h) (by kernel_rfl) hHeld ?_ ?_
  rotate_left
  · (intro w0 hSw; (try dsimp only at hSw); go_simp; (try with_reducible rfl))
  (try simp only [Act.put, List.setIfInBounds_toArray, List.set_cons_zero, List.set_cons_succ])
  refine tk 7 (v := ?_) rfl ⟨by kernel_rfl, by kernel_rfl, by kernel_rfl⟩ (fun _ _ _ h => h) (by kernel_rfl) hHeld ?_ ?_
  rotate_left
  · (intro w0 hSw; (try dsimp only at hSw); go_simp; (try with_reducible rfl))
  (try simp only [Act.put, List.setIfInBounds_toArray, List.set_cons_zero, List.set_cons_succ])
  refine tk 8 (v := ?_) rfl ⟨by kernel_rfl, by kernel_rfl, by kernel_rfl⟩ (fun _ _ _ h => h) (by kernel_rfl) hHeld ?_ ?_
  rotate_left
  · (intro w0 hSw; (try dsimp only at hSw); go_simp; (try with_reducible rfl))
  (try simp only [Act.put, List.setIfInBounds_toArray, List.set_cons_zero, List.set_cons_succ])
  refine tk 10 (v := ?_) rfl ⟨by kernel_rfl, by kernel_rfl, by kernel_rfl⟩ (fun _ _ _ h => h) (by kernel_rfl) hHeld ?_ ?_
  rotate_left
  · (intro w0 hSw; (try dsimp only at hSw); go_simp; (try with_reducible rfl))
  (try simp only [Act.put, List.setIfInBounds_toArray, List.set_cons_zero, List.set_cons_succ])
  refine tk 11 (v := ?_) rfl ⟨by kernel_rfl, by kernel_rfl, by kernel_rfl⟩ (fun _ _ _ h => h) (by kernel_rfl) hHeld ?_ ?_
  rotate_left
  · (intro w0 hSw; (try dsimp only at hSw); go_simp; (try with_reducible rfl))
  (try simp only [Act.put, List.setIfInBounds_toArray, List.set_cons_zero, List.set_cons_succ])
  refine tk 12 (v := ?_) rfl ⟨by kernel_rfl, by kernel_rfl, by kernel_rfl⟩ (fun _ _ _ h => h) (by kernel_rfl) hHeld ?_ ?_
  rotate_left
  · (intro w0 hSw; (try dsimp only at hSw); go_simp; (try with_reducible rfl))
  (try simp only [Act.put, List.setIfInBounds_toArray, List.set_cons_zero, List.set_cons_succ])
  refine tk 13 (v := ?_) rfl ⟨by kernel_rfl, by kernel_rfl, by kernel_rfl⟩ (fun _ _ _ h => h) (by kernel_rfl) hHeld ?_ ?_
  rotate_left
  · (intro w0 hSw; (try dsimp only at hSw); go_simp; (try with_reducible rfl))
  (try simp only [Act.put, List.setIfInBounds_toArray, List.set_cons_zero, List.set_cons_succ])
  refine tk 14 (v := ?_) rfl ⟨by kernel_rfl, by kernel_rfl, by kernel_rfl⟩ (fun _ _ _ h => h) (by kernel_rfl) hHeld ?_ ?_
  rotate_left
  · (intro w0 hSw; (try dsimp only at hSw); go_simp; (try with_reducible rfl))
  (try simp only [Act.put, List.setIfInBounds_toArray, List.set_cons_zero, List.set_cons_succ])
  refine tk 15 (v := ?_) rfl ⟨by kernel_rfl, by kernel_rfl, by kernel_rfl⟩ (fun _ _ _ h => h) (by kernel_rfl) hHeld ?_ ?_
  rotate_left
  · (intro w0 hSw; (try dsimp only at hSw); go_simp; (try with_reducible rfl))
  (try simp only [Act.put, List.setIfInBounds_toArray, List.set_cons_zero, List.set_cons_succ])
  refine tk 16 (v := ?_) rfl ⟨by kernel_rfl, by kernel_rfl, by kernel_rfl⟩ (fun _ _ _ h => h) (by kernel_rfl) hHeld ?_ ?_
  rotate_left
  · (intro w0 hSw; (try dsimp only at hSw); go_simp; (try with_reducible rfl))
  (try simp only [Act.put, List.setIfInBounds_toArray, List.set_cons_zero, List.set_cons_succ])
  refine tk 17 (v := ?_) rfl ⟨by kernel_rfl, by kernel_rfl, by kernel_rfl⟩ (fun _ _ _ h => h) (by kernel_rfl) hHeld ?_ ?_
  rotate_left
  · (intro w0 hSw; (try dsimp only at hSw); go_simp; (try with_reducible rfl))
  (try simp only [Act.put, List.setIfInBounds_toArray, List.set_cons_zero, List.set_cons_succ])
  refine tk 18 (v := ?_) rfl ⟨by kernel_rfl, by kernel_rfl, by kernel_rfl⟩ (fun _ _ _ h => h) (by kernel_rfl) hHeld ?_ ?_
  rotate_left
  · (intro w0 hSw; (try dsimp only at hSw); go_simp; (try with_reducible rfl))
  (try simp only [Act.put, List.setIfInBounds_toArray, List.set_cons_zero, List.set_cons_succ])
  refine tk 19 (v := ?_) rfl ⟨by kernel_rfl, by kernel_rfl, by kernel_rfl⟩ (fun _ _ _ h => h) (by kernel_rfl) hHeld ?_ ?_
  rotate_left
  · (intro w0 hSw; (try dsimp only at hSw); go_simp; (try with_reducible rfl))
  (try simp only [Act.put, List.setIfInBounds_toArray, List.set_cons_zero, List.set_cons_succ])
  refine tk 20 (v := ?_) rfl ⟨by kernel_rfl, by kernel_rfl, by kernel_rfl⟩ (fun _ _ _ h => h) (by kernel_rfl) hHeld ?_ ?_
  rotate_left
  · (intro w0 hSw; (try dsimp only at hSw); go_simp; (try with_reducible rfl))
  (try simp only [Act.put, List.setIfInBounds_toArray, List.set_cons_zero, List.set_cons_succ])
  refine cr 9 rfl (by kernel_rfl) (fun K hK => ?_)
  (refine goes Try.func48 (by kernel_rfl) rfl #[.pointer (some ⟨q.g, 0, none⟩)] rfl rfl (by simp only [List.map_toArray, List.map_cons, List.map_nil]; rfl) ?_; refine (wLen base q.g vb8 (laidB o q.bs q.e) (laidE o q.bs q.e) _ (HR8.out.ok _ (List.mem_of_getElem? HPI.out)).hw).mono ?_; rintro r wS ⟨rfl, rfl⟩; refine ⟨_, rfl, ?_⟩)
  clear hHeld
  refine hK.out _ _ ?_ (fun hHeld => ?_)
  · (try dsimp only); go_keep
  clear hK K
  (try simp only [Act.put, List.setIfInBounds_toArray, List.set_cons_zero, List.set_cons_succ])
  refine tk 21 (v := ?_) rfl ⟨by kernel_rfl, by kernel_rfl, by kernel_rfl⟩ (fun _ _ _ h => h) (by kernel_rfl) hHeld ?_ ?_
  rotate_left
  · (intro w0 hSw; (try dsimp only at hSw); go_simp; (try with_reducible rfl))
  (try simp only [Act.put, List.setIfInBounds_toArray, List.set_cons_zero, List.set_cons_succ])
  refine tk 22 (v := ?_) rfl ⟨by kernel_rfl, by kernel_rfl, by kernel_rfl⟩ (fun _ _ _ h => h) (by kernel_rfl) hHeld ?_ ?_
  rotate_left
  · (intro w0 hSw; (try dsimp only at hSw); go_simp; (try with_reducible rfl))
  (try simp only [Act.put, List.setIfInBounds_toArray, List.set_cons_zero, List.set_cons_succ])
  refine tk 23 (v := ?_) rfl ⟨by kernel_rfl, by kernel_rfl, by kernel_rfl⟩ (fun _ _ _ h => h) (by kernel_rfl) hHeld ?_ ?_
  rotate_left
  · (intro w0 hSw; (try dsimp only at hSw); go_simp; (try with_reducible rfl))
  (try simp only [Act.put, List.setIfInBounds_toArray, List.set_cons_zero, List.set_cons_succ])
  refine tk 24 (v := ?_) rfl ⟨by kernel_rfl, by kernel_rfl, by kernel_rfl⟩ (fun _ _ _ h => h) (by kernel_rfl) hHeld ?_ ?_
  rotate_left
  · (intro w0 hSw; (try dsimp only at hSw); go_simp; (try with_reducible rfl))
  (try simp only [Act.put, List.setIfInBounds_toArray, List.set_cons_zero, List.set_cons_succ])
  refine tk 25 (v := ?_) rfl ⟨by kernel_rfl, by kernel_rfl, by kernel_rfl⟩ (fun _ _ _ h => h) (by kernel_rfl) hHeld ?_ ?_
  rotate_left
  · (intro w0 hSw; (try dsimp only at hSw); go_simp; (try with_reducible rfl))
  (try simp only [Act.put, List.setIfInBounds_toArray, List.set_cons_zero, List.set_cons_succ])
  refine tk 26 (v := ?_) rfl ⟨by kernel_rfl, by kernel_rfl, by kernel_rfl⟩ (fun _ _ _ h => h) (by kernel_rfl) hHeld ?_ ?_
  rotate_left
  · (intro w0 hSw; (try dsimp only at hSw); go_simp; (try with_reducible rfl))
  (try simp only [Act.put, List.setIfInBounds_toArray, List.set_cons_zero, List.set_cons_succ])
  refine tk 27 (v := ?_) rfl ⟨by kernel_rfl, by kernel_rfl, by kernel_rfl⟩ (fun _ _ _ h => h) (by kernel_rfl) hHeld ?_ ?_
  rotate_left
  · (intro w0 hSw; (try dsimp only at hSw); go_simp; (try with_reducible rfl))
  (try simp only [Act.put, List.setIfInBounds_toArray, List.set_cons_zero, List.set_cons_succ])
  refine tk 28 (v := ?_) rfl ⟨by kernel_rfl, by kernel_rfl, by kernel_rfl⟩ (fun _ _ _ h => h) (by kernel_rfl) hHeld ?_ ?_
  rotate_left
  · (intro w0 hSw; (try dsimp only at hSw); go_simp; (try with_reducible rfl))
  (try simp only [Act.put, List.setIfInBounds_toArray, List.set_cons_zero, List.set_cons_succ])
  refine tk 29 (v := ?_) rfl ⟨by kernel_rfl, by kernel_rfl, by kernel_rfl⟩ (fun _ _ _ h => h) (by kernel_rfl) hHeld ?_ ?_
  rotate_left
  · (intro w0 hSw; (try dsimp only at hSw); go_simp; (try with_reducible rfl))
  (try simp only [Act.put, List.setIfInBounds_toArray, List.set_cons_zero, List.set_cons_succ])
  refine tk 30 (v := ?_) rfl ⟨by kernel_rfl, by kernel_rfl, by kernel_rfl⟩ (fun _ _ _ h => h) (by kernel_rfl) hHeld ?_ ?_
  rotate_left
  · (intro w0 hSw; (try dsimp only at hSw); go_simp; (try with_reducible rfl))
  (try simp only [Act.put, List.setIfInBounds_toArray, List.set_cons_zero, List.set_cons_succ])
  refine tk 32 (v := ?_) rfl ⟨by kernel_rfl, by kernel_rfl, by kernel_rfl⟩ (fun _ _ _ h => h) (by kernel_rfl) hHeld ?_ ?_
  rotate_left
  · (intro w0 hSw; (try dsimp only at hSw); go_simp; (try with_reducible rfl))
  (try simp only [Act.put, List.setIfInBounds_toArray, List.set_cons_zero, List.set_cons_succ])
  refine tk 33 (v := ?_) rfl ⟨by kernel_rfl, by kernel_rfl, by kernel_rfl⟩ (fun _ _ _ h => h) (by kernel_rfl) hHeld ?_ ?_
  rotate_left
  · (intro w0 hSw; (try dsimp only at hSw); go_simp; (try with_reducible rfl))
  (try simp only [Act.put, List.setIfInBounds_toArray, List.set_cons_zero, List.set_cons_succ])
  refine tk 34 (v := ?_) rfl ⟨by kernel_rfl, by kernel_rfl, by kernel_rfl⟩ (fun _ _ _ h => h) (by kernel_rfl) hHeld ?_ ?_
  rotate_left
  · (intro w0 hSw; (try dsimp only at hSw); go_simp; (try with_reducible rfl))
  (try simp only [Act.put, List.setIfInBounds_toArray, List.set_cons_zero, List.set_cons_succ])
  refine tk 35 (v := ?_) rfl ⟨by kernel_rfl, by kernel_rfl, by kernel_rfl⟩ (fun _ _ _ h => h) (by kernel_rfl) hHeld ?_ ?_
  rotate_left
  · (intro w0 hSw; (try dsimp only at hSw); go_simp; (try with_reducible rfl))
  (try simp only [Act.put, List.setIfInBounds_toArray, List.set_cons_zero, List.set_cons_succ])
  refine tk 36 (v := ?_) rfl ⟨by kernel_rfl, by kernel_rfl, by kernel_rfl⟩ (fun _ _ _ h => h) (by kernel_rfl) hHeld ?_ ?_
  rotate_left
  · (intro w0 hSw; (try dsimp only at hSw); go_simp; (try with_reducible rfl))
  (try simp only [Act.put, List.setIfInBounds_toArray, List.set_cons_zero, List.set_cons_succ])
  refine tk 37 (v := ?_) rfl ⟨by kernel_rfl, by kernel_rfl, by kernel_rfl⟩ (fun _ _ _ h => h) (by kernel_rfl) hHeld ?_ ?_
  rotate_left
  · (intro w0 hSw; (try dsimp only at hSw); go_simp; (try with_reducible rfl))
  (try simp only [Act.put, List.setIfInBounds_toArray, List.set_cons_zero, List.set_cons_succ])
  refine tk 38 (v := ?_) rfl ⟨by kernel_rfl, by kernel_rfl, by kernel_rfl⟩ (fun _ _ _ h => h) (by kernel_rfl) hHeld ?_ ?_
  rotate_left
  · (intro w0 hSw; (try dsimp only at hSw); go_simp; (try with_reducible rfl))
  (try simp only [Act.put, List.setIfInBounds_toArray, List.set_cons_zero, List.set_cons_succ])
  refine tk 39 (v := ?_) rfl ⟨by kernel_rfl, by kernel_rfl, by kernel_rfl⟩ (fun _ _ _ h => h) (by kernel_rfl) hHeld ?_ ?_
  rotate_left
  · (intro w0 hSw; (try dsimp only at hSw); go_simp; (try with_reducible rfl))
  (try simp only [Act.put, List.setIfInBounds_toArray, List.set_cons_zero, List.set_cons_succ])
  refine tk 40 (v := ?_) rfl ⟨by kernel_rfl, by kernel_rfl, by kernel_rfl⟩ (fun _ _ _ h => h) (by kernel_rfl) hHeld ?_ ?_
  rotate_left
  · (intro w0 hSw; (try dsimp only at hSw); go_simp; (try with_reducible rfl))
  (try simp only [Act.put, List.setIfInBounds_toArray, List.set_cons_zero, List.set_cons_succ])
  refine tk 41 (v := ?_) rfl ⟨by kernel_rfl, by kernel_rfl, by kernel_rfl⟩ (fun _ _ _ h => h) (by kernel_rfl) hHeld ?_ ?_
  rotate_left
  · (intro w0 hSw; (try dsimp only at hSw); go_simp; (try with_reducible rfl))
  (try simp only [Act.put, List.setIfInBounds_toArray, List.set_cons_zero, List.set_cons_succ])
  refine cr 31 rfl (by kernel_rfl) (fun K hK => ?_)
  (refine goes Try.func35 (by kernel_rfl) rfl #[.pointer (some ⟨q.g, 0, none⟩)] rfl rfl (by simp only [List.map_toArray, List.map_cons, List.map_nil]; rfl) ?_; refine (wErr base q.g vb8 (laidB o q.bs q.e) (laidE o q.bs q.e) _ (HR8.out.ok _ (List.mem_of_getElem? HPI.out)).hw).mono ?_; rintro r wS ⟨rfl, rfl⟩; refine ⟨_, rfl, ?_⟩)
  clear hHeld
  refine hK.out _ _ ?_ (fun hHeld => ?_)
  · (try dsimp only); go_keep
  clear hK K
  (try simp only [Act.put, List.setIfInBounds_toArray, List.set_cons_zero, List.set_cons_succ])
  refine tk 42 (v := ?_) rfl ⟨by kernel_rfl, by kernel_rfl, by kernel_rfl⟩ (fun _ _ _ h => h) (by kernel_rfl) hHeld ?_ ?_
  rotate_left
  · (intro w0 hSw; (try dsimp only at hSw); go_simp; (try with_reducible rfl))
  (try simp only [Act.put, List.setIfInBounds_toArray, List.set_cons_zero, List.set_cons_succ])
  refine tk 43 (v := ?_) rfl ⟨by kernel_rfl, by kernel_rfl, by kernel_rfl⟩ (fun _ _ _ h => h) (by kernel_rfl) hHeld ?_ ?_
  rotate_left
  · (intro w0 hSw; (try dsimp only at hSw); go_simp; (try with_reducible rfl))
  (try simp only [Act.put, List.setIfInBounds_toArray, List.set_cons_zero, List.set_cons_succ])
  refine tk 44 (v := ?_) rfl ⟨by kernel_rfl, by kernel_rfl, by kernel_rfl⟩ (fun _ _ _ h => h) (by kernel_rfl) hHeld ?_ ?_
  rotate_left
  · (intro w0 hSw; (try dsimp only at hSw); go_simp; (try with_reducible rfl))
  (try simp only [Act.put, List.setIfInBounds_toArray, List.set_cons_zero, List.set_cons_succ])
  refine wpAnyH_done (by kernel_rfl) ?_ _
  clear hHeld e0 e1 e2 e3 e4 e5
  go_wp2_with fail
  go_ret
  exact ⟨rfl, P8, HR8.out, HX.out.2.1.trans (below_drewN (Below.refl base w8) 1), HX.out.2.2.1, HX.out.2.2.2⟩
end Go.Proofs.Ythdjddpomaendaa.B
