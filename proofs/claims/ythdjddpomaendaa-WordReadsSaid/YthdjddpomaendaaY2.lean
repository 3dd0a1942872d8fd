/- takes, kind by kind (but 5). Printed by gen_takes.py. -/
import Derived.Test.YthdjddpomaendaaY1
import Derived.Test.YthdjddpomaendaaH
namespace Go.Proofs.Ythdjddpomaendaa.B
open Go.RowKit
set_option linter.unusedVariables false
set_option linter.unusedSimpArgs false
set_option linter.unusedSectionVars false

/-- Where a reader stands behind a step, and its refusal. -/
def takeA (o : OpV) (bs : List UInt8) (at_ : Nat) (e : Int) : Nat :=
  if o.kind = 1 then stepA 1 bs at_ e else if o.kind = 2 then stepA 2 bs at_ e else if o.kind = 3 then stepA 4 bs at_ e else if o.kind = 4 then stepA 8 bs at_ e
  else if o.kind = 5 then bytesA o.num bs at_ e else if o.kind = 6 then rtextA o.num bs at_ e else if o.kind = 7 then rpadA o.num bs at_ e else if o.kind = 8 then rsealA o.num bs at_ e else at_
def takeE (o : OpV) (bs : List UInt8) (at_ : Nat) (e : Int) : Int :=
  if o.kind = 1 then shortE 1 bs at_ e else if o.kind = 2 then shortE 2 bs at_ e else if o.kind = 3 then shortE 4 bs at_ e else if o.kind = 4 then shortE 8 bs at_ e
  else if o.kind = 5 then bytesE o.num bs at_ e else if o.kind = 6 then rtextE o.num bs at_ e else if o.kind = 7 then rpadE o.num bs at_ e else if o.kind = 8 then rsealE o.num bs at_ e else e
theorem Fr.two {w w1 w2 w3 : World} {g gv : Nat} (hb : Below w.heap.size w w1) (h1 : Fr (fun k => k = g) w1 w2) (h2 : Fr (fun k => k = gv) w2 w3) : Fr (fun k => k = g ∨ k = gv) w w3 :=
  ((Fr.of_below hb (fun k => k = g ∨ k = gv)).trans h1 (fun i hi => .inl (.inl hi))).trans h2 (fun i hi => .inl (.inr hi))

section
variable (base gs : Nat) (q : Rp) (A0 : Option Addr) (c0 : Nat) (bs : List UInt8) (w : World) (hq : q.ok w base A0 c0 bs) (a : Int) (n : Nat) (num : Int) (A2 : Option Addr) (c2 : Nat) (p : List UInt8) (s : ByteArray)
include hq
set_option maxHeartbeats 3200000 in
set_option maxRecDepth 100000 in
theorem takes1 : Calls Try.prog 88 #[.pointer (some ⟨gs, 0, none⟩), .pointer (some ⟨q.g, 0, none⟩), .pointer (some ⟨q.gv, 0, none⟩), OpV.val ⟨1, a, n, num, A2, c2, p, s⟩] w fun r w' => r = .returned (.bool true) ∧ Rp.ok ⟨q.g, q.A, q.c, q.gv, stepA 1 bs q.at_ q.e, shortE 1 bs q.at_ q.e⟩ w' base A0 c0 bs ∧ Fr q.S w w' := by
  have hb1 : Below w.heap.size w (w.alloc (.cells (OpV.cells ⟨1, a, n, num, A2, c2, p, s⟩) 54)) := below_alloc (Below.refl _ w) _
  have hk1 : Blk (w.alloc (.cells (OpV.cells ⟨1, a, n, num, A2, c2, p, s⟩) 54)) w.heap.size (OpV.cells ⟨1, a, n, num, A2, c2, p, s⟩).toList 54 := Blk.new w _ _
  have HP1 := Lib.hid (And.intro (q.below hq hb1) hb1)
  have HLT := Lib.hid (And.intro hq.hr.lt hq.hu.lt)
  clear hq hb1
  obtain ⟨N, hN⟩ : ∃ N, numV 1 bs q.at_ q.e = N := ⟨_, rfl⟩
  have hNl : N < 256 ^ 1 := hN ▸ numV_lt 1 bs q.at_ q.e
  have hNl2 : N < 256 := by simpa using hNl
  have hw : IntKind.u64.wrap (N : Int) = (N : Int) := by rw [IntKind.wrap_u64]; omega
  have HN := Lib.hid hN
  clear hN hNl hk1
  show Calls Try.prog 88 #[.pointer (some ⟨gs, 0, none⟩), .pointer (some ⟨q.g, 0, none⟩), .pointer (some ⟨q.gv, 0, none⟩), .agg #[.int .i64 1, .int .i64 a, .int .u64 (n : Int), .int .i64 num, .slice A2 p.length c2, .string s]] w _
  go_enter Try.func88, Try.ntmps88
  go_wp2_with fail
  refine (rByte base q.g q.A q.c bs q.at_ q.e _ HP1.out.1.hr).mono ?_
  rintro r w2 ⟨rfl, hR2, hF2⟩
  rw [HN.out]
  have hU2 := HP1.out.1.hu.past_r HP1.out.1.hr hF2
  have H2 := Lib.hid (And.intro hR2 (And.intro hU2 hF2))
  clear hR2 hU2 hF2
  go_wp2_with fail
  refine (uNumber1 base q.gv A0 c0 bs q.at_ q.e _ H2.out.2.1).mono ?_
  rintro r w3 ⟨rfl, hU3, hF3⟩
  rw [HN.out]
  have hR3 := H2.out.1.past_u H2.out.2.1 hF3
  have H3 := Lib.hid (And.intro hR3 (And.intro hU3 (Fr.two HP1.out.2 H2.out.2.2 hF3)))
  clear hR3 hU3 hF3
  go_wp2_with fail
  go_ret
  exact ⟨rfl, ⟨H3.out.1, H3.out.2.1⟩, H3.out.2.2⟩
set_option maxHeartbeats 3200000 in
set_option maxRecDepth 100000 in
theorem takes2 : Calls Try.prog 88 #[.pointer (some ⟨gs, 0, none⟩), .pointer (some ⟨q.g, 0, none⟩), .pointer (some ⟨q.gv, 0, none⟩), OpV.val ⟨2, a, n, num, A2, c2, p, s⟩] w fun r w' => r = .returned (.bool true) ∧ Rp.ok ⟨q.g, q.A, q.c, q.gv, stepA 2 bs q.at_ q.e, shortE 2 bs q.at_ q.e⟩ w' base A0 c0 bs ∧ Fr q.S w w' := by
  have hb1 : Below w.heap.size w (w.alloc (.cells (OpV.cells ⟨2, a, n, num, A2, c2, p, s⟩) 54)) := below_alloc (Below.refl _ w) _
  have hk1 : Blk (w.alloc (.cells (OpV.cells ⟨2, a, n, num, A2, c2, p, s⟩) 54)) w.heap.size (OpV.cells ⟨2, a, n, num, A2, c2, p, s⟩).toList 54 := Blk.new w _ _
  have HP1 := Lib.hid (And.intro (q.below hq hb1) hb1)
  have HLT := Lib.hid (And.intro hq.hr.lt hq.hu.lt)
  clear hq hb1
  obtain ⟨N, hN⟩ : ∃ N, numV 2 bs q.at_ q.e = N := ⟨_, rfl⟩
  have hNl : N < 256 ^ 2 := hN ▸ numV_lt 2 bs q.at_ q.e
  have hNl2 : N < 65536 := by simpa using hNl
  have hw : IntKind.u64.wrap (N : Int) = (N : Int) := by rw [IntKind.wrap_u64]; omega
  have HN := Lib.hid hN
  clear hN hNl hk1
  show Calls Try.prog 88 #[.pointer (some ⟨gs, 0, none⟩), .pointer (some ⟨q.g, 0, none⟩), .pointer (some ⟨q.gv, 0, none⟩), .agg #[.int .i64 2, .int .i64 a, .int .u64 (n : Int), .int .i64 num, .slice A2 p.length c2, .string s]] w _
  go_enter Try.func88, Try.ntmps88
  go_wp2_with fail
  refine (rHalf base q.g q.A q.c bs q.at_ q.e _ HP1.out.1.hr).mono ?_
  rintro r w2 ⟨rfl, hR2, hF2⟩
  rw [HN.out]
  have hU2 := HP1.out.1.hu.past_r HP1.out.1.hr hF2
  have H2 := Lib.hid (And.intro hR2 (And.intro hU2 hF2))
  clear hR2 hU2 hF2
  go_wp2_with fail
  refine (uNumber2 base q.gv A0 c0 bs q.at_ q.e _ H2.out.2.1).mono ?_
  rintro r w3 ⟨rfl, hU3, hF3⟩
  rw [HN.out]
  have hR3 := H2.out.1.past_u H2.out.2.1 hF3
  have H3 := Lib.hid (And.intro hR3 (And.intro hU3 (Fr.two HP1.out.2 H2.out.2.2 hF3)))
  clear hR3 hU3 hF3
  go_wp2_with fail
  go_ret
  exact ⟨rfl, ⟨H3.out.1, H3.out.2.1⟩, H3.out.2.2⟩
set_option maxHeartbeats 3200000 in
set_option maxRecDepth 100000 in
theorem takes3 : Calls Try.prog 88 #[.pointer (some ⟨gs, 0, none⟩), .pointer (some ⟨q.g, 0, none⟩), .pointer (some ⟨q.gv, 0, none⟩), OpV.val ⟨3, a, n, num, A2, c2, p, s⟩] w fun r w' => r = .returned (.bool true) ∧ Rp.ok ⟨q.g, q.A, q.c, q.gv, stepA 4 bs q.at_ q.e, shortE 4 bs q.at_ q.e⟩ w' base A0 c0 bs ∧ Fr q.S w w' := by
  have hb1 : Below w.heap.size w (w.alloc (.cells (OpV.cells ⟨3, a, n, num, A2, c2, p, s⟩) 54)) := below_alloc (Below.refl _ w) _
  have hk1 : Blk (w.alloc (.cells (OpV.cells ⟨3, a, n, num, A2, c2, p, s⟩) 54)) w.heap.size (OpV.cells ⟨3, a, n, num, A2, c2, p, s⟩).toList 54 := Blk.new w _ _
  have HP1 := Lib.hid (And.intro (q.below hq hb1) hb1)
  have HLT := Lib.hid (And.intro hq.hr.lt hq.hu.lt)
  clear hq hb1
  obtain ⟨N, hN⟩ : ∃ N, numV 4 bs q.at_ q.e = N := ⟨_, rfl⟩
  have hNl : N < 256 ^ 4 := hN ▸ numV_lt 4 bs q.at_ q.e
  have hNl2 : N < 4294967296 := by simpa using hNl
  have hw : IntKind.u64.wrap (N : Int) = (N : Int) := by rw [IntKind.wrap_u64]; omega
  have HN := Lib.hid hN
  clear hN hNl hk1
  show Calls Try.prog 88 #[.pointer (some ⟨gs, 0, none⟩), .pointer (some ⟨q.g, 0, none⟩), .pointer (some ⟨q.gv, 0, none⟩), .agg #[.int .i64 3, .int .i64 a, .int .u64 (n : Int), .int .i64 num, .slice A2 p.length c2, .string s]] w _
  go_enter Try.func88, Try.ntmps88
  go_wp2_with fail
  refine (rWord base q.g q.A q.c bs q.at_ q.e _ HP1.out.1.hr).mono ?_
  rintro r w2 ⟨rfl, hR2, hF2⟩
  rw [HN.out]
  have hU2 := HP1.out.1.hu.past_r HP1.out.1.hr hF2
  have H2 := Lib.hid (And.intro hR2 (And.intro hU2 hF2))
  clear hR2 hU2 hF2
  go_wp2_with fail
  refine (uNumber4 base q.gv A0 c0 bs q.at_ q.e _ H2.out.2.1).mono ?_
  rintro r w3 ⟨rfl, hU3, hF3⟩
  rw [HN.out]
  have hR3 := H2.out.1.past_u H2.out.2.1 hF3
  have H3 := Lib.hid (And.intro hR3 (And.intro hU3 (Fr.two HP1.out.2 H2.out.2.2 hF3)))
  clear hR3 hU3 hF3
  go_wp2_with fail
  go_ret
  exact ⟨rfl, ⟨H3.out.1, H3.out.2.1⟩, H3.out.2.2⟩
set_option maxHeartbeats 3200000 in
set_option maxRecDepth 100000 in
theorem takes4 : Calls Try.prog 88 #[.pointer (some ⟨gs, 0, none⟩), .pointer (some ⟨q.g, 0, none⟩), .pointer (some ⟨q.gv, 0, none⟩), OpV.val ⟨4, a, n, num, A2, c2, p, s⟩] w fun r w' => r = .returned (.bool true) ∧ Rp.ok ⟨q.g, q.A, q.c, q.gv, stepA 8 bs q.at_ q.e, shortE 8 bs q.at_ q.e⟩ w' base A0 c0 bs ∧ Fr q.S w w' := by
  have hb1 : Below w.heap.size w (w.alloc (.cells (OpV.cells ⟨4, a, n, num, A2, c2, p, s⟩) 54)) := below_alloc (Below.refl _ w) _
  have hk1 : Blk (w.alloc (.cells (OpV.cells ⟨4, a, n, num, A2, c2, p, s⟩) 54)) w.heap.size (OpV.cells ⟨4, a, n, num, A2, c2, p, s⟩).toList 54 := Blk.new w _ _
  have HP1 := Lib.hid (And.intro (q.below hq hb1) hb1)
  have HLT := Lib.hid (And.intro hq.hr.lt hq.hu.lt)
  clear hq hb1
  obtain ⟨N, hN⟩ : ∃ N, numV 8 bs q.at_ q.e = N := ⟨_, rfl⟩
  have hNl : N < 256 ^ 8 := hN ▸ numV_lt 8 bs q.at_ q.e
  have hNl2 : N < 18446744073709551616 := by simpa using hNl
  have hw : IntKind.u64.wrap (N : Int) = (N : Int) := by rw [IntKind.wrap_u64]; omega
  have HN := Lib.hid hN
  clear hN hNl hk1
  show Calls Try.prog 88 #[.pointer (some ⟨gs, 0, none⟩), .pointer (some ⟨q.g, 0, none⟩), .pointer (some ⟨q.gv, 0, none⟩), .agg #[.int .i64 4, .int .i64 a, .int .u64 (n : Int), .int .i64 num, .slice A2 p.length c2, .string s]] w _
  go_enter Try.func88, Try.ntmps88
  go_wp2_with fail
  refine (rLong base q.g q.A q.c bs q.at_ q.e _ HP1.out.1.hr).mono ?_
  rintro r w2 ⟨rfl, hR2, hF2⟩
  rw [HN.out]
  have hU2 := HP1.out.1.hu.past_r HP1.out.1.hr hF2
  have H2 := Lib.hid (And.intro hR2 (And.intro hU2 hF2))
  clear hR2 hU2 hF2
  go_wp2_with fail
  refine (uNumber8 base q.gv A0 c0 bs q.at_ q.e _ H2.out.2.1).mono ?_
  rintro r w3 ⟨rfl, hU3, hF3⟩
  rw [HN.out]
  have hR3 := H2.out.1.past_u H2.out.2.1 hF3
  have H3 := Lib.hid (And.intro hR3 (And.intro hU3 (Fr.two HP1.out.2 H2.out.2.2 hF3)))
  clear hR3 hU3 hF3
  go_wp2_with fail
  go_ret
  exact ⟨rfl, ⟨H3.out.1, H3.out.2.1⟩, H3.out.2.2⟩
set_option maxHeartbeats 3200000 in
set_option maxRecDepth 100000 in
theorem takes6 : Calls Try.prog 88 #[.pointer (some ⟨gs, 0, none⟩), .pointer (some ⟨q.g, 0, none⟩), .pointer (some ⟨q.gv, 0, none⟩), OpV.val ⟨6, a, n, num, A2, c2, p, s⟩] w fun r w' => r = .returned (.bool true) ∧ Rp.ok ⟨q.g, q.A, q.c, q.gv, rtextA num bs q.at_ q.e, rtextE num bs q.at_ q.e⟩ w' base A0 c0 bs ∧ Fr q.S w w' := by
  have hb1 : Below w.heap.size w (w.alloc (.cells (OpV.cells ⟨6, a, n, num, A2, c2, p, s⟩) 54)) := below_alloc (Below.refl _ w) _
  have hk1 : Blk (w.alloc (.cells (OpV.cells ⟨6, a, n, num, A2, c2, p, s⟩) 54)) w.heap.size (OpV.cells ⟨6, a, n, num, A2, c2, p, s⟩).toList 54 := Blk.new w _ _
  have HP1 := Lib.hid (And.intro (q.below hq hb1) hb1)
  have HLT := Lib.hid (And.intro hq.hr.lt hq.hu.lt)
  clear hq hb1
  have q0 := hk1.cell 3 (.int .i64 num) rfl
  have HK1 := Lib.hid (And.intro (hk1.drewN 1) (And.intro (q.below HP1.out.1 (below_drewN (Below.refl _ _) 1)) (below_drewN HP1.out.2 1)))
  clear hk1
  show Calls Try.prog 88 #[.pointer (some ⟨gs, 0, none⟩), .pointer (some ⟨q.g, 0, none⟩), .pointer (some ⟨q.gv, 0, none⟩), .agg #[.int .i64 6, .int .i64 a, .int .u64 (n : Int), .int .i64 num, .slice A2 p.length c2, .string s]] w _
  go_enter Try.func88, Try.ntmps88
  go_wp2_with fail
  refine wp_region_held_drew (S := (fun w' => w'.cell? ⟨w.heap.size, 3, none⟩ = some (.int .i64 num))) (by kernel_rfl) ?_ (fun hHeld => ?_)
  · (try dsimp only); (exact q0)
  refine tk 0 (v := ?_) rfl ⟨by kernel_rfl, by kernel_rfl, by kernel_rfl⟩ (fun _ _ _ h => h) (by kernel_rfl) hHeld ?_ ?_
  rotate_left
  · (intro w0 hSw; (try dsimp only at hSw); go_simp; (try with_reducible rfl))
  (try simp only [Act.put, List.setIfInBounds_toArray, List.set_cons_zero, List.set_cons_succ])
  refine tk 1 (v := ?_) rfl ⟨by kernel_rfl, by kernel_rfl, by kernel_rfl⟩ (fun _ _ _ h => h) (by kernel_rfl) hHeld ?_ ?_
  rotate_left
  · (intro w0 hSw; (try dsimp only at hSw); go_simp; (try with_reducible rfl))
  (try simp only [Act.put, List.setIfInBounds_toArray, List.set_cons_zero, List.set_cons_succ])
  refine tk 2 (v := ?_) rfl ⟨by kernel_rfl, by kernel_rfl, by kernel_rfl⟩ (fun _ _ _ h => h) (by kernel_rfl) hHeld ?_ ?_
  rotate_left
  · (intro w0 hSw; (try dsimp only at hSw); go_simp; (try with_reducible rfl))
  (try simp only [Act.put, List.setIfInBounds_toArray, List.set_cons_zero, List.set_cons_succ])
  refine tk 4 (v := ?_) rfl ⟨by kernel_rfl, by kernel_rfl, by kernel_rfl⟩ (fun _ _ _ h => h) (by kernel_rfl) hHeld ?_ ?_
  rotate_left
  · (intro w0 hSw; (try dsimp only at hSw); go_simp; (try with_reducible rfl))
  (try simp only [Act.put, List.setIfInBounds_toArray, List.set_cons_zero, List.set_cons_succ])
  refine tk 5 (v := ?_) rfl ⟨by kernel_rfl, by kernel_rfl, by kernel_rfl⟩ (fun _ _ _ h => h) (by kernel_rfl) hHeld ?_ ?_
  rotate_left
  · (intro w0 hSw; (try dsimp only at hSw); go_simp; (try with_reducible rfl))
  (try simp only [Act.put, List.setIfInBounds_toArray, List.set_cons_zero, List.set_cons_succ])
  refine tk 6 (v := ?_) rfl ⟨by kernel_rfl, by kernel_rfl, by kernel_rfl⟩ (fun _ _ _ h => h) (by kernel_rfl) hHeld ?_ ?_
  rotate_left
  · (intro w0 hSw; (try dsimp only at hSw); go_simp; (try with_reducible rfl))
  (try simp only [Act.put, List.setIfInBounds_toArray, List.set_cons_zero, List.set_cons_succ])
  refine cr 3 rfl (by kernel_rfl) (fun K hK => ?_)
  (refine goes Try.func103 (by kernel_rfl) rfl #[.pointer (some ⟨q.g, 0, none⟩), .int .i64 num] rfl rfl (by simp only [List.map_toArray, List.map_cons, List.map_nil]; rfl) ?_; refine (rText base q.g q.A q.c bs q.at_ q.e _ HK1.out.2.1.hr num).mono ?_; rintro r w2 ⟨rfl, hR2, hF2⟩; refine ⟨_, rfl, ?_⟩; have hU2 := HK1.out.2.1.hu.past_r HK1.out.2.1.hr hF2; have hk2 := HK1.out.1.fr hF2 (fun h => by have := HLT.out.1; omega); clear q0; have q0 := hk2.cell 3 (.int .i64 num) rfl; have H2 := Lib.hid (And.intro hR2 (And.intro hU2 (And.intro hF2 hk2))); clear hR2 hU2 hF2 hk2)
  clear hHeld
  refine hK.out _ _ ?_ (fun hHeld => ?_)
  · (try dsimp only); (exact q0)
  clear hK K
  (try simp only [Act.put, List.setIfInBounds_toArray, List.set_cons_zero, List.set_cons_succ])
  refine cr 7 rfl (by kernel_rfl) (fun K hK => ?_)
  (refine goes Try.func117 (by kernel_rfl) rfl #[.pointer (some ⟨q.gv, 0, none⟩), .int .i64 num] rfl rfl (by simp only [List.map_toArray, List.map_cons, List.map_nil]; rfl) ?_; refine (uText base q.gv A0 c0 bs q.at_ q.e _ H2.out.2.1 num).mono ?_; rintro r w3 ⟨rfl, hU3, hF3⟩; refine ⟨_, rfl, ?_⟩; have hR3 := H2.out.1.past_u H2.out.2.1 hF3; have hk3 := H2.out.2.2.2.fr hF3 (fun h => by have := HLT.out.2; omega); clear q0; have q0 := hk3.cell 3 (.int .i64 num) rfl; have H3 := Lib.hid (And.intro hR3 (And.intro hU3 (Fr.two HK1.out.2.2 H2.out.2.2.1 hF3))); clear hR3 hU3 hF3 hk3)
  clear hHeld
  refine hK.out _ _ ?_ (fun hHeld => ?_)
  · (try dsimp only); (exact q0)
  clear hK K
  (try simp only [Act.put, List.setIfInBounds_toArray, List.set_cons_zero, List.set_cons_succ])
  refine tk 8 (v := ?_) rfl ⟨by kernel_rfl, by kernel_rfl, by kernel_rfl⟩ (fun _ _ _ h => h) (by kernel_rfl) hHeld ?_ ?_
  rotate_left
  · (intro w0 hSw; (try dsimp only at hSw); go_simp; (try with_reducible rfl))
  (try simp only [Act.put, List.setIfInBounds_toArray, List.set_cons_zero, List.set_cons_succ])
  refine tk 9 (v := ?_) rfl ⟨by kernel_rfl, by kernel_rfl, by kernel_rfl⟩ (fun _ _ _ h => h) (by kernel_rfl) hHeld ?_ ?_
  rotate_left
  · (intro w0 hSw; (try dsimp only at hSw); go_simp; (try with_reducible rfl))
  (try simp only [Act.put, List.setIfInBounds_toArray, List.set_cons_zero, List.set_cons_succ])
  refine wpAnyH_done (by kernel_rfl) ?_ _
  clear hHeld q0
  go_wp2_with fail
  go_ret
  exact ⟨rfl, ⟨H3.out.1, H3.out.2.1⟩, H3.out.2.2⟩
set_option maxHeartbeats 3200000 in
set_option maxRecDepth 100000 in
theorem takes7 : Calls Try.prog 88 #[.pointer (some ⟨gs, 0, none⟩), .pointer (some ⟨q.g, 0, none⟩), .pointer (some ⟨q.gv, 0, none⟩), OpV.val ⟨7, a, n, num, A2, c2, p, s⟩] w fun r w' => r = .returned (.bool true) ∧ Rp.ok ⟨q.g, q.A, q.c, q.gv, rpadA num bs q.at_ q.e, rpadE num bs q.at_ q.e⟩ w' base A0 c0 bs ∧ Fr q.S w w' := by
  have hb1 : Below w.heap.size w (w.alloc (.cells (OpV.cells ⟨7, a, n, num, A2, c2, p, s⟩) 54)) := below_alloc (Below.refl _ w) _
  have hk1 : Blk (w.alloc (.cells (OpV.cells ⟨7, a, n, num, A2, c2, p, s⟩) 54)) w.heap.size (OpV.cells ⟨7, a, n, num, A2, c2, p, s⟩).toList 54 := Blk.new w _ _
  have HP1 := Lib.hid (And.intro (q.below hq hb1) hb1)
  have HLT := Lib.hid (And.intro hq.hr.lt hq.hu.lt)
  clear hq hb1
  have q0 := hk1.cell 3 (.int .i64 num) rfl
  have HK1 := Lib.hid hk1
  clear hk1
  show Calls Try.prog 88 #[.pointer (some ⟨gs, 0, none⟩), .pointer (some ⟨q.g, 0, none⟩), .pointer (some ⟨q.gv, 0, none⟩), .agg #[.int .i64 7, .int .i64 a, .int .u64 (n : Int), .int .i64 num, .slice A2 p.length c2, .string s]] w _
  go_enter Try.func88, Try.ntmps88
  go_wp2_with fail
  refine (rPad base q.g q.A q.c bs q.at_ q.e _ HP1.out.1.hr num).mono ?_
  rintro r w2 ⟨rfl, hR2, hF2⟩
  have hU2 := HP1.out.1.hu.past_r HP1.out.1.hr hF2
  have hk2 := HK1.out.fr hF2 (fun h => by have := HLT.out.1; omega)
  clear q0
  have q0 := hk2.cell 3 (.int .i64 num) rfl
  have H2 := Lib.hid (And.intro hR2 (And.intro hU2 hF2))
  clear hR2 hU2 hF2 hk2
  go_wp2_with fail
  refine (uPad base q.gv A0 c0 bs q.at_ q.e _ H2.out.2.1 num).mono ?_
  rintro r w3 ⟨rfl, hU3, hF3⟩
  have hR3 := H2.out.1.past_u H2.out.2.1 hF3
  have H3 := Lib.hid (And.intro hR3 (And.intro hU3 (Fr.two HP1.out.2 H2.out.2.2 hF3)))
  clear hR3 hU3 hF3 q0
  go_wp2_with fail
  go_ret
  exact ⟨rfl, ⟨H3.out.1, H3.out.2.1⟩, H3.out.2.2⟩
set_option maxHeartbeats 3200000 in
set_option maxRecDepth 100000 in
theorem takes8 : Calls Try.prog 88 #[.pointer (some ⟨gs, 0, none⟩), .pointer (some ⟨q.g, 0, none⟩), .pointer (some ⟨q.gv, 0, none⟩), OpV.val ⟨8, a, n, num, A2, c2, p, s⟩] w fun r w' => r = .returned (.bool true) ∧ Rp.ok ⟨q.g, q.A, q.c, q.gv, rsealA num bs q.at_ q.e, rsealE num bs q.at_ q.e⟩ w' base A0 c0 bs ∧ Fr q.S w w' := by
  have hb1 : Below w.heap.size w (w.alloc (.cells (OpV.cells ⟨8, a, n, num, A2, c2, p, s⟩) 54)) := below_alloc (Below.refl _ w) _
  have hk1 : Blk (w.alloc (.cells (OpV.cells ⟨8, a, n, num, A2, c2, p, s⟩) 54)) w.heap.size (OpV.cells ⟨8, a, n, num, A2, c2, p, s⟩).toList 54 := Blk.new w _ _
  have HP1 := Lib.hid (And.intro (q.below hq hb1) hb1)
  have HLT := Lib.hid (And.intro hq.hr.lt hq.hu.lt)
  clear hq hb1
  have q0 := hk1.cell 3 (.int .i64 num) rfl
  have HK1 := Lib.hid hk1
  clear hk1
  show Calls Try.prog 88 #[.pointer (some ⟨gs, 0, none⟩), .pointer (some ⟨q.g, 0, none⟩), .pointer (some ⟨q.gv, 0, none⟩), .agg #[.int .i64 8, .int .i64 a, .int .u64 (n : Int), .int .i64 num, .slice A2 p.length c2, .string s]] w _
  go_enter Try.func88, Try.ntmps88
  go_wp2_with fail
  refine (rSeal base q.g q.A q.c bs q.at_ q.e _ HP1.out.1.hr num).mono ?_
  rintro r w2 ⟨rfl, hR2, hF2⟩
  have hU2 := HP1.out.1.hu.past_r HP1.out.1.hr hF2
  have hk2 := HK1.out.fr hF2 (fun h => by have := HLT.out.1; omega)
  clear q0
  have q0 := hk2.cell 3 (.int .i64 num) rfl
  have H2 := Lib.hid (And.intro hR2 (And.intro hU2 hF2))
  clear hR2 hU2 hF2 hk2
  go_wp2_with fail
  refine (uSeal base q.gv A0 c0 bs q.at_ q.e _ H2.out.2.1 num).mono ?_
  rintro r w3 ⟨rfl, hU3, hF3⟩
  have hR3 := H2.out.1.past_u H2.out.2.1 hF3
  have H3 := Lib.hid (And.intro hR3 (And.intro hU3 (Fr.two HP1.out.2 H2.out.2.2 hF3)))
  clear hR3 hU3 hF3 q0
  go_wp2_with fail
  go_ret
  exact ⟨rfl, ⟨H3.out.1, H3.out.2.1⟩, H3.out.2.2⟩

set_option maxHeartbeats 3200000 in
set_option maxRecDepth 100000 in
theorem takesX (kd : Int) (h1 : (kd == 1) = false) (h2 : (kd == 2) = false) (h3 : (kd == 3) = false) (h4 : (kd == 4) = false) (h5 : (kd == 5) = false) (h6 : (kd == 6) = false) (h7 : (kd == 7) = false) (h8 : (kd == 8) = false) :
    Calls Try.prog 88 #[.pointer (some ⟨gs, 0, none⟩), .pointer (some ⟨q.g, 0, none⟩), .pointer (some ⟨q.gv, 0, none⟩), OpV.val ⟨kd, a, n, num, A2, c2, p, s⟩] w fun r w' => r = .returned (.bool true) ∧ Rp.ok ⟨q.g, q.A, q.c, q.gv, q.at_, q.e⟩ w' base A0 c0 bs ∧ Fr q.S w w' := by
  have hb1 : Below w.heap.size w (w.alloc (.cells (OpV.cells ⟨kd, a, n, num, A2, c2, p, s⟩) 54)) := below_alloc (Below.refl _ w) _
  have HP1 := Lib.hid (And.intro (q.below hq hb1) (Fr.of_below hb1 q.S))
  clear hq hb1
  show Calls Try.prog 88 #[.pointer (some ⟨gs, 0, none⟩), .pointer (some ⟨q.g, 0, none⟩), .pointer (some ⟨q.gv, 0, none⟩), .agg #[.int .i64 kd, .int .i64 a, .int .u64 (n : Int), .int .i64 num, .slice A2 p.length c2, .string s]] w _
  go_enter Try.func88, Try.ntmps88
  go_wp2_with fail
  go_ret
  exact ⟨rfl, HP1.out.1, HP1.out.2⟩
end
end Go.Proofs.Ythdjddpomaendaa.B
