/- Steps (Op): again, kind by kind. Printed by gen_o.py. -/
import Derived.Test.YthdjddpomaendaaO1
namespace Go.Proofs.Ythdjddpomaendaa.B
open Go.RowKit
set_option linter.unusedVariables false
set_option linter.unusedSimpArgs false
section
variable (base g : Nat) (A : Option Addr) (c : Nat) (bs : List UInt8) (at_ : Nat) (e : Int) (w : World) (hR : IsR w base g A c bs at_ e) (a : Int) (n : Nat) (num : Int) (A2 : Option Addr) (c2 : Nat) (p : List UInt8) (s : ByteArray)
include hR
set_option maxHeartbeats 3200000 in
set_option maxRecDepth 100000 in
theorem again1 : Calls Try.prog 57 #[.pointer (some ⟨g, 0, none⟩), OpV.val ⟨1, a, n, num, A2, c2, p, s⟩] w fun r w' => ∃ o' : OpV, r = .returned o'.val ∧ IsR w' base g A c bs (stepA 1 bs at_ e) (shortE 1 bs at_ e) ∧ Fr (fun k => k = g) w w' ∧ o' = ⟨1, 0, numV 1 bs at_ e, num, none, 0, [], ByteArray.empty⟩ := by
  have hb3 : Below w.heap.size w (((w.alloc (.cells (OpV.cells ⟨1, a, n, num, A2, c2, p, s⟩) 54)).alloc (.cells (OpV.cells ⟨0, 0, 0, 0, none, 0, [], ByteArray.empty⟩) 54)).alloc (.cells (OpV.cells ⟨1, 0, 0, num, none, 0, [], ByteArray.empty⟩) 54)) := below_alloc (below_alloc (below_alloc (Below.refl _ w) _) _) _
  have hk2 := (Blk.new (w.alloc (.cells (OpV.cells ⟨1, a, n, num, A2, c2, p, s⟩) 54)) (OpV.cells ⟨0, 0, 0, 0, none, 0, [], ByteArray.empty⟩).toList 54).alloc (.cells (OpV.cells ⟨1, 0, 0, num, none, 0, [], ByteArray.empty⟩) 54)
  have hk3 := Blk.new ((w.alloc (.cells (OpV.cells ⟨1, a, n, num, A2, c2, p, s⟩) 54)).alloc (.cells (OpV.cells ⟨0, 0, 0, 0, none, 0, [], ByteArray.empty⟩) 54)) (OpV.cells ⟨1, 0, 0, num, none, 0, [], ByteArray.empty⟩).toList 54
  have hg := hR.lt
  have hov := hR.own_lt
  show Calls Try.prog 57 #[.pointer (some ⟨g, 0, none⟩), .agg #[.int .i64 1, .int .i64 a, .int .u64 (n : Int), .int .i64 num, .slice A2 p.length c2, .string s]] w _
  go_enter Try.func57, Try.ntmps57
  go_wp2_with fail
  refine (rByte base g A c bs at_ e _ (hR.below hb3)).mono ?_
  rintro r w2 ⟨rfl, hR2, hF⟩
  have hF2 : Fr (fun k => k = g) w w2 := (Fr.of_below hb3 _).trans_g hF
  have hk22 := hk2.fr hF (by simp; omega)
  have hk32 := hk3.fr hF (by simp; omega)
  clear hk2 hk3 hb3 hF
  have c30 := hk32.cell 0 _ rfl
  have c31 := hk32.cell 1 _ rfl
  have c32 := hk32.cell 2 _ rfl
  have c33 := hk32.cell 3 _ rfl
  have c34 := hk32.cell 4 _ rfl
  have c35 := hk32.cell 5 _ rfl
  have f32 := hk32.free 2
  have f34 := hk32.free 4
  have f35 := hk32.free 5
  have f20 := hk22.free 0
  have f21 := hk22.free 1
  have f22 := hk22.free 2
  have f23 := hk22.free 3
  have f24 := hk22.free 4
  have f25 := hk22.free 5
  have c20 := hk22.cell 0 _ rfl
  have c21 := hk22.cell 1 _ rfl
  have c22 := hk22.cell 2 _ rfl
  have c23 := hk22.cell 3 _ rfl
  have c24 := hk22.cell 4 _ rfl
  have c25 := hk22.cell 5 _ rfl
  simp at c30 c31 c32 c33 c34 c35 f32 f34 f35 f20 f21 f22 f23 f24 f25 c20 c21 c22 c23 c24 c25
  have hk2' : Blk w2 (w.heap.size + 1) (OpV.cells ⟨0, 0, 0, 0, none, 0, [], ByteArray.empty⟩).toList 54 := by simpa using hk22
  clear hk22 hk32
  have hq : IntKind.u64.wrap ((numV 1 bs at_ e : Nat) : Int) = ((numV 1 bs at_ e : Nat) : Int) := by
    have := numV_lt 1 bs at_ e
    rw [IntKind.wrap_u64]
    omega
  go_wp2_with fail
  (try simp only [Exit.inBlock, Exit.then])
  have hkf := putOp_blk (hk2'.other (p := ⟨w.heap.size + 1 + 1, 2, none⟩) (by simp) (.int .u64 ((numV 1 bs at_ e : Nat) : Int))) ⟨1, 0, numV 1 bs at_ e, num, none, 0, [], ByteArray.empty⟩
  refine bodyPost_ret (v := OpV.val ⟨1, 0, numV 1 bs at_ e, num, none, 0, [], ByteArray.empty⟩) (results_op rfl _ _ (w.heap.size + 1) _ rfl hkf) rfl ?_
  · have hE := op_end (S := fun _ => False) hR2 hF2 hg hov (putOp_fr ((Fr.refl (fun k => w.heap.size ≤ k) w2).setCell (p := ⟨w.heap.size + 1 + 1, 2, none⟩) (.inl (by show w.heap.size ≤ w.heap.size + 1 + 1; omega)) (.int .u64 ((numV 1 bs at_ e : Nat) : Int))) (.inl (by show w.heap.size ≤ w.heap.size + 1; omega)) ⟨1, 0, numV 1 bs at_ e, num, none, 0, [], ByteArray.empty⟩)
    exact ⟨_, rfl, hE.1, hE.2, rfl⟩
set_option maxHeartbeats 3200000 in
set_option maxRecDepth 100000 in
theorem again2 : Calls Try.prog 57 #[.pointer (some ⟨g, 0, none⟩), OpV.val ⟨2, a, n, num, A2, c2, p, s⟩] w fun r w' => ∃ o' : OpV, r = .returned o'.val ∧ IsR w' base g A c bs (stepA 2 bs at_ e) (shortE 2 bs at_ e) ∧ Fr (fun k => k = g) w w' ∧ o' = ⟨2, 0, numV 2 bs at_ e, num, none, 0, [], ByteArray.empty⟩ := by
  have hb3 : Below w.heap.size w (((w.alloc (.cells (OpV.cells ⟨2, a, n, num, A2, c2, p, s⟩) 54)).alloc (.cells (OpV.cells ⟨0, 0, 0, 0, none, 0, [], ByteArray.empty⟩) 54)).alloc (.cells (OpV.cells ⟨2, 0, 0, num, none, 0, [], ByteArray.empty⟩) 54)) := below_alloc (below_alloc (below_alloc (Below.refl _ w) _) _) _
  have hk2 := (Blk.new (w.alloc (.cells (OpV.cells ⟨2, a, n, num, A2, c2, p, s⟩) 54)) (OpV.cells ⟨0, 0, 0, 0, none, 0, [], ByteArray.empty⟩).toList 54).alloc (.cells (OpV.cells ⟨2, 0, 0, num, none, 0, [], ByteArray.empty⟩) 54)
  have hk3 := Blk.new ((w.alloc (.cells (OpV.cells ⟨2, a, n, num, A2, c2, p, s⟩) 54)).alloc (.cells (OpV.cells ⟨0, 0, 0, 0, none, 0, [], ByteArray.empty⟩) 54)) (OpV.cells ⟨2, 0, 0, num, none, 0, [], ByteArray.empty⟩).toList 54
  have hg := hR.lt
  have hov := hR.own_lt
  show Calls Try.prog 57 #[.pointer (some ⟨g, 0, none⟩), .agg #[.int .i64 2, .int .i64 a, .int .u64 (n : Int), .int .i64 num, .slice A2 p.length c2, .string s]] w _
  go_enter Try.func57, Try.ntmps57
  go_wp2_with fail
  refine (rHalf base g A c bs at_ e _ (hR.below hb3)).mono ?_
  rintro r w2 ⟨rfl, hR2, hF⟩
  have hF2 : Fr (fun k => k = g) w w2 := (Fr.of_below hb3 _).trans_g hF
  have hk22 := hk2.fr hF (by simp; omega)
  have hk32 := hk3.fr hF (by simp; omega)
  clear hk2 hk3 hb3 hF
  have c30 := hk32.cell 0 _ rfl
  have c31 := hk32.cell 1 _ rfl
  have c32 := hk32.cell 2 _ rfl
  have c33 := hk32.cell 3 _ rfl
  have c34 := hk32.cell 4 _ rfl
  have c35 := hk32.cell 5 _ rfl
  have f32 := hk32.free 2
  have f34 := hk32.free 4
  have f35 := hk32.free 5
  have f20 := hk22.free 0
  have f21 := hk22.free 1
  have f22 := hk22.free 2
  have f23 := hk22.free 3
  have f24 := hk22.free 4
  have f25 := hk22.free 5
  have c20 := hk22.cell 0 _ rfl
  have c21 := hk22.cell 1 _ rfl
  have c22 := hk22.cell 2 _ rfl
  have c23 := hk22.cell 3 _ rfl
  have c24 := hk22.cell 4 _ rfl
  have c25 := hk22.cell 5 _ rfl
  simp at c30 c31 c32 c33 c34 c35 f32 f34 f35 f20 f21 f22 f23 f24 f25 c20 c21 c22 c23 c24 c25
  have hk2' : Blk w2 (w.heap.size + 1) (OpV.cells ⟨0, 0, 0, 0, none, 0, [], ByteArray.empty⟩).toList 54 := by simpa using hk22
  clear hk22 hk32
  have hq : IntKind.u64.wrap ((numV 2 bs at_ e : Nat) : Int) = ((numV 2 bs at_ e : Nat) : Int) := by
    have := numV_lt 2 bs at_ e
    rw [IntKind.wrap_u64]
    omega
  go_wp2_with fail
  (try simp only [Exit.inBlock, Exit.then])
  have hkf := putOp_blk (hk2'.other (p := ⟨w.heap.size + 1 + 1, 2, none⟩) (by simp) (.int .u64 ((numV 2 bs at_ e : Nat) : Int))) ⟨2, 0, numV 2 bs at_ e, num, none, 0, [], ByteArray.empty⟩
  refine bodyPost_ret (v := OpV.val ⟨2, 0, numV 2 bs at_ e, num, none, 0, [], ByteArray.empty⟩) (results_op rfl _ _ (w.heap.size + 1) _ rfl hkf) rfl ?_
  · have hE := op_end (S := fun _ => False) hR2 hF2 hg hov (putOp_fr ((Fr.refl (fun k => w.heap.size ≤ k) w2).setCell (p := ⟨w.heap.size + 1 + 1, 2, none⟩) (.inl (by show w.heap.size ≤ w.heap.size + 1 + 1; omega)) (.int .u64 ((numV 2 bs at_ e : Nat) : Int))) (.inl (by show w.heap.size ≤ w.heap.size + 1; omega)) ⟨2, 0, numV 2 bs at_ e, num, none, 0, [], ByteArray.empty⟩)
    exact ⟨_, rfl, hE.1, hE.2, rfl⟩
set_option maxHeartbeats 3200000 in
set_option maxRecDepth 100000 in
theorem again3 : Calls Try.prog 57 #[.pointer (some ⟨g, 0, none⟩), OpV.val ⟨3, a, n, num, A2, c2, p, s⟩] w fun r w' => ∃ o' : OpV, r = .returned o'.val ∧ IsR w' base g A c bs (stepA 4 bs at_ e) (shortE 4 bs at_ e) ∧ Fr (fun k => k = g) w w' ∧ o' = ⟨3, 0, numV 4 bs at_ e, num, none, 0, [], ByteArray.empty⟩ := by
  have hb3 : Below w.heap.size w (((w.alloc (.cells (OpV.cells ⟨3, a, n, num, A2, c2, p, s⟩) 54)).alloc (.cells (OpV.cells ⟨0, 0, 0, 0, none, 0, [], ByteArray.empty⟩) 54)).alloc (.cells (OpV.cells ⟨3, 0, 0, num, none, 0, [], ByteArray.empty⟩) 54)) := below_alloc (below_alloc (below_alloc (Below.refl _ w) _) _) _
  have hk2 := (Blk.new (w.alloc (.cells (OpV.cells ⟨3, a, n, num, A2, c2, p, s⟩) 54)) (OpV.cells ⟨0, 0, 0, 0, none, 0, [], ByteArray.empty⟩).toList 54).alloc (.cells (OpV.cells ⟨3, 0, 0, num, none, 0, [], ByteArray.empty⟩) 54)
  have hk3 := Blk.new ((w.alloc (.cells (OpV.cells ⟨3, a, n, num, A2, c2, p, s⟩) 54)).alloc (.cells (OpV.cells ⟨0, 0, 0, 0, none, 0, [], ByteArray.empty⟩) 54)) (OpV.cells ⟨3, 0, 0, num, none, 0, [], ByteArray.empty⟩).toList 54
  have hg := hR.lt
  have hov := hR.own_lt
  show Calls Try.prog 57 #[.pointer (some ⟨g, 0, none⟩), .agg #[.int .i64 3, .int .i64 a, .int .u64 (n : Int), .int .i64 num, .slice A2 p.length c2, .string s]] w _
  go_enter Try.func57, Try.ntmps57
  go_wp2_with fail
  refine (rWord base g A c bs at_ e _ (hR.below hb3)).mono ?_
  rintro r w2 ⟨rfl, hR2, hF⟩
  have hF2 : Fr (fun k => k = g) w w2 := (Fr.of_below hb3 _).trans_g hF
  have hk22 := hk2.fr hF (by simp; omega)
  have hk32 := hk3.fr hF (by simp; omega)
  clear hk2 hk3 hb3 hF
  have c30 := hk32.cell 0 _ rfl
  have c31 := hk32.cell 1 _ rfl
  have c32 := hk32.cell 2 _ rfl
  have c33 := hk32.cell 3 _ rfl
  have c34 := hk32.cell 4 _ rfl
  have c35 := hk32.cell 5 _ rfl
  have f32 := hk32.free 2
  have f34 := hk32.free 4
  have f35 := hk32.free 5
  have f20 := hk22.free 0
  have f21 := hk22.free 1
  have f22 := hk22.free 2
  have f23 := hk22.free 3
  have f24 := hk22.free 4
  have f25 := hk22.free 5
  have c20 := hk22.cell 0 _ rfl
  have c21 := hk22.cell 1 _ rfl
  have c22 := hk22.cell 2 _ rfl
  have c23 := hk22.cell 3 _ rfl
  have c24 := hk22.cell 4 _ rfl
  have c25 := hk22.cell 5 _ rfl
  simp at c30 c31 c32 c33 c34 c35 f32 f34 f35 f20 f21 f22 f23 f24 f25 c20 c21 c22 c23 c24 c25
  have hk2' : Blk w2 (w.heap.size + 1) (OpV.cells ⟨0, 0, 0, 0, none, 0, [], ByteArray.empty⟩).toList 54 := by simpa using hk22
  clear hk22 hk32
  have hq : IntKind.u64.wrap ((numV 4 bs at_ e : Nat) : Int) = ((numV 4 bs at_ e : Nat) : Int) := by
    have := numV_lt 4 bs at_ e
    rw [IntKind.wrap_u64]
    omega
  go_wp2_with fail
  (try simp only [Exit.inBlock, Exit.then])
  have hkf := putOp_blk (hk2'.other (p := ⟨w.heap.size + 1 + 1, 2, none⟩) (by simp) (.int .u64 ((numV 4 bs at_ e : Nat) : Int))) ⟨3, 0, numV 4 bs at_ e, num, none, 0, [], ByteArray.empty⟩
  refine bodyPost_ret (v := OpV.val ⟨3, 0, numV 4 bs at_ e, num, none, 0, [], ByteArray.empty⟩) (results_op rfl _ _ (w.heap.size + 1) _ rfl hkf) rfl ?_
  · have hE := op_end (S := fun _ => False) hR2 hF2 hg hov (putOp_fr ((Fr.refl (fun k => w.heap.size ≤ k) w2).setCell (p := ⟨w.heap.size + 1 + 1, 2, none⟩) (.inl (by show w.heap.size ≤ w.heap.size + 1 + 1; omega)) (.int .u64 ((numV 4 bs at_ e : Nat) : Int))) (.inl (by show w.heap.size ≤ w.heap.size + 1; omega)) ⟨3, 0, numV 4 bs at_ e, num, none, 0, [], ByteArray.empty⟩)
    exact ⟨_, rfl, hE.1, hE.2, rfl⟩
set_option maxHeartbeats 3200000 in
set_option maxRecDepth 100000 in
theorem again4 : Calls Try.prog 57 #[.pointer (some ⟨g, 0, none⟩), OpV.val ⟨4, a, n, num, A2, c2, p, s⟩] w fun r w' => ∃ o' : OpV, r = .returned o'.val ∧ IsR w' base g A c bs (stepA 8 bs at_ e) (shortE 8 bs at_ e) ∧ Fr (fun k => k = g) w w' ∧ o' = ⟨4, 0, numV 8 bs at_ e, num, none, 0, [], ByteArray.empty⟩ := by
  have hb3 : Below w.heap.size w (((w.alloc (.cells (OpV.cells ⟨4, a, n, num, A2, c2, p, s⟩) 54)).alloc (.cells (OpV.cells ⟨0, 0, 0, 0, none, 0, [], ByteArray.empty⟩) 54)).alloc (.cells (OpV.cells ⟨4, 0, 0, num, none, 0, [], ByteArray.empty⟩) 54)) := below_alloc (below_alloc (below_alloc (Below.refl _ w) _) _) _
  have hk2 := (Blk.new (w.alloc (.cells (OpV.cells ⟨4, a, n, num, A2, c2, p, s⟩) 54)) (OpV.cells ⟨0, 0, 0, 0, none, 0, [], ByteArray.empty⟩).toList 54).alloc (.cells (OpV.cells ⟨4, 0, 0, num, none, 0, [], ByteArray.empty⟩) 54)
  have hk3 := Blk.new ((w.alloc (.cells (OpV.cells ⟨4, a, n, num, A2, c2, p, s⟩) 54)).alloc (.cells (OpV.cells ⟨0, 0, 0, 0, none, 0, [], ByteArray.empty⟩) 54)) (OpV.cells ⟨4, 0, 0, num, none, 0, [], ByteArray.empty⟩).toList 54
  have hg := hR.lt
  have hov := hR.own_lt
  show Calls Try.prog 57 #[.pointer (some ⟨g, 0, none⟩), .agg #[.int .i64 4, .int .i64 a, .int .u64 (n : Int), .int .i64 num, .slice A2 p.length c2, .string s]] w _
  go_enter Try.func57, Try.ntmps57
  go_wp2_with fail
  refine (rLong base g A c bs at_ e _ (hR.below hb3)).mono ?_
  rintro r w2 ⟨rfl, hR2, hF⟩
  have hF2 : Fr (fun k => k = g) w w2 := (Fr.of_below hb3 _).trans_g hF
  have hk22 := hk2.fr hF (by simp; omega)
  have hk32 := hk3.fr hF (by simp; omega)
  clear hk2 hk3 hb3 hF
  have c30 := hk32.cell 0 _ rfl
  have c31 := hk32.cell 1 _ rfl
  have c32 := hk32.cell 2 _ rfl
  have c33 := hk32.cell 3 _ rfl
  have c34 := hk32.cell 4 _ rfl
  have c35 := hk32.cell 5 _ rfl
  have f32 := hk32.free 2
  have f34 := hk32.free 4
  have f35 := hk32.free 5
  have f20 := hk22.free 0
  have f21 := hk22.free 1
  have f22 := hk22.free 2
  have f23 := hk22.free 3
  have f24 := hk22.free 4
  have f25 := hk22.free 5
  have c20 := hk22.cell 0 _ rfl
  have c21 := hk22.cell 1 _ rfl
  have c22 := hk22.cell 2 _ rfl
  have c23 := hk22.cell 3 _ rfl
  have c24 := hk22.cell 4 _ rfl
  have c25 := hk22.cell 5 _ rfl
  simp at c30 c31 c32 c33 c34 c35 f32 f34 f35 f20 f21 f22 f23 f24 f25 c20 c21 c22 c23 c24 c25
  have hk2' : Blk w2 (w.heap.size + 1) (OpV.cells ⟨0, 0, 0, 0, none, 0, [], ByteArray.empty⟩).toList 54 := by simpa using hk22
  clear hk22 hk32
  have hq : IntKind.u64.wrap ((numV 8 bs at_ e : Nat) : Int) = ((numV 8 bs at_ e : Nat) : Int) := by
    have := numV_lt 8 bs at_ e
    rw [IntKind.wrap_u64]
    omega
  go_wp2_with fail
  (try simp only [Exit.inBlock, Exit.then])
  have hkf := putOp_blk (hk2'.other (p := ⟨w.heap.size + 1 + 1, 2, none⟩) (by simp) (.int .u64 ((numV 8 bs at_ e : Nat) : Int))) ⟨4, 0, numV 8 bs at_ e, num, none, 0, [], ByteArray.empty⟩
  refine bodyPost_ret (v := OpV.val ⟨4, 0, numV 8 bs at_ e, num, none, 0, [], ByteArray.empty⟩) (results_op rfl _ _ (w.heap.size + 1) _ rfl hkf) rfl ?_
  · have hE := op_end (S := fun _ => False) hR2 hF2 hg hov (putOp_fr ((Fr.refl (fun k => w.heap.size ≤ k) w2).setCell (p := ⟨w.heap.size + 1 + 1, 2, none⟩) (.inl (by show w.heap.size ≤ w.heap.size + 1 + 1; omega)) (.int .u64 ((numV 8 bs at_ e : Nat) : Int))) (.inl (by show w.heap.size ≤ w.heap.size + 1; omega)) ⟨4, 0, numV 8 bs at_ e, num, none, 0, [], ByteArray.empty⟩)
    exact ⟨_, rfl, hE.1, hE.2, rfl⟩
set_option maxHeartbeats 3200000 in
set_option maxRecDepth 100000 in
theorem again7 : Calls Try.prog 57 #[.pointer (some ⟨g, 0, none⟩), OpV.val ⟨7, a, n, num, A2, c2, p, s⟩] w fun r w' => ∃ o' : OpV, r = .returned o'.val ∧ IsR w' base g A c bs (rpadA num bs at_ e) (rpadE num bs at_ e) ∧ Fr (fun k => k = g) w w' ∧ o' = ⟨7, 0, 0, num, none, 0, [], ByteArray.empty⟩ := by
  have hb3 : Below w.heap.size w (((w.alloc (.cells (OpV.cells ⟨7, a, n, num, A2, c2, p, s⟩) 54)).alloc (.cells (OpV.cells ⟨0, 0, 0, 0, none, 0, [], ByteArray.empty⟩) 54)).alloc (.cells (OpV.cells ⟨7, 0, 0, num, none, 0, [], ByteArray.empty⟩) 54)) := below_alloc (below_alloc (below_alloc (Below.refl _ w) _) _) _
  have hk2 := (Blk.new (w.alloc (.cells (OpV.cells ⟨7, a, n, num, A2, c2, p, s⟩) 54)) (OpV.cells ⟨0, 0, 0, 0, none, 0, [], ByteArray.empty⟩).toList 54).alloc (.cells (OpV.cells ⟨7, 0, 0, num, none, 0, [], ByteArray.empty⟩) 54)
  have hk3 := Blk.new ((w.alloc (.cells (OpV.cells ⟨7, a, n, num, A2, c2, p, s⟩) 54)).alloc (.cells (OpV.cells ⟨0, 0, 0, 0, none, 0, [], ByteArray.empty⟩) 54)) (OpV.cells ⟨7, 0, 0, num, none, 0, [], ByteArray.empty⟩).toList 54
  have hg := hR.lt
  have hov := hR.own_lt
  show Calls Try.prog 57 #[.pointer (some ⟨g, 0, none⟩), .agg #[.int .i64 7, .int .i64 a, .int .u64 (n : Int), .int .i64 num, .slice A2 p.length c2, .string s]] w _
  go_enter Try.func57, Try.ntmps57
  go_wp2_with fail
  refine (rPad base g A c bs at_ e _ (hR.below hb3) num).mono ?_
  rintro r w2 ⟨rfl, hR2, hF⟩
  have hF2 : Fr (fun k => k = g) w w2 := (Fr.of_below hb3 _).trans_g hF
  have hk22 := hk2.fr hF (by simp; omega)
  have hk32 := hk3.fr hF (by simp; omega)
  clear hk2 hk3 hb3 hF
  have c30 := hk32.cell 0 _ rfl
  have c31 := hk32.cell 1 _ rfl
  have c32 := hk32.cell 2 _ rfl
  have c33 := hk32.cell 3 _ rfl
  have c34 := hk32.cell 4 _ rfl
  have c35 := hk32.cell 5 _ rfl
  have f32 := hk32.free 2
  have f34 := hk32.free 4
  have f35 := hk32.free 5
  have f20 := hk22.free 0
  have f21 := hk22.free 1
  have f22 := hk22.free 2
  have f23 := hk22.free 3
  have f24 := hk22.free 4
  have f25 := hk22.free 5
  have c20 := hk22.cell 0 _ rfl
  have c21 := hk22.cell 1 _ rfl
  have c22 := hk22.cell 2 _ rfl
  have c23 := hk22.cell 3 _ rfl
  have c24 := hk22.cell 4 _ rfl
  have c25 := hk22.cell 5 _ rfl
  simp at c30 c31 c32 c33 c34 c35 f32 f34 f35 f20 f21 f22 f23 f24 f25 c20 c21 c22 c23 c24 c25
  have hk2' : Blk w2 (w.heap.size + 1) (OpV.cells ⟨0, 0, 0, 0, none, 0, [], ByteArray.empty⟩).toList 54 := by simpa using hk22
  clear hk22 hk32
  go_wp2_with fail
  (try simp only [Exit.inBlock, Exit.then])
  have hkf := putOp_blk (hk2') ⟨7, 0, 0, num, none, 0, [], ByteArray.empty⟩
  refine bodyPost_ret (v := OpV.val ⟨7, 0, 0, num, none, 0, [], ByteArray.empty⟩) (results_op rfl _ _ (w.heap.size + 1) _ rfl hkf) rfl ?_
  · have hE := op_end (S := fun _ => False) hR2 hF2 hg hov (putOp_fr (Fr.refl (fun k => w.heap.size ≤ k) w2) (.inl (by show w.heap.size ≤ w.heap.size + 1; omega)) ⟨7, 0, 0, num, none, 0, [], ByteArray.empty⟩)
    exact ⟨_, rfl, hE.1, hE.2, rfl⟩
set_option maxHeartbeats 3200000 in
set_option maxRecDepth 100000 in
theorem again8 : Calls Try.prog 57 #[.pointer (some ⟨g, 0, none⟩), OpV.val ⟨8, a, n, num, A2, c2, p, s⟩] w fun r w' => ∃ o' : OpV, r = .returned o'.val ∧ IsR w' base g A c bs (rsealA num bs at_ e) (rsealE num bs at_ e) ∧ Fr (fun k => k = g) w w' ∧ o' = ⟨8, 0, 0, num, none, 0, [], ByteArray.empty⟩ := by
  have hb3 : Below w.heap.size w (((w.alloc (.cells (OpV.cells ⟨8, a, n, num, A2, c2, p, s⟩) 54)).alloc (.cells (OpV.cells ⟨0, 0, 0, 0, none, 0, [], ByteArray.empty⟩) 54)).alloc (.cells (OpV.cells ⟨8, 0, 0, num, none, 0, [], ByteArray.empty⟩) 54)) := below_alloc (below_alloc (below_alloc (Below.refl _ w) _) _) _
  have hk2 := (Blk.new (w.alloc (.cells (OpV.cells ⟨8, a, n, num, A2, c2, p, s⟩) 54)) (OpV.cells ⟨0, 0, 0, 0, none, 0, [], ByteArray.empty⟩).toList 54).alloc (.cells (OpV.cells ⟨8, 0, 0, num, none, 0, [], ByteArray.empty⟩) 54)
  have hk3 := Blk.new ((w.alloc (.cells (OpV.cells ⟨8, a, n, num, A2, c2, p, s⟩) 54)).alloc (.cells (OpV.cells ⟨0, 0, 0, 0, none, 0, [], ByteArray.empty⟩) 54)) (OpV.cells ⟨8, 0, 0, num, none, 0, [], ByteArray.empty⟩).toList 54
  have hg := hR.lt
  have hov := hR.own_lt
  show Calls Try.prog 57 #[.pointer (some ⟨g, 0, none⟩), .agg #[.int .i64 8, .int .i64 a, .int .u64 (n : Int), .int .i64 num, .slice A2 p.length c2, .string s]] w _
  go_enter Try.func57, Try.ntmps57
  go_wp2_with fail
  refine (rSeal base g A c bs at_ e _ (hR.below hb3) num).mono ?_
  rintro r w2 ⟨rfl, hR2, hF⟩
  have hF2 : Fr (fun k => k = g) w w2 := (Fr.of_below hb3 _).trans_g hF
  have hk22 := hk2.fr hF (by simp; omega)
  have hk32 := hk3.fr hF (by simp; omega)
  clear hk2 hk3 hb3 hF
  have c30 := hk32.cell 0 _ rfl
  have c31 := hk32.cell 1 _ rfl
  have c32 := hk32.cell 2 _ rfl
  have c33 := hk32.cell 3 _ rfl
  have c34 := hk32.cell 4 _ rfl
  have c35 := hk32.cell 5 _ rfl
  have f32 := hk32.free 2
  have f34 := hk32.free 4
  have f35 := hk32.free 5
  have f20 := hk22.free 0
  have f21 := hk22.free 1
  have f22 := hk22.free 2
  have f23 := hk22.free 3
  have f24 := hk22.free 4
  have f25 := hk22.free 5
  have c20 := hk22.cell 0 _ rfl
  have c21 := hk22.cell 1 _ rfl
  have c22 := hk22.cell 2 _ rfl
  have c23 := hk22.cell 3 _ rfl
  have c24 := hk22.cell 4 _ rfl
  have c25 := hk22.cell 5 _ rfl
  simp at c30 c31 c32 c33 c34 c35 f32 f34 f35 f20 f21 f22 f23 f24 f25 c20 c21 c22 c23 c24 c25
  have hk2' : Blk w2 (w.heap.size + 1) (OpV.cells ⟨0, 0, 0, 0, none, 0, [], ByteArray.empty⟩).toList 54 := by simpa using hk22
  clear hk22 hk32
  go_wp2_with fail
  (try simp only [Exit.inBlock, Exit.then])
  have hkf := putOp_blk (hk2') ⟨8, 0, 0, num, none, 0, [], ByteArray.empty⟩
  refine bodyPost_ret (v := OpV.val ⟨8, 0, 0, num, none, 0, [], ByteArray.empty⟩) (results_op rfl _ _ (w.heap.size + 1) _ rfl hkf) rfl ?_
  · have hE := op_end (S := fun _ => False) hR2 hF2 hg hov (putOp_fr (Fr.refl (fun k => w.heap.size ≤ k) w2) (.inl (by show w.heap.size ≤ w.heap.size + 1; omega)) ⟨8, 0, 0, num, none, 0, [], ByteArray.empty⟩)
    exact ⟨_, rfl, hE.1, hE.2, rfl⟩
set_option maxHeartbeats 3200000 in
set_option maxRecDepth 100000 in
theorem again6 : Calls Try.prog 57 #[.pointer (some ⟨g, 0, none⟩), OpV.val ⟨6, a, n, num, A2, c2, p, s⟩] w fun r w' => ∃ o' : OpV, r = .returned o'.val ∧ IsR w' base g A c bs (rtextA (s.size : Int) bs at_ e) (rtextE (s.size : Int) bs at_ e) ∧ Fr (fun k => k = g) w w' ∧ o' = ⟨6, 0, 0, num, none, 0, [], mkS (rtextL (s.size : Int) bs at_ e)⟩ := by
  have hb3 : Below w.heap.size w (((w.alloc (.cells (OpV.cells ⟨6, a, n, num, A2, c2, p, s⟩) 54)).alloc (.cells (OpV.cells ⟨0, 0, 0, 0, none, 0, [], ByteArray.empty⟩) 54)).alloc (.cells (OpV.cells ⟨6, 0, 0, num, none, 0, [], ByteArray.empty⟩) 54)) := below_alloc (below_alloc (below_alloc (Below.refl _ w) _) _) _
  have hk2 := (Blk.new (w.alloc (.cells (OpV.cells ⟨6, a, n, num, A2, c2, p, s⟩) 54)) (OpV.cells ⟨0, 0, 0, 0, none, 0, [], ByteArray.empty⟩).toList 54).alloc (.cells (OpV.cells ⟨6, 0, 0, num, none, 0, [], ByteArray.empty⟩) 54)
  have hk3 := Blk.new ((w.alloc (.cells (OpV.cells ⟨6, a, n, num, A2, c2, p, s⟩) 54)).alloc (.cells (OpV.cells ⟨0, 0, 0, 0, none, 0, [], ByteArray.empty⟩) 54)) (OpV.cells ⟨6, 0, 0, num, none, 0, [], ByteArray.empty⟩).toList 54
  have hg := hR.lt
  have hov := hR.own_lt
  show Calls Try.prog 57 #[.pointer (some ⟨g, 0, none⟩), .agg #[.int .i64 6, .int .i64 a, .int .u64 (n : Int), .int .i64 num, .slice A2 p.length c2, .string s]] w _
  go_enter Try.func57, Try.ntmps57
  go_wp2_with fail
  refine (rText base g A c bs at_ e _ (hR.below hb3) (s.size : Int)).mono ?_
  rintro r w2 ⟨rfl, hR2, hF⟩
  have hF2 : Fr (fun k => k = g) w w2 := (Fr.of_below hb3 _).trans_g hF
  have hk22 := hk2.fr hF (by simp; omega)
  have hk32 := hk3.fr hF (by simp; omega)
  clear hk2 hk3 hb3 hF
  have c30 := hk32.cell 0 _ rfl
  have c31 := hk32.cell 1 _ rfl
  have c32 := hk32.cell 2 _ rfl
  have c33 := hk32.cell 3 _ rfl
  have c34 := hk32.cell 4 _ rfl
  have c35 := hk32.cell 5 _ rfl
  have f32 := hk32.free 2
  have f34 := hk32.free 4
  have f35 := hk32.free 5
  have f20 := hk22.free 0
  have f21 := hk22.free 1
  have f22 := hk22.free 2
  have f23 := hk22.free 3
  have f24 := hk22.free 4
  have f25 := hk22.free 5
  have c20 := hk22.cell 0 _ rfl
  have c21 := hk22.cell 1 _ rfl
  have c22 := hk22.cell 2 _ rfl
  have c23 := hk22.cell 3 _ rfl
  have c24 := hk22.cell 4 _ rfl
  have c25 := hk22.cell 5 _ rfl
  simp at c30 c31 c32 c33 c34 c35 f32 f34 f35 f20 f21 f22 f23 f24 f25 c20 c21 c22 c23 c24 c25
  have hk2' : Blk w2 (w.heap.size + 1) (OpV.cells ⟨0, 0, 0, 0, none, 0, [], ByteArray.empty⟩).toList 54 := by simpa using hk22
  clear hk22 hk32
  go_wp2_with fail
  (try simp only [Exit.inBlock, Exit.then])
  have hkf := putOp_blk (hk2'.other (p := ⟨w.heap.size + 1 + 1, 5, none⟩) (by simp) (.string (mkS (rtextL (s.size : Int) bs at_ e)))) ⟨6, 0, 0, num, none, 0, [], mkS (rtextL (s.size : Int) bs at_ e)⟩
  refine bodyPost_ret (v := OpV.val ⟨6, 0, 0, num, none, 0, [], mkS (rtextL (s.size : Int) bs at_ e)⟩) (results_op rfl _ _ (w.heap.size + 1) _ rfl hkf) rfl ?_
  · have hE := op_end (S := fun _ => False) hR2 hF2 hg hov (putOp_fr ((Fr.refl (fun k => w.heap.size ≤ k) w2).setCell (p := ⟨w.heap.size + 1 + 1, 5, none⟩) (.inl (by show w.heap.size ≤ w.heap.size + 1 + 1; omega)) (.string (mkS (rtextL (s.size : Int) bs at_ e)))) (.inl (by show w.heap.size ≤ w.heap.size + 1; omega)) ⟨6, 0, 0, num, none, 0, [], mkS (rtextL (s.size : Int) bs at_ e)⟩)
    exact ⟨_, rfl, hE.1, hE.2, rfl⟩
set_option maxHeartbeats 3200000 in
set_option maxRecDepth 100000 in
theorem again5 (hpl : p.length ≤ 9223372036854775807) : Calls Try.prog 57 #[.pointer (some ⟨g, 0, none⟩), OpV.val ⟨5, a, n, num, A2, c2, p, s⟩] w fun r w' => ∃ (o' : OpV) (A' : Option Addr) (c' : Nat), r = .returned o'.val ∧ Own w' w.heap.size (.slice A' (bytesV (p.length : Int) bs at_ e).length c') (bytesV (p.length : Int) bs at_ e) ∧ IsR w' base g A c bs (bytesA (p.length : Int) bs at_ e) (bytesE (p.length : Int) bs at_ e) ∧ Fr (fun k => k = g) w w' ∧ o' = ⟨5, 0, 0, num, A', c', bytesV (p.length : Int) bs at_ e, ByteArray.empty⟩ := by
  have hb3 : Below w.heap.size w (((w.alloc (.cells (OpV.cells ⟨5, a, n, num, A2, c2, p, s⟩) 54)).alloc (.cells (OpV.cells ⟨0, 0, 0, 0, none, 0, [], ByteArray.empty⟩) 54)).alloc (.cells (OpV.cells ⟨5, 0, 0, num, none, 0, [], ByteArray.empty⟩) 54)) := below_alloc (below_alloc (below_alloc (Below.refl _ w) _) _) _
  have hk2 := (Blk.new (w.alloc (.cells (OpV.cells ⟨5, a, n, num, A2, c2, p, s⟩) 54)) (OpV.cells ⟨0, 0, 0, 0, none, 0, [], ByteArray.empty⟩).toList 54).alloc (.cells (OpV.cells ⟨5, 0, 0, num, none, 0, [], ByteArray.empty⟩) 54)
  have hk3 := Blk.new ((w.alloc (.cells (OpV.cells ⟨5, a, n, num, A2, c2, p, s⟩) 54)).alloc (.cells (OpV.cells ⟨0, 0, 0, 0, none, 0, [], ByteArray.empty⟩) 54)) (OpV.cells ⟨5, 0, 0, num, none, 0, [], ByteArray.empty⟩).toList 54
  have hg := hR.lt
  have hov := hR.own_lt
  show Calls Try.prog 57 #[.pointer (some ⟨g, 0, none⟩), .agg #[.int .i64 5, .int .i64 a, .int .u64 (n : Int), .int .i64 num, .slice A2 p.length c2, .string s]] w _
  go_enter Try.func57, Try.ntmps57
  go_wp2_with fail
  refine (rBytes base g A c bs at_ e _ (hR.below hb3) (p.length : Int) (by omega)).mono ?_
  rintro r w2 ⟨A', n', c', rfl, rfl, hO, hR2, hF⟩
  have hO2 : Own w2 (w.heap.size + 3) (.slice A' (bytesV (p.length : Int) bs at_ e).length c') (bytesV (p.length : Int) bs at_ e) := hO.mono (by simp)
  have hF2 : Fr (fun k => k = g) w w2 := (Fr.of_below hb3 _).trans_g hF
  have hk22 := hk2.fr hF (by simp; omega)
  have hk32 := hk3.fr hF (by simp; omega)
  clear hk2 hk3 hb3 hF
  have c30 := hk32.cell 0 _ rfl
  have c31 := hk32.cell 1 _ rfl
  have c32 := hk32.cell 2 _ rfl
  have c33 := hk32.cell 3 _ rfl
  have c34 := hk32.cell 4 _ rfl
  have c35 := hk32.cell 5 _ rfl
  have f32 := hk32.free 2
  have f34 := hk32.free 4
  have f35 := hk32.free 5
  have f20 := hk22.free 0
  have f21 := hk22.free 1
  have f22 := hk22.free 2
  have f23 := hk22.free 3
  have f24 := hk22.free 4
  have f25 := hk22.free 5
  have c20 := hk22.cell 0 _ rfl
  have c21 := hk22.cell 1 _ rfl
  have c22 := hk22.cell 2 _ rfl
  have c23 := hk22.cell 3 _ rfl
  have c24 := hk22.cell 4 _ rfl
  have c25 := hk22.cell 5 _ rfl
  simp at c30 c31 c32 c33 c34 c35 f32 f34 f35 f20 f21 f22 f23 f24 f25 c20 c21 c22 c23 c24 c25
  have hk2' : Blk w2 (w.heap.size + 1) (OpV.cells ⟨0, 0, 0, 0, none, 0, [], ByteArray.empty⟩).toList 54 := by simpa using hk22
  clear hk22 hk32
  go_wp2_with fail
  (try simp only [Exit.inBlock, Exit.then])
  have hkf := putOp_blk (hk2'.other (p := ⟨w.heap.size + 1 + 1, 4, none⟩) (by simp) (.slice A' (bytesV (p.length : Int) bs at_ e).length c')) ⟨5, 0, 0, num, A', c', bytesV (p.length : Int) bs at_ e, ByteArray.empty⟩
  refine bodyPost_ret (v := OpV.val ⟨5, 0, 0, num, A', c', bytesV (p.length : Int) bs at_ e, ByteArray.empty⟩) (results_op rfl _ _ (w.heap.size + 1) _ rfl hkf) rfl ?_
  · have hE := op_end (S := fun _ => False) hR2 hF2 hg hov (putOp_fr ((Fr.refl (fun k => w.heap.size ≤ k) w2).setCell (p := ⟨w.heap.size + 1 + 1, 4, none⟩) (.inl (by show w.heap.size ≤ w.heap.size + 1 + 1; omega)) (.slice A' (bytesV (p.length : Int) bs at_ e).length c')) (.inl (by show w.heap.size ≤ w.heap.size + 1; omega)) ⟨5, 0, 0, num, A', c', bytesV (p.length : Int) bs at_ e, ByteArray.empty⟩)
    have hS : Fr (fun k => k < w.heap.size + 3) w2 _ := putOp_fr ((Fr.refl (fun k => k < w.heap.size + 3) w2).setCell (p := ⟨w.heap.size + 1 + 1, 4, none⟩) (.inl (by show w.heap.size + 1 + 1 < w.heap.size + 3; omega)) (.slice A' (bytesV (p.length : Int) bs at_ e).length c')) (.inl (by show w.heap.size + 1 < w.heap.size + 3; omega)) ⟨5, 0, 0, num, A', c', bytesV (p.length : Int) bs at_ e, ByteArray.empty⟩
    exact ⟨_, A', c', rfl, (hO2.fr hS (fun k hk => by have := (hO2.base_le k hk).1; omega)).mono (by omega), hE.1, hE.2, rfl⟩
set_option maxHeartbeats 3200000 in
set_option maxRecDepth 100000 in
theorem againX (kd : Int) (h1 : (kd == 1) = false) (h2 : (kd == 2) = false) (h3 : (kd == 3) = false) (h4 : (kd == 4) = false) (h5 : (kd == 5) = false) (h6 : (kd == 6) = false) (h7 : (kd == 7) = false) (h8 : (kd == 8) = false) : Calls Try.prog 57 #[.pointer (some ⟨g, 0, none⟩), OpV.val ⟨kd, a, n, num, A2, c2, p, s⟩] w fun r w' => ∃ o' : OpV, r = .returned o'.val ∧ IsR w' base g A c bs at_ e ∧ Fr (fun k => k = g) w w' ∧ o' = ⟨kd, 0, 0, num, none, 0, [], ByteArray.empty⟩ := by
  have hb3 : Below w.heap.size w (((w.alloc (.cells (OpV.cells ⟨kd, a, n, num, A2, c2, p, s⟩) 54)).alloc (.cells (OpV.cells ⟨kd, 0, 0, num, none, 0, [], ByteArray.empty⟩) 54)).alloc (.cells (OpV.cells ⟨kd, 0, 0, num, none, 0, [], ByteArray.empty⟩) 54)) := below_alloc (below_alloc (below_alloc (Below.refl _ w) _) _) _
  have hk2 : Blk (((w.alloc (.cells (OpV.cells ⟨kd, a, n, num, A2, c2, p, s⟩) 54)).alloc (.cells (OpV.cells ⟨kd, 0, 0, num, none, 0, [], ByteArray.empty⟩) 54)).alloc (.cells (OpV.cells ⟨kd, 0, 0, num, none, 0, [], ByteArray.empty⟩) 54)) (w.heap.size + 1) (OpV.cells ⟨kd, 0, 0, num, none, 0, [], ByteArray.empty⟩).toList 54 := by
    rw [show w.heap.size + 1 = (w.alloc (.cells (OpV.cells ⟨kd, a, n, num, A2, c2, p, s⟩) 54)).heap.size from (Array.size_push _).symm]
    exact (Blk.new (w.alloc (.cells (OpV.cells ⟨kd, a, n, num, A2, c2, p, s⟩) 54)) (OpV.cells ⟨kd, 0, 0, num, none, 0, [], ByteArray.empty⟩).toList 54).alloc _
  have hR2 := hR.below hb3
  have hF2 := Fr.of_below hb3 (fun k => k = g)
  show Calls Try.prog 57 #[.pointer (some ⟨g, 0, none⟩), .agg #[.int .i64 kd, .int .i64 a, .int .u64 (n : Int), .int .i64 num, .slice A2 p.length c2, .string s]] w _
  have HK := Lib.hid hk2
  have HR := Lib.hid hR2
  have HF := Lib.hid hF2
  clear hk2 hR2 hF2 hb3
  go_enter Try.func57, Try.ntmps57
  go_wp2_with fail
  (try simp only [Exit.inBlock, Exit.then])
  refine bodyPost_ret (v := OpV.val ⟨kd, 0, 0, num, none, 0, [], ByteArray.empty⟩) (results_op rfl _ _ (w.heap.size + 1) _ rfl HK.out) rfl ?_
  exact ⟨_, rfl, HR.out, HF.out, rfl⟩
end
end Go.Proofs.Ythdjddpomaendaa.B
