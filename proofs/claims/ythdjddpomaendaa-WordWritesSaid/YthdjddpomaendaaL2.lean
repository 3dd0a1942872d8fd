/- lays, kind by kind. Printed by gen_lays.py. -/
import Derived.Test.YthdjddpomaendaaL1
namespace Go.Proofs.Ythdjddpomaendaa.B
open Go.RowKit
set_option linter.unusedVariables false
set_option linter.unusedSimpArgs false
set_option linter.unusedSectionVars false

theorem Pair.below {w w1 : World} {b g gv : Nat} {vb vv : Option Nat} {bs : List UInt8} {e : Int} (h : Pair w b g vb gv vv bs e) (hb : Below w.heap.size w w1) : Pair w1 b g vb gv vv bs e := ⟨h.hw.below hb, h.hv.below hb, h.ne⟩
/-- What a step of both leaves alone. -/
def FrP (w w' : World) (g : Nat) (vb vb' : Option Nat) (gv : Nat) (vv vv' : Option Nat) : Prop :=
  Fr (fun k => (k = g ∨ vb = some k) ∨ (k = gv ∨ vv = some k)) w w' ∧ (vb' = vb ∨ ∃ b, vb' = some b ∧ w.heap.size ≤ b) ∧ (vv' = vv ∨ ∃ b, vv' = some b ∧ w.heap.size ≤ b)
theorem FrP.of {w w0 w1 w2 : World} {g gv : Nat} {vb vb1 vv vv1 : Option Nat} (hb : Below w.heap.size w w0) (h1 : FrW w0 w1 g vb vb1) (h2 : FrW w1 w2 gv vv vv1) : FrP w w2 g vb vb1 gv vv vv1 := by
  have hs1 := hb.size
  have hs2 := h1.1.size
  have f0 : Fr (fun k => (k = g ∨ vb = some k) ∨ (k = gv ∨ vv = some k)) w w0 := Fr.of_below hb _
  have f1 : Fr (fun k => (k = g ∨ vb = some k) ∨ (k = gv ∨ vv = some k)) w w1 := f0.trans h1.1 (fun i hi => .inl (.inl hi))
  refine ⟨f1.trans h2.1 (fun i hi => .inl (.inr hi)), ?_, ?_⟩
  · rcases h1.2 with h | ⟨b, h, hb'⟩
    · exact .inl h
    · exact .inr ⟨b, h, by omega⟩
  · rcases h2.2 with h | ⟨b, h, hb'⟩
    · exact .inl h
    · exact .inr ⟨b, h, by omega⟩

section
variable (b g : Nat) (vb : Option Nat) (gv : Nat) (vv : Option Nat) (bs : List UInt8) (e : Int) (w : World) (hP : Pair w b g vb gv vv bs e) (a : Int) (n : Nat) (num : Int) (A2 : Option Addr) (c2 : Nat) (p : List UInt8) (s : ByteArray) (hl : bs.length + p.length + s.size + 4104 ≤ 140737488351232)
include hP hl
set_option maxHeartbeats 3200000 in
set_option maxRecDepth 100000 in
theorem lays1 (hn : n < 18446744073709551616) : Calls Try.prog 81 #[.pointer (some ⟨g, 0, none⟩), .pointer (some ⟨gv, 0, none⟩), OpV.val ⟨1, a, n, num, A2, c2, p, s⟩] w fun r w' => r = .returned (.bool true) ∧ ∃ vb' vv', Pair w' b g vb' gv vv' (laidB ⟨1, a, n, num, A2, c2, p, s⟩ bs e) (laidE ⟨1, a, n, num, A2, c2, p, s⟩ bs e) ∧ FrP w w' g vb vb' gv vv vv' := by
  have hb1 : Below w.heap.size w (w.alloc (.cells (OpV.cells ⟨1, a, n, num, A2, c2, p, s⟩) 54)) := below_alloc (Below.refl _ w) _
  have hk1 : Blk (w.alloc (.cells (OpV.cells ⟨1, a, n, num, A2, c2, p, s⟩) 54)) w.heap.size (OpV.cells ⟨1, a, n, num, A2, c2, p, s⟩).toList 54 := Blk.new w _ _
  have HP1 := Lib.hid (hP.below hb1)
  have HLT := Lib.hid (And.intro hP.hw.lt hP.hv.lt)
  obtain ⟨x, hq, hx, Hx⟩ : ∃ x : Nat, (n : Int) % 256 = (x : Int) ∧ x < 256 ∧ Hid (x = n % 256) := ⟨n % 256, by omega, by omega, Lib.hid rfl⟩
  clear hP
  show Calls Try.prog 81 #[.pointer (some ⟨g, 0, none⟩), .pointer (some ⟨gv, 0, none⟩), .agg #[.int .i64 1, .int .i64 a, .int .u64 (n : Int), .int .i64 num, .slice A2 p.length c2, .string s]] w _
  go_enter Try.func81, Try.ntmps81
  go_wp2_with fail
  refine (wByte b g vb bs e x _ hx HP1.out.hw (by omega)).mono ?_
  rintro r w2 ⟨rfl, vb2, hW2, hF2⟩
  rw [Hx.out] at hW2
  obtain ⟨hV2, hne2⟩ := HP1.out.step_w hW2 hF2
  have hk2 := hk1.fr hF2.1 (fun hs => hs.elim (fun e => by have := HLT.out.1.1; omega) (fun e => by have := (HLT.out.1.2.2 _ e).2; omega))
  have q0 := hk2.cell 2 (.int .u64 (n : Int)) rfl
  have q1 := hk2.cell 3 (.int .i64 num) rfl
  have q2 := hk2.cell 5 (.string s) rfl
  have HW2 := Lib.hid (And.intro hW2 (And.intro hV2 (And.intro hne2 hF2)))
  clear hW2 hV2 hne2 hF2 hk2 hk1
  go_wp2_with fail
  refine (vNumber b gv vv bs e 1 n _ (fun W => refBytes1 n W hn) HW2.out.2.1 (by omega)).mono ?_
  rintro r w3 ⟨rfl, vv3, hV3, hF3⟩
  have hm : leBytes 1 n = leBytes 1 (n % 256) := (leBytes_mod 1 n).symm
  rw [hm] at hV3
  clear hm
  have HV3 := Lib.hid (And.intro hV3 hF3)
  clear hV3 hF3 q0 q1 q2
  go_wp2_with fail
  go_ret
  exact ⟨rfl, vb2, vv3, Pair.step_v HW2.out.1 HW2.out.2.1 HW2.out.2.2.1 HV3.out.1 HV3.out.2, FrP.of hb1 HW2.out.2.2.2 HV3.out.2⟩
set_option maxHeartbeats 3200000 in
set_option maxRecDepth 100000 in
theorem lays2 (hn : n < 18446744073709551616) : Calls Try.prog 81 #[.pointer (some ⟨g, 0, none⟩), .pointer (some ⟨gv, 0, none⟩), OpV.val ⟨2, a, n, num, A2, c2, p, s⟩] w fun r w' => r = .returned (.bool true) ∧ ∃ vb' vv', Pair w' b g vb' gv vv' (laidB ⟨2, a, n, num, A2, c2, p, s⟩ bs e) (laidE ⟨2, a, n, num, A2, c2, p, s⟩ bs e) ∧ FrP w w' g vb vb' gv vv vv' := by
  have hb1 : Below w.heap.size w (w.alloc (.cells (OpV.cells ⟨2, a, n, num, A2, c2, p, s⟩) 54)) := below_alloc (Below.refl _ w) _
  have hk1 : Blk (w.alloc (.cells (OpV.cells ⟨2, a, n, num, A2, c2, p, s⟩) 54)) w.heap.size (OpV.cells ⟨2, a, n, num, A2, c2, p, s⟩).toList 54 := Blk.new w _ _
  have HP1 := Lib.hid (hP.below hb1)
  have HLT := Lib.hid (And.intro hP.hw.lt hP.hv.lt)
  obtain ⟨x, hq, hx, Hx⟩ : ∃ x : Nat, IntKind.u16.wrap (n : Int) = (x : Int) ∧ x < 65536 ∧ Hid (x = n % 65536) := ⟨n % 65536, by rw [IntKind.wrap_u16]; omega, by omega, Lib.hid rfl⟩
  clear hP
  show Calls Try.prog 81 #[.pointer (some ⟨g, 0, none⟩), .pointer (some ⟨gv, 0, none⟩), .agg #[.int .i64 2, .int .i64 a, .int .u64 (n : Int), .int .i64 num, .slice A2 p.length c2, .string s]] w _
  go_enter Try.func81, Try.ntmps81
  go_wp2_with fail
  refine (wHalf b g vb bs e x _ hx HP1.out.hw (by omega)).mono ?_
  rintro r w2 ⟨rfl, vb2, hW2, hF2⟩
  rw [Hx.out] at hW2
  obtain ⟨hV2, hne2⟩ := HP1.out.step_w hW2 hF2
  have hk2 := hk1.fr hF2.1 (fun hs => hs.elim (fun e => by have := HLT.out.1.1; omega) (fun e => by have := (HLT.out.1.2.2 _ e).2; omega))
  have q0 := hk2.cell 2 (.int .u64 (n : Int)) rfl
  have q1 := hk2.cell 3 (.int .i64 num) rfl
  have q2 := hk2.cell 5 (.string s) rfl
  have HW2 := Lib.hid (And.intro hW2 (And.intro hV2 (And.intro hne2 hF2)))
  clear hW2 hV2 hne2 hF2 hk2 hk1
  go_wp2_with fail
  refine (vNumber b gv vv bs e 2 n _ (fun W => refBytes2 n W hn) HW2.out.2.1 (by omega)).mono ?_
  rintro r w3 ⟨rfl, vv3, hV3, hF3⟩
  have hm : leBytes 2 n = leBytes 2 (n % 65536) := (leBytes_mod 2 n).symm
  rw [hm] at hV3
  clear hm
  have HV3 := Lib.hid (And.intro hV3 hF3)
  clear hV3 hF3 q0 q1 q2
  go_wp2_with fail
  go_ret
  exact ⟨rfl, vb2, vv3, Pair.step_v HW2.out.1 HW2.out.2.1 HW2.out.2.2.1 HV3.out.1 HV3.out.2, FrP.of hb1 HW2.out.2.2.2 HV3.out.2⟩
set_option maxHeartbeats 3200000 in
set_option maxRecDepth 100000 in
theorem lays3 (hn : n < 18446744073709551616) : Calls Try.prog 81 #[.pointer (some ⟨g, 0, none⟩), .pointer (some ⟨gv, 0, none⟩), OpV.val ⟨3, a, n, num, A2, c2, p, s⟩] w fun r w' => r = .returned (.bool true) ∧ ∃ vb' vv', Pair w' b g vb' gv vv' (laidB ⟨3, a, n, num, A2, c2, p, s⟩ bs e) (laidE ⟨3, a, n, num, A2, c2, p, s⟩ bs e) ∧ FrP w w' g vb vb' gv vv vv' := by
  have hb1 : Below w.heap.size w (w.alloc (.cells (OpV.cells ⟨3, a, n, num, A2, c2, p, s⟩) 54)) := below_alloc (Below.refl _ w) _
  have hk1 : Blk (w.alloc (.cells (OpV.cells ⟨3, a, n, num, A2, c2, p, s⟩) 54)) w.heap.size (OpV.cells ⟨3, a, n, num, A2, c2, p, s⟩).toList 54 := Blk.new w _ _
  have HP1 := Lib.hid (hP.below hb1)
  have HLT := Lib.hid (And.intro hP.hw.lt hP.hv.lt)
  obtain ⟨x, hq, hx, Hx⟩ : ∃ x : Nat, (n : Int) % 4294967296 = (x : Int) ∧ x < 4294967296 ∧ Hid (x = n % 4294967296) := ⟨n % 4294967296, by omega, by omega, Lib.hid rfl⟩
  clear hP
  show Calls Try.prog 81 #[.pointer (some ⟨g, 0, none⟩), .pointer (some ⟨gv, 0, none⟩), .agg #[.int .i64 3, .int .i64 a, .int .u64 (n : Int), .int .i64 num, .slice A2 p.length c2, .string s]] w _
  go_enter Try.func81, Try.ntmps81
  go_wp2_with fail
  refine (wWord b g vb bs e x _ hx HP1.out.hw (by omega)).mono ?_
  rintro r w2 ⟨rfl, vb2, hW2, hF2⟩
  rw [Hx.out] at hW2
  obtain ⟨hV2, hne2⟩ := HP1.out.step_w hW2 hF2
  have hk2 := hk1.fr hF2.1 (fun hs => hs.elim (fun e => by have := HLT.out.1.1; omega) (fun e => by have := (HLT.out.1.2.2 _ e).2; omega))
  have q0 := hk2.cell 2 (.int .u64 (n : Int)) rfl
  have q1 := hk2.cell 3 (.int .i64 num) rfl
  have q2 := hk2.cell 5 (.string s) rfl
  have HW2 := Lib.hid (And.intro hW2 (And.intro hV2 (And.intro hne2 hF2)))
  clear hW2 hV2 hne2 hF2 hk2 hk1
  go_wp2_with fail
  refine (vNumber b gv vv bs e 4 n _ (fun W => refBytes4 n W hn) HW2.out.2.1 (by omega)).mono ?_
  rintro r w3 ⟨rfl, vv3, hV3, hF3⟩
  have hm : leBytes 4 n = leBytes 4 (n % 4294967296) := (leBytes_mod 4 n).symm
  rw [hm] at hV3
  clear hm
  have HV3 := Lib.hid (And.intro hV3 hF3)
  clear hV3 hF3 q0 q1 q2
  go_wp2_with fail
  go_ret
  exact ⟨rfl, vb2, vv3, Pair.step_v HW2.out.1 HW2.out.2.1 HW2.out.2.2.1 HV3.out.1 HV3.out.2, FrP.of hb1 HW2.out.2.2.2 HV3.out.2⟩
set_option maxHeartbeats 3200000 in
set_option maxRecDepth 100000 in
theorem lays4 (hn : n < 18446744073709551616) : Calls Try.prog 81 #[.pointer (some ⟨g, 0, none⟩), .pointer (some ⟨gv, 0, none⟩), OpV.val ⟨4, a, n, num, A2, c2, p, s⟩] w fun r w' => r = .returned (.bool true) ∧ ∃ vb' vv', Pair w' b g vb' gv vv' (laidB ⟨4, a, n, num, A2, c2, p, s⟩ bs e) (laidE ⟨4, a, n, num, A2, c2, p, s⟩ bs e) ∧ FrP w w' g vb vb' gv vv vv' := by
  have hb1 : Below w.heap.size w (w.alloc (.cells (OpV.cells ⟨4, a, n, num, A2, c2, p, s⟩) 54)) := below_alloc (Below.refl _ w) _
  have hk1 : Blk (w.alloc (.cells (OpV.cells ⟨4, a, n, num, A2, c2, p, s⟩) 54)) w.heap.size (OpV.cells ⟨4, a, n, num, A2, c2, p, s⟩).toList 54 := Blk.new w _ _
  have HP1 := Lib.hid (hP.below hb1)
  have HLT := Lib.hid (And.intro hP.hw.lt hP.hv.lt)
  clear hP
  show Calls Try.prog 81 #[.pointer (some ⟨g, 0, none⟩), .pointer (some ⟨gv, 0, none⟩), .agg #[.int .i64 4, .int .i64 a, .int .u64 (n : Int), .int .i64 num, .slice A2 p.length c2, .string s]] w _
  go_enter Try.func81, Try.ntmps81
  go_wp2_with fail
  refine (wLong b g vb bs e n _ hn HP1.out.hw (by omega)).mono ?_
  rintro r w2 ⟨rfl, vb2, hW2, hF2⟩
  obtain ⟨hV2, hne2⟩ := HP1.out.step_w hW2 hF2
  have hk2 := hk1.fr hF2.1 (fun hs => hs.elim (fun e => by have := HLT.out.1.1; omega) (fun e => by have := (HLT.out.1.2.2 _ e).2; omega))
  have q0 := hk2.cell 2 (.int .u64 (n : Int)) rfl
  have q1 := hk2.cell 3 (.int .i64 num) rfl
  have q2 := hk2.cell 5 (.string s) rfl
  have HW2 := Lib.hid (And.intro hW2 (And.intro hV2 (And.intro hne2 hF2)))
  clear hW2 hV2 hne2 hF2 hk2 hk1
  go_wp2_with fail
  refine (vNumber b gv vv bs e 8 n _ (fun W => refBytes8 n W hn) HW2.out.2.1 (by omega)).mono ?_
  rintro r w3 ⟨rfl, vv3, hV3, hF3⟩
  have HV3 := Lib.hid (And.intro hV3 hF3)
  clear hV3 hF3 q0 q1 q2
  go_wp2_with fail
  go_ret
  exact ⟨rfl, vb2, vv3, Pair.step_v HW2.out.1 HW2.out.2.1 HW2.out.2.2.1 HV3.out.1 HV3.out.2, FrP.of hb1 HW2.out.2.2.2 HV3.out.2⟩
set_option maxHeartbeats 3200000 in
set_option maxRecDepth 100000 in
theorem lays6 : Calls Try.prog 81 #[.pointer (some ⟨g, 0, none⟩), .pointer (some ⟨gv, 0, none⟩), OpV.val ⟨6, a, n, num, A2, c2, p, s⟩] w fun r w' => r = .returned (.bool true) ∧ ∃ vb' vv', Pair w' b g vb' gv vv' (laidB ⟨6, a, n, num, A2, c2, p, s⟩ bs e) (laidE ⟨6, a, n, num, A2, c2, p, s⟩ bs e) ∧ FrP w w' g vb vb' gv vv vv' := by
  have hb1 : Below w.heap.size w (w.alloc (.cells (OpV.cells ⟨6, a, n, num, A2, c2, p, s⟩) 54)) := below_alloc (Below.refl _ w) _
  have hk1 : Blk (w.alloc (.cells (OpV.cells ⟨6, a, n, num, A2, c2, p, s⟩) 54)) w.heap.size (OpV.cells ⟨6, a, n, num, A2, c2, p, s⟩).toList 54 := Blk.new w _ _
  have HP1 := Lib.hid (hP.below hb1)
  have HLT := Lib.hid (And.intro hP.hw.lt hP.hv.lt)
  clear hP
  show Calls Try.prog 81 #[.pointer (some ⟨g, 0, none⟩), .pointer (some ⟨gv, 0, none⟩), .agg #[.int .i64 6, .int .i64 a, .int .u64 (n : Int), .int .i64 num, .slice A2 p.length c2, .string s]] w _
  go_enter Try.func81, Try.ntmps81
  go_wp2_with fail
  refine (wText b g vb bs e _ s (by omega) HP1.out.hw (by omega)).mono ?_
  rintro r w2 ⟨rfl, vb2, hW2, hF2⟩
  obtain ⟨hV2, hne2⟩ := HP1.out.step_w hW2 hF2
  have hk2 := hk1.fr hF2.1 (fun hs => hs.elim (fun e => by have := HLT.out.1.1; omega) (fun e => by have := (HLT.out.1.2.2 _ e).2; omega))
  have q0 := hk2.cell 2 (.int .u64 (n : Int)) rfl
  have q1 := hk2.cell 3 (.int .i64 num) rfl
  have q2 := hk2.cell 5 (.string s) rfl
  have HW2 := Lib.hid (And.intro hW2 (And.intro hV2 (And.intro hne2 hF2)))
  clear hW2 hV2 hne2 hF2 hk2 hk1
  go_wp2_with fail
  refine (vText b gv vv bs e _ s (by omega) HW2.out.2.1 (by omega)).mono ?_
  rintro r w3 ⟨rfl, vv3, hV3, hF3⟩
  have HV3 := Lib.hid (And.intro hV3 hF3)
  clear hV3 hF3 q0 q1 q2
  go_wp2_with fail
  go_ret
  exact ⟨rfl, vb2, vv3, Pair.step_v HW2.out.1 HW2.out.2.1 HW2.out.2.2.1 HV3.out.1 HV3.out.2, FrP.of hb1 HW2.out.2.2.2 HV3.out.2⟩
set_option maxHeartbeats 3200000 in
set_option maxRecDepth 100000 in
theorem lays7 : Calls Try.prog 81 #[.pointer (some ⟨g, 0, none⟩), .pointer (some ⟨gv, 0, none⟩), OpV.val ⟨7, a, n, num, A2, c2, p, s⟩] w fun r w' => r = .returned (.bool true) ∧ ∃ vb' vv', Pair w' b g vb' gv vv' (laidB ⟨7, a, n, num, A2, c2, p, s⟩ bs e) (laidE ⟨7, a, n, num, A2, c2, p, s⟩ bs e) ∧ FrP w w' g vb vb' gv vv vv' := by
  have hb1 : Below w.heap.size w (w.alloc (.cells (OpV.cells ⟨7, a, n, num, A2, c2, p, s⟩) 54)) := below_alloc (Below.refl _ w) _
  have hk1 : Blk (w.alloc (.cells (OpV.cells ⟨7, a, n, num, A2, c2, p, s⟩) 54)) w.heap.size (OpV.cells ⟨7, a, n, num, A2, c2, p, s⟩).toList 54 := Blk.new w _ _
  have HP1 := Lib.hid (hP.below hb1)
  have HLT := Lib.hid (And.intro hP.hw.lt hP.hv.lt)
  clear hP
  show Calls Try.prog 81 #[.pointer (some ⟨g, 0, none⟩), .pointer (some ⟨gv, 0, none⟩), .agg #[.int .i64 7, .int .i64 a, .int .u64 (n : Int), .int .i64 num, .slice A2 p.length c2, .string s]] w _
  go_enter Try.func81, Try.ntmps81
  go_wp2_with fail
  refine (wPad b g vb bs e _ num HP1.out.hw (by omega)).mono ?_
  rintro r w2 ⟨rfl, vb2, hW2, hF2⟩
  obtain ⟨hV2, hne2⟩ := HP1.out.step_w hW2 hF2
  have hk2 := hk1.fr hF2.1 (fun hs => hs.elim (fun e => by have := HLT.out.1.1; omega) (fun e => by have := (HLT.out.1.2.2 _ e).2; omega))
  have q0 := hk2.cell 2 (.int .u64 (n : Int)) rfl
  have q1 := hk2.cell 3 (.int .i64 num) rfl
  have q2 := hk2.cell 5 (.string s) rfl
  have HW2 := Lib.hid (And.intro hW2 (And.intro hV2 (And.intro hne2 hF2)))
  clear hW2 hV2 hne2 hF2 hk2 hk1
  go_wp2_with fail
  refine (vPad b gv vv bs e _ num HW2.out.2.1 (by omega)).mono ?_
  rintro r w3 ⟨rfl, vv3, hV3, hF3⟩
  have HV3 := Lib.hid (And.intro hV3 hF3)
  clear hV3 hF3 q0 q1 q2
  go_wp2_with fail
  go_ret
  exact ⟨rfl, vb2, vv3, Pair.step_v HW2.out.1 HW2.out.2.1 HW2.out.2.2.1 HV3.out.1 HV3.out.2, FrP.of hb1 HW2.out.2.2.2 HV3.out.2⟩
set_option maxHeartbeats 3200000 in
set_option maxRecDepth 100000 in
theorem lays8 : Calls Try.prog 81 #[.pointer (some ⟨g, 0, none⟩), .pointer (some ⟨gv, 0, none⟩), OpV.val ⟨8, a, n, num, A2, c2, p, s⟩] w fun r w' => r = .returned (.bool true) ∧ ∃ vb' vv', Pair w' b g vb' gv vv' (laidB ⟨8, a, n, num, A2, c2, p, s⟩ bs e) (laidE ⟨8, a, n, num, A2, c2, p, s⟩ bs e) ∧ FrP w w' g vb vb' gv vv vv' := by
  have hb1 : Below w.heap.size w (w.alloc (.cells (OpV.cells ⟨8, a, n, num, A2, c2, p, s⟩) 54)) := below_alloc (Below.refl _ w) _
  have hk1 : Blk (w.alloc (.cells (OpV.cells ⟨8, a, n, num, A2, c2, p, s⟩) 54)) w.heap.size (OpV.cells ⟨8, a, n, num, A2, c2, p, s⟩).toList 54 := Blk.new w _ _
  have HP1 := Lib.hid (hP.below hb1)
  have HLT := Lib.hid (And.intro hP.hw.lt hP.hv.lt)
  clear hP
  show Calls Try.prog 81 #[.pointer (some ⟨g, 0, none⟩), .pointer (some ⟨gv, 0, none⟩), .agg #[.int .i64 8, .int .i64 a, .int .u64 (n : Int), .int .i64 num, .slice A2 p.length c2, .string s]] w _
  go_enter Try.func81, Try.ntmps81
  go_wp2_with fail
  refine (wSeal b g vb bs e _ num HP1.out.hw (by omega)).mono ?_
  rintro r w2 ⟨rfl, vb2, hW2, hF2⟩
  obtain ⟨hV2, hne2⟩ := HP1.out.step_w hW2 hF2
  have hk2 := hk1.fr hF2.1 (fun hs => hs.elim (fun e => by have := HLT.out.1.1; omega) (fun e => by have := (HLT.out.1.2.2 _ e).2; omega))
  have q0 := hk2.cell 2 (.int .u64 (n : Int)) rfl
  have q1 := hk2.cell 3 (.int .i64 num) rfl
  have q2 := hk2.cell 5 (.string s) rfl
  have HW2 := Lib.hid (And.intro hW2 (And.intro hV2 (And.intro hne2 hF2)))
  clear hW2 hV2 hne2 hF2 hk2 hk1
  go_wp2_with fail
  refine (vSeal b gv vv bs e _ num HW2.out.2.1 (by omega)).mono ?_
  rintro r w3 ⟨rfl, vv3, hV3, hF3⟩
  have HV3 := Lib.hid (And.intro hV3 hF3)
  clear hV3 hF3 q0 q1 q2
  go_wp2_with fail
  go_ret
  exact ⟨rfl, vb2, vv3, Pair.step_v HW2.out.1 HW2.out.2.1 HW2.out.2.2.1 HV3.out.1 HV3.out.2, FrP.of hb1 HW2.out.2.2.2 HV3.out.2⟩
set_option maxHeartbeats 3200000 in
set_option maxRecDepth 100000 in
theorem laysX (kd : Int) (h1 : (kd == 1) = false) (h2 : (kd == 2) = false) (h3 : (kd == 3) = false) (h4 : (kd == 4) = false) (h5 : (kd == 5) = false) (h6 : (kd == 6) = false) (h7 : (kd == 7) = false) (h8 : (kd == 8) = false) :
    Calls Try.prog 81 #[.pointer (some ⟨g, 0, none⟩), .pointer (some ⟨gv, 0, none⟩), OpV.val ⟨kd, a, n, num, A2, c2, p, s⟩] w fun r w' => r = .returned (.bool true) ∧ Pair w' b g vb gv vv bs e ∧ FrP w w' g vb vb gv vv vv := by
  have hb1 : Below w.heap.size w (w.alloc (.cells (OpV.cells ⟨kd, a, n, num, A2, c2, p, s⟩) 54)) := below_alloc (Below.refl _ w) _
  have HP1 := Lib.hid (And.intro (hP.below hb1) (FrP.of hb1 (FrW.refl _ g vb) (FrW.refl _ gv vv)))
  clear hP hb1
  show Calls Try.prog 81 #[.pointer (some ⟨g, 0, none⟩), .pointer (some ⟨gv, 0, none⟩), .agg #[.int .i64 kd, .int .i64 a, .int .u64 (n : Int), .int .i64 num, .slice A2 p.length c2, .string s]] w _
  go_enter Try.func81, Try.ntmps81
  go_wp2_with fail
  go_ret
  exact ⟨rfl, HP1.out.1, HP1.out.2⟩
end
end Go.Proofs.Ythdjddpomaendaa.B
