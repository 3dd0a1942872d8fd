/- Steps (Op): laid, kind by kind. Printed by gen_l.py. -/
import Derived.Test.YthdjddpomaendaaO1
namespace Go.Proofs.Ythdjddpomaendaa.B
open Go.RowKit
set_option linter.unusedVariables false
set_option linter.unusedSimpArgs false
set_option linter.unusedSectionVars false
section
variable (base g : Nat) (vb : Option Nat) (bs : List UInt8) (e : Int) (w : World) (hW : IsW w base g vb bs e) (a : Int) (n : Nat) (num : Int) (A2 : Option Addr) (c2 : Nat) (p : List UInt8) (s : ByteArray) (hl : bs.length + p.length + s.size + 4104 ≤ 140737488351232)
include hW hl
set_option maxHeartbeats 3200000 in
set_option maxRecDepth 100000 in
theorem laid1 : Calls Try.prog 55 #[.pointer (some ⟨g, 0, none⟩), OpV.val ⟨1, a, n, num, A2, c2, p, s⟩] w fun r w' => r = .returned (.bool (e == 0)) ∧ ∃ vb', IsW w' base g vb' (okB e (bs ++ leBytes 1 (n % 256)) bs) e ∧ FrW w w' g vb vb' := by
  have hb1 : Below w.heap.size w (w.alloc (.cells (OpV.cells ⟨1, a, n, num, A2, c2, p, s⟩) 54)) := below_alloc (Below.refl _ w) _
  have hW1 := hW.below hb1
  have hF1 := FrW.then_below (FrW.refl w g vb) hb1
  have hg := hW.lt.1
  obtain ⟨x, hq, hx, Hx⟩ : ∃ x : Nat, (n : Int) % 256 = (x : Int) ∧ x < 256 ∧ Hid (x = n % 256) := ⟨n % 256, by omega, by omega, Lib.hid rfl⟩
  show Calls Try.prog 55 #[.pointer (some ⟨g, 0, none⟩), .agg #[.int .i64 1, .int .i64 a, .int .u64 (n : Int), .int .i64 num, .slice A2 p.length c2, .string s]] w _
  go_enter Try.func55, Try.ntmps55
  go_wp2_with fail
  refine (wByte base g vb bs e x _ hx hW1 (by omega)).mono ?_
  rintro r w2 ⟨rfl, vb2, hW2, hF⟩
  have hF2 := hF1.trans hF hg
  clear hW1 hF hF1
  go_wp2_with fail
  refine (wErr base g _ _ _ _ hW2).mono ?_
  rintro r w3 ⟨rfl, rfl⟩
  have H2 := Lib.hid hW2
  have HF := Lib.hid hF2
  clear hW2 hF2
  go_wp2_with fail
  go_ret
  exact ⟨rfl, _, by rw [← Hx.out]; exact H2.out, HF.out⟩
set_option maxHeartbeats 3200000 in
set_option maxRecDepth 100000 in
theorem laid2 : Calls Try.prog 55 #[.pointer (some ⟨g, 0, none⟩), OpV.val ⟨2, a, n, num, A2, c2, p, s⟩] w fun r w' => r = .returned (.bool (e == 0)) ∧ ∃ vb', IsW w' base g vb' (okB e (bs ++ leBytes 2 (n % 65536)) bs) e ∧ FrW w w' g vb vb' := by
  have hb1 : Below w.heap.size w (w.alloc (.cells (OpV.cells ⟨2, a, n, num, A2, c2, p, s⟩) 54)) := below_alloc (Below.refl _ w) _
  have hW1 := hW.below hb1
  have hF1 := FrW.then_below (FrW.refl w g vb) hb1
  have hg := hW.lt.1
  obtain ⟨x, hq, hx, Hx⟩ : ∃ x : Nat, IntKind.u16.wrap (n : Int) = (x : Int) ∧ x < 65536 ∧ Hid (x = n % 65536) := ⟨n % 65536, by rw [IntKind.wrap_u16]; omega, by omega, Lib.hid rfl⟩
  show Calls Try.prog 55 #[.pointer (some ⟨g, 0, none⟩), .agg #[.int .i64 2, .int .i64 a, .int .u64 (n : Int), .int .i64 num, .slice A2 p.length c2, .string s]] w _
  go_enter Try.func55, Try.ntmps55
  go_wp2_with fail
  refine (wHalf base g vb bs e x _ hx hW1 (by omega)).mono ?_
  rintro r w2 ⟨rfl, vb2, hW2, hF⟩
  have hF2 := hF1.trans hF hg
  clear hW1 hF hF1
  go_wp2_with fail
  refine (wErr base g _ _ _ _ hW2).mono ?_
  rintro r w3 ⟨rfl, rfl⟩
  have H2 := Lib.hid hW2
  have HF := Lib.hid hF2
  clear hW2 hF2
  go_wp2_with fail
  go_ret
  exact ⟨rfl, _, by rw [← Hx.out]; exact H2.out, HF.out⟩
set_option maxHeartbeats 3200000 in
set_option maxRecDepth 100000 in
theorem laid3 : Calls Try.prog 55 #[.pointer (some ⟨g, 0, none⟩), OpV.val ⟨3, a, n, num, A2, c2, p, s⟩] w fun r w' => r = .returned (.bool (e == 0)) ∧ ∃ vb', IsW w' base g vb' (okB e (bs ++ leBytes 4 (n % 4294967296)) bs) e ∧ FrW w w' g vb vb' := by
  have hb1 : Below w.heap.size w (w.alloc (.cells (OpV.cells ⟨3, a, n, num, A2, c2, p, s⟩) 54)) := below_alloc (Below.refl _ w) _
  have hW1 := hW.below hb1
  have hF1 := FrW.then_below (FrW.refl w g vb) hb1
  have hg := hW.lt.1
  obtain ⟨x, hq, hx, Hx⟩ : ∃ x : Nat, (n : Int) % 4294967296 = (x : Int) ∧ x < 4294967296 ∧ Hid (x = n % 4294967296) := ⟨n % 4294967296, by omega, by omega, Lib.hid rfl⟩
  show Calls Try.prog 55 #[.pointer (some ⟨g, 0, none⟩), .agg #[.int .i64 3, .int .i64 a, .int .u64 (n : Int), .int .i64 num, .slice A2 p.length c2, .string s]] w _
  go_enter Try.func55, Try.ntmps55
  go_wp2_with fail
  refine (wWord base g vb bs e x _ hx hW1 (by omega)).mono ?_
  rintro r w2 ⟨rfl, vb2, hW2, hF⟩
  have hF2 := hF1.trans hF hg
  clear hW1 hF hF1
  go_wp2_with fail
  refine (wErr base g _ _ _ _ hW2).mono ?_
  rintro r w3 ⟨rfl, rfl⟩
  have H2 := Lib.hid hW2
  have HF := Lib.hid hF2
  clear hW2 hF2
  go_wp2_with fail
  go_ret
  exact ⟨rfl, _, by rw [← Hx.out]; exact H2.out, HF.out⟩
set_option maxHeartbeats 3200000 in
set_option maxRecDepth 100000 in
theorem laid4 (hn : n < 18446744073709551616) : Calls Try.prog 55 #[.pointer (some ⟨g, 0, none⟩), OpV.val ⟨4, a, n, num, A2, c2, p, s⟩] w fun r w' => r = .returned (.bool (e == 0)) ∧ ∃ vb', IsW w' base g vb' (okB e (bs ++ leBytes 8 n) bs) e ∧ FrW w w' g vb vb' := by
  have hb1 : Below w.heap.size w (w.alloc (.cells (OpV.cells ⟨4, a, n, num, A2, c2, p, s⟩) 54)) := below_alloc (Below.refl _ w) _
  have hW1 := hW.below hb1
  have hF1 := FrW.then_below (FrW.refl w g vb) hb1
  have hg := hW.lt.1
  show Calls Try.prog 55 #[.pointer (some ⟨g, 0, none⟩), .agg #[.int .i64 4, .int .i64 a, .int .u64 (n : Int), .int .i64 num, .slice A2 p.length c2, .string s]] w _
  go_enter Try.func55, Try.ntmps55
  go_wp2_with fail
  refine (wLong base g vb bs e n _ hn hW1 (by omega)).mono ?_
  rintro r w2 ⟨rfl, vb2, hW2, hF⟩
  have hF2 := hF1.trans hF hg
  clear hW1 hF hF1
  go_wp2_with fail
  refine (wErr base g _ _ _ _ hW2).mono ?_
  rintro r w3 ⟨rfl, rfl⟩
  have H2 := Lib.hid hW2
  have HF := Lib.hid hF2
  clear hW2 hF2
  go_wp2_with fail
  go_ret
  exact ⟨rfl, _, H2.out, HF.out⟩
set_option maxHeartbeats 3200000 in
set_option maxRecDepth 100000 in
theorem laid5 (hr : Rd w A2 p.length (bvs p)) : Calls Try.prog 55 #[.pointer (some ⟨g, 0, none⟩), OpV.val ⟨5, a, n, num, A2, c2, p, s⟩] w fun r w' => r = .returned (.bool (e == 0)) ∧ ∃ vb', IsW w' base g vb' (okB e (bs ++ p) bs) e ∧ FrW w w' g vb vb' := by
  have hb1 : Below w.heap.size w (w.alloc (.cells (OpV.cells ⟨5, a, n, num, A2, c2, p, s⟩) 54)) := below_alloc (Below.refl _ w) _
  have hW1 := hW.below hb1
  have hF1 := FrW.then_below (FrW.refl w g vb) hb1
  have hg := hW.lt.1
  show Calls Try.prog 55 #[.pointer (some ⟨g, 0, none⟩), .agg #[.int .i64 5, .int .i64 a, .int .u64 (n : Int), .int .i64 num, .slice A2 p.length c2, .string s]] w _
  go_enter Try.func55, Try.ntmps55
  go_wp2_with fail
  refine (wBytes base g vb bs e _ A2 p.length c2 p (hr.below hb1 (Nat.le_refl _)) hW1 (by omega)).mono ?_
  rintro r w2 ⟨rfl, vb2, hW2, hF⟩
  have hF2 := hF1.trans hF hg
  clear hW1 hF hF1
  go_wp2_with fail
  refine (wErr base g _ _ _ _ hW2).mono ?_
  rintro r w3 ⟨rfl, rfl⟩
  have H2 := Lib.hid hW2
  have HF := Lib.hid hF2
  clear hW2 hF2
  go_wp2_with fail
  go_ret
  exact ⟨rfl, _, H2.out, HF.out⟩
set_option maxHeartbeats 3200000 in
set_option maxRecDepth 100000 in
theorem laid6 : Calls Try.prog 55 #[.pointer (some ⟨g, 0, none⟩), OpV.val ⟨6, a, n, num, A2, c2, p, s⟩] w fun r w' => r = .returned (.bool ((textE e s) == 0)) ∧ ∃ vb', IsW w' base g vb' (textB bs e s) (textE e s) ∧ FrW w w' g vb vb' := by
  have hb1 : Below w.heap.size w (w.alloc (.cells (OpV.cells ⟨6, a, n, num, A2, c2, p, s⟩) 54)) := below_alloc (Below.refl _ w) _
  have hW1 := hW.below hb1
  have hF1 := FrW.then_below (FrW.refl w g vb) hb1
  have hg := hW.lt.1
  show Calls Try.prog 55 #[.pointer (some ⟨g, 0, none⟩), .agg #[.int .i64 6, .int .i64 a, .int .u64 (n : Int), .int .i64 num, .slice A2 p.length c2, .string s]] w _
  go_enter Try.func55, Try.ntmps55
  go_wp2_with fail
  refine (wText base g vb bs e _ s (by omega) hW1 (by omega)).mono ?_
  rintro r w2 ⟨rfl, vb2, hW2, hF⟩
  have hF2 := hF1.trans hF hg
  clear hW1 hF hF1
  go_wp2_with fail
  refine (wErr base g _ _ _ _ hW2).mono ?_
  rintro r w3 ⟨rfl, rfl⟩
  have H2 := Lib.hid hW2
  have HF := Lib.hid hF2
  clear hW2 hF2
  go_wp2_with fail
  go_ret
  exact ⟨rfl, _, H2.out, HF.out⟩
set_option maxHeartbeats 3200000 in
set_option maxRecDepth 100000 in
theorem laid7 : Calls Try.prog 55 #[.pointer (some ⟨g, 0, none⟩), OpV.val ⟨7, a, n, num, A2, c2, p, s⟩] w fun r w' => r = .returned (.bool ((padE e num) == 0)) ∧ ∃ vb', IsW w' base g vb' (padB bs e num) (padE e num) ∧ FrW w w' g vb vb' := by
  have hb1 : Below w.heap.size w (w.alloc (.cells (OpV.cells ⟨7, a, n, num, A2, c2, p, s⟩) 54)) := below_alloc (Below.refl _ w) _
  have hW1 := hW.below hb1
  have hF1 := FrW.then_below (FrW.refl w g vb) hb1
  have hg := hW.lt.1
  show Calls Try.prog 55 #[.pointer (some ⟨g, 0, none⟩), .agg #[.int .i64 7, .int .i64 a, .int .u64 (n : Int), .int .i64 num, .slice A2 p.length c2, .string s]] w _
  go_enter Try.func55, Try.ntmps55
  go_wp2_with fail
  refine (wPad base g vb bs e _ num hW1 (by omega)).mono ?_
  rintro r w2 ⟨rfl, vb2, hW2, hF⟩
  have hF2 := hF1.trans hF hg
  clear hW1 hF hF1
  go_wp2_with fail
  refine (wErr base g _ _ _ _ hW2).mono ?_
  rintro r w3 ⟨rfl, rfl⟩
  have H2 := Lib.hid hW2
  have HF := Lib.hid hF2
  clear hW2 hF2
  go_wp2_with fail
  go_ret
  exact ⟨rfl, _, H2.out, HF.out⟩
set_option maxHeartbeats 3200000 in
set_option maxRecDepth 100000 in
theorem laid8 : Calls Try.prog 55 #[.pointer (some ⟨g, 0, none⟩), OpV.val ⟨8, a, n, num, A2, c2, p, s⟩] w fun r w' => r = .returned (.bool ((sealE bs e num) == 0)) ∧ ∃ vb', IsW w' base g vb' (sealB bs e num) (sealE bs e num) ∧ FrW w w' g vb vb' := by
  have hb1 : Below w.heap.size w (w.alloc (.cells (OpV.cells ⟨8, a, n, num, A2, c2, p, s⟩) 54)) := below_alloc (Below.refl _ w) _
  have hW1 := hW.below hb1
  have hF1 := FrW.then_below (FrW.refl w g vb) hb1
  have hg := hW.lt.1
  show Calls Try.prog 55 #[.pointer (some ⟨g, 0, none⟩), .agg #[.int .i64 8, .int .i64 a, .int .u64 (n : Int), .int .i64 num, .slice A2 p.length c2, .string s]] w _
  go_enter Try.func55, Try.ntmps55
  go_wp2_with fail
  refine (wSeal base g vb bs e _ num hW1 (by omega)).mono ?_
  rintro r w2 ⟨rfl, vb2, hW2, hF⟩
  have hF2 := hF1.trans hF hg
  clear hW1 hF hF1
  go_wp2_with fail
  refine (wErr base g _ _ _ _ hW2).mono ?_
  rintro r w3 ⟨rfl, rfl⟩
  have H2 := Lib.hid hW2
  have HF := Lib.hid hF2
  clear hW2 hF2
  go_wp2_with fail
  go_ret
  exact ⟨rfl, _, H2.out, HF.out⟩
set_option maxHeartbeats 3200000 in
set_option maxRecDepth 100000 in
theorem laidX (kd : Int) (h1 : (kd == 1) = false) (h2 : (kd == 2) = false) (h3 : (kd == 3) = false) (h4 : (kd == 4) = false) (h5 : (kd == 5) = false) (h6 : (kd == 6) = false) (h7 : (kd == 7) = false) (h8 : (kd == 8) = false) : Calls Try.prog 55 #[.pointer (some ⟨g, 0, none⟩), OpV.val ⟨kd, a, n, num, A2, c2, p, s⟩] w fun r w' => r = .returned (.bool (e == 0)) ∧ ∃ vb', IsW w' base g vb' bs e ∧ FrW w w' g vb vb' := by
  have hb1 : Below w.heap.size w (w.alloc (.cells (OpV.cells ⟨kd, a, n, num, A2, c2, p, s⟩) 54)) := below_alloc (Below.refl _ w) _
  have hW1 := hW.below hb1
  have hF1 := FrW.then_below (FrW.refl w g vb) hb1
  have hg := hW.lt.1
  show Calls Try.prog 55 #[.pointer (some ⟨g, 0, none⟩), .agg #[.int .i64 kd, .int .i64 a, .int .u64 (n : Int), .int .i64 num, .slice A2 p.length c2, .string s]] w _
  go_enter Try.func55, Try.ntmps55
  go_wp2_with fail
  have hW2 := hW1
  have hF2 := hF1
  clear hW1 hF1
  refine (wErr base g _ _ _ _ hW2).mono ?_
  rintro r w3 ⟨rfl, rfl⟩
  have H2 := Lib.hid hW2
  have HF := Lib.hid hF2
  clear hW2 hF2
  go_wp2_with fail
  go_ret
  exact ⟨rfl, _, H2.out, HF.out⟩
end
end Go.Proofs.Ythdjddpomaendaa.B
