-- PRINTED BY print.sh 35421559b90ae4d0a3588c463048766b98c2df88dd9212a6774a882060cdf62d: not written by this session
import Derived.Test.YthdjddpomaendaaPWordKinx0
namespace Go.Proofs.Ythdjddpomaendaa.PWordKin
open Go.RowKit Go.Proofs.YthdjddpomaendaaW.PrintWords Go.Proofs.YthdjddpomaendaaW.PrintLast Go.Proofs.YthdjddpomaendaaW.PrintMore
attribute [local go_sem] max2_int min2_int max_two min_two max_three min_three max_four min_four   -- for this text's walks alone
set_option linter.unusedVariables false
set_option linter.unusedSimpArgs false

/-! ### word_Add_uint8: function 19 -/
def word_Add_uint8.f (a0 : Int) (a1 : Int) : Option (Int × Bool) := if ((a0 + a1) % 256) ≥ a0 then (some ((a0 + a1) % 256, true)) else (some (0, false))
set_option maxHeartbeats 8000000 in
set_option maxRecDepth 100000 in
theorem word_Add_uint8.calls (a0 : Int) (a1 : Int) (r1 : Int) (r2 : Bool) (w : World) (h : word_Add_uint8.f a0 a1 = some (r1, r2)) :
    Calls Try.prog 19 #[.int .u8 a0, .int .u8 a1] w fun e w' => e = .returned (.tuple #[.int .u8 r1, .bool r2]) ∧ Drawn0 w w' := by
  have H : (if ((a0 + a1) % 256) ≥ a0 then (some ((a0 + a1) % 256, true)) else (some (0, false))) = some (r1, r2) := h
  clear h
  by_cases c3 : ((a0 + a1) % 256) ≥ a0
  · rw [if_pos c3] at H
    have c3b0 : decide (a0 ≤ ((a0 + a1) % 256)) = true := decide_eq_true c3
    clear c3
    simp only [Option.some.injEq, Prod.mk.injEq] at H
    obtain ⟨rfl, rfl⟩ := H
    go_enter Try.func19, Try.ntmps19
    go_wp2
    go_ret2
    exact ⟨by first | rfl | (simp; done) | (simp [*]; done), by repeat (first | exact Drawn0.refl _ | apply Drawn0.step)⟩
  · rw [if_neg c3] at H
    have c3b0 : decide (a0 ≤ ((a0 + a1) % 256)) = false := decide_eq_false c3
    clear c3
    simp only [Option.some.injEq, Prod.mk.injEq] at H
    obtain ⟨rfl, rfl⟩ := H
    go_enter Try.func19, Try.ntmps19
    go_wp2
    go_ret2
    exact ⟨by first | rfl | (simp; done) | (simp [*]; done), by repeat (first | exact Drawn0.refl _ | apply Drawn0.step)⟩

/-! ### bits_Mul64: function 90 -/
def bits_Mul64.f (a0 : Int) (a1 : Int) : Option (Int × Int) := some (IntKind.u64.wrap ((IntKind.u64.wrap ((IntKind.u64.wrap ((a0 / 4294967296) * (a1 / 4294967296))) + ((IntKind.u64.wrap ((IntKind.u64.wrap ((a0 / 4294967296) * (Go.bits .and .u64 a1 4294967295))) + ((IntKind.u64.wrap ((Go.bits .and .u64 a0 4294967295) * (Go.bits .and .u64 a1 4294967295))) / 4294967296))) / 4294967296))) + ((IntKind.u64.wrap ((Go.bits .and .u64 (IntKind.u64.wrap ((IntKind.u64.wrap ((a0 / 4294967296) * (Go.bits .and .u64 a1 4294967295))) + ((IntKind.u64.wrap ((Go.bits .and .u64 a0 4294967295) * (Go.bits .and .u64 a1 4294967295))) / 4294967296))) 4294967295) + (IntKind.u64.wrap ((Go.bits .and .u64 a0 4294967295) * (a1 / 4294967296))))) / 4294967296)), IntKind.u64.wrap (a0 * a1))
set_option maxHeartbeats 8000000 in
set_option maxRecDepth 100000 in
theorem bits_Mul64.calls (a0 : Int) (a1 : Int) (r1 : Int) (r2 : Int) (w : World) (h : bits_Mul64.f a0 a1 = some (r1, r2)) :
    Calls Try.prog 90 #[.int .u64 a0, .int .u64 a1] w fun e w' => e = .returned (.tuple #[.int .u64 r1, .int .u64 r2]) ∧ Drawn0 w w' := by
  have H : (some (IntKind.u64.wrap ((IntKind.u64.wrap ((IntKind.u64.wrap ((a0 / 4294967296) * (a1 / 4294967296))) + ((IntKind.u64.wrap ((IntKind.u64.wrap ((a0 / 4294967296) * (Go.bits .and .u64 a1 4294967295))) + ((IntKind.u64.wrap ((Go.bits .and .u64 a0 4294967295) * (Go.bits .and .u64 a1 4294967295))) / 4294967296))) / 4294967296))) + ((IntKind.u64.wrap ((Go.bits .and .u64 (IntKind.u64.wrap ((IntKind.u64.wrap ((a0 / 4294967296) * (Go.bits .and .u64 a1 4294967295))) + ((IntKind.u64.wrap ((Go.bits .and .u64 a0 4294967295) * (Go.bits .and .u64 a1 4294967295))) / 4294967296))) 4294967295) + (IntKind.u64.wrap ((Go.bits .and .u64 a0 4294967295) * (a1 / 4294967296))))) / 4294967296)), IntKind.u64.wrap (a0 * a1))) = some (r1, r2) := h
  clear h
  simp only [Option.some.injEq, Prod.mk.injEq] at H
  obtain ⟨rfl, rfl⟩ := H
  go_enter Try.func90, Try.ntmps90
  go_wp2
  go_ret2
  exact ⟨by first | rfl | (simp; done) | (simp [*]; done), by repeat (first | exact Drawn0.refl _ | apply Drawn0.step)⟩

/-! ### word_To_uint8_uint64: function 91 -/
def word_To_uint8_uint64.f (a0 : Int) : Option (Int × Bool) := if ((a0) % 256) = a0 then (some ((a0) % 256, true)) else (some (0, false))
set_option maxHeartbeats 8000000 in
set_option maxRecDepth 100000 in
theorem word_To_uint8_uint64.calls (a0 : Int) (r1 : Int) (r2 : Bool) (w : World) (h : word_To_uint8_uint64.f a0 = some (r1, r2)) :
    Calls Try.prog 91 #[.int .u64 a0] w fun e w' => e = .returned (.tuple #[.int .u8 r1, .bool r2]) ∧ Drawn0 w w' := by
  have H : (if ((a0) % 256) = a0 then (some ((a0) % 256, true)) else (some (0, false))) = some (r1, r2) := h
  clear h
  by_cases c2 : ((a0) % 256) = a0
  · rw [if_pos c2] at H
    have c2b0 : (((a0) % 256) == a0) = true := beq_iff_eq.mpr c2
    have c2b1 : (((a0) % 256) != a0) = false := bne_eq_false_iff_eq.mpr c2
    clear c2
    simp only [Option.some.injEq, Prod.mk.injEq] at H
    obtain ⟨rfl, rfl⟩ := H
    go_enter Try.func91, Try.ntmps91
    go_wp2
    go_ret2
    exact ⟨by first | rfl | (simp; done) | (simp [*]; done), by repeat (first | exact Drawn0.refl _ | apply Drawn0.step)⟩
  · rw [if_neg c2] at H
    have c2b0 : (((a0) % 256) == a0) = false := beq_eq_false_iff_ne.mpr c2
    have c2b1 : (((a0) % 256) != a0) = true := bne_iff_ne.mpr c2
    simp only [Option.some.injEq, Prod.mk.injEq] at H
    obtain ⟨rfl, rfl⟩ := H
    go_enter Try.func91, Try.ntmps91
    go_wp2
    go_ret2
    exact ⟨by first | rfl | (simp; done) | (simp [*]; done), by repeat (first | exact Drawn0.refl _ | apply Drawn0.step)⟩

/-! ### word_Mul_uint8: function 46 -/
def word_Mul_uint8.f (a0 : Int) (a1 : Int) : Option (Int × Bool) := (bits_Mul64.f (IntKind.u64.wrap (a0)) (IntKind.u64.wrap (a1))).bind fun bt101 => (if bt101.1 = 0 then ((word_To_uint8_uint64.f bt101.2).bind fun bt103 => (some (bt103.1, bt103.2))) else (some (0, false)))
set_option maxHeartbeats 8000000 in
set_option maxRecDepth 100000 in
theorem word_Mul_uint8.calls (a0 : Int) (a1 : Int) (r1 : Int) (r2 : Bool) (w : World) (h : word_Mul_uint8.f a0 a1 = some (r1, r2)) :
    Calls Try.prog 46 #[.int .u8 a0, .int .u8 a1] w fun e w' => e = .returned (.tuple #[.int .u8 r1, .bool r2]) ∧ Drawn0 w w' := by
  have H : ((bits_Mul64.f (IntKind.u64.wrap (a0)) (IntKind.u64.wrap (a1))).bind fun bt101 => (if bt101.1 = 0 then ((word_To_uint8_uint64.f bt101.2).bind fun bt103 => (some (bt103.1, bt103.2))) else (some (0, false)))) = some (r1, r2) := h
  clear h
  replace H := Option.bind_eq_some_iff.mp H
  obtain ⟨⟨t101, t102⟩, A30, H⟩ := H
  replace H : (if t101 = 0 then ((word_To_uint8_uint64.f t102).bind fun bt103 => (some (bt103.1, bt103.2))) else (some (0, false))) = some (r1, r2) := H
  have A3 := Aside0.mk A30
  clear A30
  by_cases c4 : t101 = 0
  · rw [if_pos c4] at H
    have c4b0 : (t101 == 0) = true := beq_iff_eq.mpr c4
    have c4b1 : (t101 != 0) = false := bne_eq_false_iff_eq.mpr c4
    clear c4
    replace H := Option.bind_eq_some_iff.mp H
    obtain ⟨⟨t103, t104⟩, A50, H⟩ := H
    replace H : (some (t103, t104)) = some (r1, r2) := H
    have A5 := Aside0.mk A50
    clear A50
    simp only [Option.some.injEq, Prod.mk.injEq] at H
    obtain ⟨rfl, rfl⟩ := H
    go_enter Try.func46, Try.ntmps46
    go_wp2_with (first | ((with_reducible refine gate_callee (f := 90) rfl ?_); refine goesL_ (some 13) rfl rfl Try.func90 (by kernel_rfl) rfl #[.int .u64 (IntKind.u64.wrap (a0)), .int .u64 (IntKind.u64.wrap (a1))] rfl (by (try simp only [List.map_toArray, List.map_cons, List.map_nil]); first | done | rfl | (simp only [List.length_drop, List.length_take]; rfl)) ?_; (with_reducible refine (bits_Mul64.calls (IntKind.u64.wrap (a0)) (IntKind.u64.wrap (a1)) t101 t102 _ A3.out).mono ?_); rintro e w' ⟨rfl, ⟨nd, rfl⟩⟩; refine ⟨_, rfl, ?_⟩) | ((with_reducible refine gate_callee (f := 91) rfl ?_); refine goesL_ (some 19) rfl rfl Try.func91 (by kernel_rfl) rfl #[.int .u64 t102] rfl (by (try simp only [List.map_toArray, List.map_cons, List.map_nil]); first | done | rfl | (simp only [List.length_drop, List.length_take]; rfl)) ?_; (with_reducible refine (word_To_uint8_uint64.calls t102 t103 t104 _ A5.out).mono ?_); rintro e w' ⟨rfl, ⟨nd, rfl⟩⟩; refine ⟨_, rfl, ?_⟩))
    go_ret2
    exact ⟨by first | rfl | (simp; done) | (simp [*]; done), by repeat (first | exact Drawn0.refl _ | apply Drawn0.step)⟩
  · rw [if_neg c4] at H
    have c4b0 : (t101 == 0) = false := beq_eq_false_iff_ne.mpr c4
    have c4b1 : (t101 != 0) = true := bne_iff_ne.mpr c4
    simp only [Option.some.injEq, Prod.mk.injEq] at H
    obtain ⟨rfl, rfl⟩ := H
    go_enter Try.func46, Try.ntmps46
    go_wp2_with (first | ((with_reducible refine gate_callee (f := 90) rfl ?_); refine goesL_ (some 13) rfl rfl Try.func90 (by kernel_rfl) rfl #[.int .u64 (IntKind.u64.wrap (a0)), .int .u64 (IntKind.u64.wrap (a1))] rfl (by (try simp only [List.map_toArray, List.map_cons, List.map_nil]); first | done | rfl | (simp only [List.length_drop, List.length_take]; rfl)) ?_; (with_reducible refine (bits_Mul64.calls (IntKind.u64.wrap (a0)) (IntKind.u64.wrap (a1)) t101 t102 _ A3.out).mono ?_); rintro e w' ⟨rfl, ⟨nd, rfl⟩⟩; refine ⟨_, rfl, ?_⟩))
    go_ret2
    exact ⟨by first | rfl | (simp; done) | (simp [*]; done), by repeat (first | exact Drawn0.refl _ | apply Drawn0.step)⟩

/-! ### word_Sub_uint8: function 60 -/
def word_Sub_uint8.f (a0 : Int) (a1 : Int) : Option (Int × Bool) := if a1 > a0 then (some (0, false)) else (some ((a0 - a1) % 256, true))
set_option maxHeartbeats 8000000 in
set_option maxRecDepth 100000 in
theorem word_Sub_uint8.calls (a0 : Int) (a1 : Int) (r1 : Int) (r2 : Bool) (w : World) (h : word_Sub_uint8.f a0 a1 = some (r1, r2)) :
    Calls Try.prog 60 #[.int .u8 a0, .int .u8 a1] w fun e w' => e = .returned (.tuple #[.int .u8 r1, .bool r2]) ∧ Drawn0 w w' := by
  have H : (if a1 > a0 then (some (0, false)) else (some ((a0 - a1) % 256, true))) = some (r1, r2) := h
  clear h
  by_cases c3 : a1 > a0
  · rw [if_pos c3] at H
    have c3b0 : decide (a0 < a1) = true := decide_eq_true c3
    clear c3
    simp only [Option.some.injEq, Prod.mk.injEq] at H
    obtain ⟨rfl, rfl⟩ := H
    go_enter Try.func60, Try.ntmps60
    go_wp2
    go_ret2
    exact ⟨by first | rfl | (simp; done) | (simp [*]; done), by repeat (first | exact Drawn0.refl _ | apply Drawn0.step)⟩
  · rw [if_neg c3] at H
    have c3b0 : decide (a0 < a1) = false := decide_eq_false c3
    clear c3
    simp only [Option.some.injEq, Prod.mk.injEq] at H
    obtain ⟨rfl, rfl⟩ := H
    go_enter Try.func60, Try.ntmps60
    go_wp2
    go_ret2
    exact ⟨by first | rfl | (simp; done) | (simp [*]; done), by repeat (first | exact Drawn0.refl _ | apply Drawn0.step)⟩

/-! ### word_Up_uint8: function 61 -/
def word_Up_uint8.f (a0 : Int) (a1 : Int) : Option (Int × Bool) := if a1 = 0 then (some (0, false)) else (if (Int.tmod a0 a1) = 0 then (some (a0, true)) else ((word_Add_uint8.f ((a0 - (Int.tmod a0 a1)) % 256) a1).bind fun bt105 => (some (bt105.1, bt105.2))))
set_option maxHeartbeats 8000000 in
set_option maxRecDepth 100000 in
theorem word_Up_uint8.calls (a0 : Int) (a1 : Int) (r1 : Int) (r2 : Bool) (w : World) (h : word_Up_uint8.f a0 a1 = some (r1, r2)) :
    Calls Try.prog 61 #[.int .u8 a0, .int .u8 a1] w fun e w' => e = .returned (.tuple #[.int .u8 r1, .bool r2]) ∧ Drawn0 w w' := by
  have H : (if a1 = 0 then (some (0, false)) else (if (Int.tmod a0 a1) = 0 then (some (a0, true)) else ((word_Add_uint8.f ((a0 - (Int.tmod a0 a1)) % 256) a1).bind fun bt105 => (some (bt105.1, bt105.2))))) = some (r1, r2) := h
  clear h
  by_cases c3 : a1 = 0
  · rw [if_pos c3] at H
    have c3b0 : (a1 == 0) = true := beq_iff_eq.mpr c3
    have c3b1 : (a1 != 0) = false := bne_eq_false_iff_eq.mpr c3
    clear c3
    simp only [Option.some.injEq, Prod.mk.injEq] at H
    obtain ⟨rfl, rfl⟩ := H
    go_enter Try.func61, Try.ntmps61
    go_wp2
    go_ret2
    exact ⟨by first | rfl | (simp; done) | (simp [*]; done), by repeat (first | exact Drawn0.refl _ | apply Drawn0.step)⟩
  · rw [if_neg c3] at H
    have c3b0 : (a1 == 0) = false := beq_eq_false_iff_ne.mpr c3
    have c3b1 : (a1 != 0) = true := bne_iff_ne.mpr c3
    by_cases c4 : (Int.tmod a0 a1) = 0
    · rw [if_pos c4] at H
      have c4b0 : ((Int.tmod a0 a1) == 0) = true := beq_iff_eq.mpr c4
      have c4b1 : ((Int.tmod a0 a1) != 0) = false := bne_eq_false_iff_eq.mpr c4
      clear c4
      simp only [Option.some.injEq, Prod.mk.injEq] at H
      obtain ⟨rfl, rfl⟩ := H
      go_enter Try.func61, Try.ntmps61
      go_wp2
      go_ret2
      exact ⟨by first | rfl | (simp; done) | (simp [*]; done), by repeat (first | exact Drawn0.refl _ | apply Drawn0.step)⟩
    · rw [if_neg c4] at H
      have c4b0 : ((Int.tmod a0 a1) == 0) = false := beq_eq_false_iff_ne.mpr c4
      have c4b1 : ((Int.tmod a0 a1) != 0) = true := bne_iff_ne.mpr c4
      replace H := Option.bind_eq_some_iff.mp H
      obtain ⟨⟨t105, t106⟩, A50, H⟩ := H
      replace H : (some (t105, t106)) = some (r1, r2) := H
      have A5 := Aside0.mk A50
      clear A50
      simp only [Option.some.injEq, Prod.mk.injEq] at H
      obtain ⟨rfl, rfl⟩ := H
      go_enter Try.func61, Try.ntmps61
      go_wp2_with (first | ((with_reducible refine gate_callee (f := 19) rfl ?_); refine goesL_ (some 19) rfl rfl Try.func19 (by kernel_rfl) rfl #[.int .u8 ((a0 - (Int.tmod a0 a1)) % 256), .int .u8 a1] rfl (by (try simp only [List.map_toArray, List.map_cons, List.map_nil]); first | done | rfl | (simp only [List.length_drop, List.length_take]; rfl)) ?_; (with_reducible refine (word_Add_uint8.calls ((a0 - (Int.tmod a0 a1)) % 256) a1 t105 t106 _ A5.out).mono ?_); rintro e w' ⟨rfl, ⟨nd, rfl⟩⟩; refine ⟨_, rfl, ?_⟩))
      go_ret2
      exact ⟨by first | rfl | (simp; done) | (simp [*]; done), by repeat (first | exact Drawn0.refl _ | apply Drawn0.step)⟩

/-! ### bulkheadlaw1_kin_uint8: function 20 -/
mutual
def bulkheadlaw1_kin_uint8.j0 : Nat → Int → Int → Option (Bool)
  | 0, _, _ => none
  | k + 1, x0, x1 => (word_Sub_uint8.f x0 x1).bind fun bt111 => (if (bt111.2 != (decide (x0 ≥ x1))) = true then (some false) else (if bt111.2 = true then ((word_Add_uint8.f bt111.1 x1).bind fun bt113 => (if bt113.2 = true then (if bt113.1 = x0 then (bulkheadlaw1_kin_uint8.j1 k x0 x1) else (some false)) else (some false))) else (bulkheadlaw1_kin_uint8.j1 k x0 x1)))
def bulkheadlaw1_kin_uint8.j1 : Nat → Int → Int → Option (Bool)
  | 0, _, _ => none
  | k + 1, x0, x1 => (word_Mul_uint8.f x0 x1).bind fun bt115 => (if bt115.2 = true then (if x1 > 0 then (if x1 = 0 then (none) else (if ((Int.tdiv bt115.1 x1) % 256) = x0 then (bulkheadlaw1_kin_uint8.j2 k x0 x1 ((Int.tmod bt115.1 x1) != 0)) else (bulkheadlaw1_kin_uint8.j2 k x0 x1 true))) else (bulkheadlaw1_kin_uint8.j2 k x0 x1 false)) else (bulkheadlaw1_kin_uint8.j2 k x0 x1 false))
def bulkheadlaw1_kin_uint8.j2 : Nat → Int → Int → Bool → Option (Bool)
  | 0, _, _, _ => none
  | k + 1, x0, x1, x92 => if x92 = true then (some false) else ((word_Up_uint8.f x0 x1).bind fun bt117 => (if bt117.2 = true then (if bt117.1 < x0 then (bulkheadlaw1_kin_uint8.j3 k x0 true) else (if ((bt117.1 - x0) % 256) ≥ x1 then (bulkheadlaw1_kin_uint8.j3 k x0 true) else (if x1 = 0 then (none) else (bulkheadlaw1_kin_uint8.j3 k x0 ((Int.tmod bt117.1 x1) != 0))))) else (bulkheadlaw1_kin_uint8.j3 k x0 false)))
def bulkheadlaw1_kin_uint8.j3 : Nat → Int → Bool → Option (Bool)
  | 0, _, _ => none
  | k + 1, x0, x117 => if x117 = true then (some false) else ((word_Up_uint8.f x0 0).bind fun bt119 => ((word_Up_uint8.f x0 1).bind fun bt121 => (if bt119.2 = true then (some false) else (if bt119.1 = 0 then (if bt121.2 = true then (some (bt121.1 == x0)) else (some false)) else (some false)))))
end
def bulkheadlaw1_kin_uint8.f (k : Nat) (a0 : Int) (a1 : Int) : Option (Bool) := (word_Add_uint8.f a0 a1).bind fun bt107 => (if bt107.2 = true then ((word_Sub_uint8.f bt107.1 a1).bind fun bt109 => (if bt109.2 = true then (if bt109.1 = a0 then (if bt107.1 < a0 then (some false) else (bulkheadlaw1_kin_uint8.j0 k a0 a1)) else (some false)) else (some false))) else (bulkheadlaw1_kin_uint8.j0 k a0 a1))
theorem bulkheadlaw1_kin_uint8.mono_l : ∀ k, (∀ y0 y1, LeO (bulkheadlaw1_kin_uint8.j0 k y0 y1) (bulkheadlaw1_kin_uint8.j0 (k + 1) y0 y1)) ∧ (∀ y0 y1, LeO (bulkheadlaw1_kin_uint8.j1 k y0 y1) (bulkheadlaw1_kin_uint8.j1 (k + 1) y0 y1)) ∧ (∀ y0 y1 y2, LeO (bulkheadlaw1_kin_uint8.j2 k y0 y1 y2) (bulkheadlaw1_kin_uint8.j2 (k + 1) y0 y1 y2)) ∧ (∀ y0 y1, LeO (bulkheadlaw1_kin_uint8.j3 k y0 y1) (bulkheadlaw1_kin_uint8.j3 (k + 1) y0 y1))
  | 0 => ⟨fun _ _ r h => by simp [bulkheadlaw1_kin_uint8.j0] at h, fun _ _ r h => by simp [bulkheadlaw1_kin_uint8.j1] at h, fun _ _ _ r h => by simp [bulkheadlaw1_kin_uint8.j2] at h, fun _ _ r h => by simp [bulkheadlaw1_kin_uint8.j3] at h⟩
  | k + 1 => by
    obtain ⟨ih0, ih1, ih2, ih3⟩ := bulkheadlaw1_kin_uint8.mono_l k
    refine ⟨?_, ?_, ?_, ?_⟩
    · intro y0 y1
      unfold bulkheadlaw1_kin_uint8.j0
      repeat' first
      | (with_reducible exact ih0 _ _)
      | (with_reducible exact ih1 _ _)
      | (with_reducible exact ih2 _ _ _)
      | (with_reducible exact ih3 _ _)
      | (with_reducible exact LeO.refl _)
      | (with_reducible exact LeO.none _)
      | (with_reducible refine LeO.ite ?_ ?_)
      | (with_reducible refine LeO.bind ?_ (fun _ => ?_))
      | exact ih0 _ _
      | exact ih1 _ _
      | exact ih2 _ _ _
      | exact ih3 _ _
      | exact LeO.none _
      | refine LeO.ite ?_ ?_
      | refine LeO.bind ?_ (fun _ => ?_)
    · intro y0 y1
      unfold bulkheadlaw1_kin_uint8.j1
      repeat' first
      | (with_reducible exact ih0 _ _)
      | (with_reducible exact ih1 _ _)
      | (with_reducible exact ih2 _ _ _)
      | (with_reducible exact ih3 _ _)
      | (with_reducible exact LeO.refl _)
      | (with_reducible exact LeO.none _)
      | (with_reducible refine LeO.ite ?_ ?_)
      | (with_reducible refine LeO.bind ?_ (fun _ => ?_))
      | exact ih0 _ _
      | exact ih1 _ _
      | exact ih2 _ _ _
      | exact ih3 _ _
      | exact LeO.none _
      | refine LeO.ite ?_ ?_
      | refine LeO.bind ?_ (fun _ => ?_)
    · intro y0 y1 y2
      unfold bulkheadlaw1_kin_uint8.j2
      repeat' first
      | (with_reducible exact ih0 _ _)
      | (with_reducible exact ih1 _ _)
      | (with_reducible exact ih2 _ _ _)
      | (with_reducible exact ih3 _ _)
      | (with_reducible exact LeO.refl _)
      | (with_reducible exact LeO.none _)
      | (with_reducible refine LeO.ite ?_ ?_)
      | (with_reducible refine LeO.bind ?_ (fun _ => ?_))
      | exact ih0 _ _
      | exact ih1 _ _
      | exact ih2 _ _ _
      | exact ih3 _ _
      | exact LeO.none _
      | refine LeO.ite ?_ ?_
      | refine LeO.bind ?_ (fun _ => ?_)
    · intro y0 y1
      unfold bulkheadlaw1_kin_uint8.j3
      repeat' first
      | (with_reducible exact ih0 _ _)
      | (with_reducible exact ih1 _ _)
      | (with_reducible exact ih2 _ _ _)
      | (with_reducible exact ih3 _ _)
      | (with_reducible exact LeO.refl _)
      | (with_reducible exact LeO.none _)
      | (with_reducible refine LeO.ite ?_ ?_)
      | (with_reducible refine LeO.bind ?_ (fun _ => ?_))
      | exact ih0 _ _
      | exact ih1 _ _
      | exact ih2 _ _ _
      | exact ih3 _ _
      | exact LeO.none _
      | refine LeO.ite ?_ ?_
      | refine LeO.bind ?_ (fun _ => ?_)
theorem bulkheadlaw1_kin_uint8.mono : ∀ a0 a1 k, LeO (bulkheadlaw1_kin_uint8.f k a0 a1) (bulkheadlaw1_kin_uint8.f (k + 1) a0 a1) := by
  intro a0 a1 k
  obtain ⟨ih0, ih1, ih2, ih3⟩ := bulkheadlaw1_kin_uint8.mono_l k
  unfold bulkheadlaw1_kin_uint8.f
  repeat' first
      | (with_reducible exact ih0 _ _)
      | (with_reducible exact ih1 _ _)
      | (with_reducible exact ih2 _ _ _)
      | (with_reducible exact ih3 _ _)
      | (with_reducible exact LeO.refl _)
      | (with_reducible exact LeO.none _)
      | (with_reducible refine LeO.ite ?_ ?_)
      | (with_reducible refine LeO.bind ?_ (fun _ => ?_))
      | exact ih0 _ _
      | exact ih1 _ _
      | exact ih2 _ _ _
      | exact ih3 _ _
      | exact LeO.none _
      | refine LeO.ite ?_ ?_
      | refine LeO.bind ?_ (fun _ => ?_)
set_option maxHeartbeats 8000000 in
set_option maxRecDepth 100000 in
theorem bulkheadlaw1_kin_uint8.calls (k : Nat) (a0 : Int) (a1 : Int) (r : Bool) (w : World) (h : bulkheadlaw1_kin_uint8.f k a0 a1 = some r) :
    Calls Try.prog 20 #[.int .u8 a0, .int .u8 a1] w fun e w' => e = .returned (.bool r) ∧ Drawn0 w w' := by
  have H : ((word_Add_uint8.f a0 a1).bind fun bt107 => (if bt107.2 = true then ((word_Sub_uint8.f bt107.1 a1).bind fun bt109 => (if bt109.2 = true then (if bt109.1 = a0 then (if bt107.1 < a0 then (some false) else (bulkheadlaw1_kin_uint8.j0 k a0 a1)) else (some false)) else (some false))) else (bulkheadlaw1_kin_uint8.j0 k a0 a1))) = some r := h
  clear h
  replace H := Option.bind_eq_some_iff.mp H
  obtain ⟨⟨t107, t108⟩, A30, H⟩ := H
  replace H : (if t108 = true then ((word_Sub_uint8.f t107 a1).bind fun bt109 => (if bt109.2 = true then (if bt109.1 = a0 then (if t107 < a0 then (some false) else (bulkheadlaw1_kin_uint8.j0 k a0 a1)) else (some false)) else (some false))) else (bulkheadlaw1_kin_uint8.j0 k a0 a1)) = some r := H
  have A3 := Aside0.mk A30
  clear A30
  have HC4 := Aside0.mk H
  clear H
  go_enter Try.func20, Try.ntmps20
  go_upto_if 25 with (first | ((with_reducible refine gate_callee (f := 19) rfl ?_); refine goesL_ (some 22) rfl rfl Try.func19 (by kernel_rfl) rfl #[.int .u8 a0, .int .u8 a1] rfl (by (try simp only [List.map_toArray, List.map_cons, List.map_nil]); first | done | rfl | (simp only [List.length_drop, List.length_take]; rfl)) ?_; (with_reducible refine (word_Add_uint8.calls a0 a1 t107 t108 _ A3.out).mono ?_); rintro e w' ⟨rfl, ⟨nd, rfl⟩⟩; refine ⟨_, rfl, ?_⟩))
  (try simp only [Act.put, List.setIfInBounds_toArray, List.set_cons_zero, List.set_cons_succ])
  go_cut [] (fun wc => ∃ (kq : Nat), Aside0 (bulkheadlaw1_kin_uint8.j0 kq a0 a1 = some r) ∧ Aside0 (kq ≤ k) ∧ Drawn0 w wc)
  case first =>
    have H := HC4.out
    clear HC4
    by_cases c5 : t108 = true
    · subst c5
      have H1 : ((word_Sub_uint8.f t107 a1).bind fun bt109 => (if bt109.2 = true then (if bt109.1 = a0 then (if t107 < a0 then (some false) else (bulkheadlaw1_kin_uint8.j0 k a0 a1)) else (some false)) else (some false))) = some r := by rw [if_pos rfl] at H; exact H
      clear H
      have H := H1
      clear H1
      replace H := Option.bind_eq_some_iff.mp H
      obtain ⟨⟨t109, t110⟩, A60, H⟩ := H
      replace H : (if t110 = true then (if t109 = a0 then (if t107 < a0 then (some false) else (bulkheadlaw1_kin_uint8.j0 k a0 a1)) else (some false)) else (some false)) = some r := H
      have A6 := Aside0.mk A60
      clear A60
      by_cases c7 : t110 = true
      · subst c7
        have H1 : (if t109 = a0 then (if t107 < a0 then (some false) else (bulkheadlaw1_kin_uint8.j0 k a0 a1)) else (some false)) = some r := by rw [if_pos rfl] at H; exact H
        clear H
        have H := H1
        clear H1
        by_cases c8 : t109 = a0
        · rw [if_pos c8] at H
          have c8b0 : (t109 == a0) = true := beq_iff_eq.mpr c8
          have c8b1 : (t109 != a0) = false := bne_eq_false_iff_eq.mpr c8
          clear c8
          (first | rw [c8b0] | (simp only [i64_w, i32_w]; rw [c8b0]) | skip)
          by_cases c9 : t107 < a0
          · rw [if_pos c9] at H
            have c9b0 : decide (t107 < a0) = true := decide_eq_true c9
            clear c9
            obtain rfl := Option.some.inj H
            go_wp2_with (first | ((with_reducible refine gate_callee (f := 60) rfl ?_); refine goesL_ (some 29) rfl rfl Try.func60 (by kernel_rfl) rfl #[.int .u8 t107, .int .u8 a1] rfl (by (try simp only [List.map_toArray, List.map_cons, List.map_nil]); first | done | rfl | (simp only [List.length_drop, List.length_take]; rfl)) ?_; (with_reducible refine (word_Sub_uint8.calls t107 a1 t109 true _ A6.out).mono ?_); rintro e w' ⟨rfl, ⟨nd, rfl⟩⟩; refine ⟨_, rfl, ?_⟩))
            go_ret
            exact ⟨by first | rfl | (simp; done) | (simp [*]; done), by repeat (first | exact Drawn0.refl _ | apply Drawn0.step)⟩
          · rw [if_neg c9] at H
            have c9b0 : decide (t107 < a0) = false := decide_eq_false c9
            clear c9
            have H' := Aside0.mk H
            clear H
            go_wp2_with (first | ((with_reducible refine gate_callee (f := 60) rfl ?_); refine goesL_ (some 29) rfl rfl Try.func60 (by kernel_rfl) rfl #[.int .u8 t107, .int .u8 a1] rfl (by (try simp only [List.map_toArray, List.map_cons, List.map_nil]); first | done | rfl | (simp only [List.length_drop, List.length_take]; rfl)) ?_; (with_reducible refine (word_Sub_uint8.calls t107 a1 t109 true _ A6.out).mono ?_); rintro e w' ⟨rfl, ⟨nd, rfl⟩⟩; refine ⟨_, rfl, ?_⟩))
            go_meet
            case rel => exact ⟨_, H', ⟨by first | omega | exact Nat.le_refl _⟩, by repeat (first | exact Drawn0.refl _ | apply Drawn0.step)⟩
        · rw [if_neg c8] at H
          have c8b0 : (t109 == a0) = false := beq_eq_false_iff_ne.mpr c8
          have c8b1 : (t109 != a0) = true := bne_iff_ne.mpr c8
          (first | rw [c8b0] | (simp only [i64_w, i32_w]; rw [c8b0]) | skip)
          obtain rfl := Option.some.inj H
          go_wp2_with (first | ((with_reducible refine gate_callee (f := 60) rfl ?_); refine goesL_ (some 29) rfl rfl Try.func60 (by kernel_rfl) rfl #[.int .u8 t107, .int .u8 a1] rfl (by (try simp only [List.map_toArray, List.map_cons, List.map_nil]); first | done | rfl | (simp only [List.length_drop, List.length_take]; rfl)) ?_; (with_reducible refine (word_Sub_uint8.calls t107 a1 t109 true _ A6.out).mono ?_); rintro e w' ⟨rfl, ⟨nd, rfl⟩⟩; refine ⟨_, rfl, ?_⟩))
          go_ret
          exact ⟨by first | rfl | (simp; done) | (simp [*]; done), by repeat (first | exact Drawn0.refl _ | apply Drawn0.step)⟩
      · replace c7 := Bool.eq_false_iff.mpr c7
        subst c7
        have H1 : (some false) = some r := by rw [if_neg (show ¬ (false = true) by decide)] at H; exact H
        clear H
        have H := H1
        clear H1
        obtain rfl := Option.some.inj H
        go_wp2_with (first | ((with_reducible refine gate_callee (f := 60) rfl ?_); refine goesL_ (some 29) rfl rfl Try.func60 (by kernel_rfl) rfl #[.int .u8 t107, .int .u8 a1] rfl (by (try simp only [List.map_toArray, List.map_cons, List.map_nil]); first | done | rfl | (simp only [List.length_drop, List.length_take]; rfl)) ?_; (with_reducible refine (word_Sub_uint8.calls t107 a1 t109 false _ A6.out).mono ?_); rintro e w' ⟨rfl, ⟨nd, rfl⟩⟩; refine ⟨_, rfl, ?_⟩))
        go_ret
        exact ⟨by first | rfl | (simp; done) | (simp [*]; done), by repeat (first | exact Drawn0.refl _ | apply Drawn0.step)⟩
    · replace c5 := Bool.eq_false_iff.mpr c5
      subst c5
      have H1 : (bulkheadlaw1_kin_uint8.j0 k a0 a1) = some r := by rw [if_neg (show ¬ (false = true) by decide)] at H; exact H
      clear H
      have H := H1
      clear H1
      have H' := Aside0.mk H
      clear H
      go_wp2
      go_meet
      case rel => exact ⟨_, H', ⟨by first | omega | exact Nat.le_refl _⟩, by repeat (first | exact Drawn0.refl _ | apply Drawn0.step)⟩
  case rest =>
    clear HC4
    try clear c1
    try clear c2
    try clear p2
    try clear c5
    try clear c6
    try clear c7
    try clear c8
    try clear c8b0
    try clear c8b1
    try clear c9
    try clear c9b0
    obtain ⟨kq, HA, HJ3, ⟨mc3, rfl⟩⟩ := hcut
    cases kq with
    | zero => exact absurd HA.out (by simp [bulkheadlaw1_kin_uint8.j0])
    | succ kj3 =>
      have H := HA.out
      clear HA
      simp only [bulkheadlaw1_kin_uint8.j0] at H
      replace H := Option.bind_eq_some_iff.mp H
      obtain ⟨⟨t111, t112⟩, A100, H⟩ := H
      replace H : (if (t112 != (decide (a0 ≥ a1))) = true then (some false) else (if t112 = true then ((word_Add_uint8.f t111 a1).bind fun bt113 => (if bt113.2 = true then (if bt113.1 = a0 then (bulkheadlaw1_kin_uint8.j1 kj3 a0 a1) else (some false)) else (some false))) else (bulkheadlaw1_kin_uint8.j1 kj3 a0 a1))) = some r := H
      have A10 := Aside0.mk A100
      clear A100
      by_cases c11 : (t112 != (decide (a0 ≥ a1))) = true
      · rw [if_pos c11] at H
        have c11b0 : (t112 != (decide (a0 ≥ a1))) = true := c11
        (try (have c11b1 : decide (t112 = (decide (a0 ≥ a1))) = false := by simpa using c11))
        (try (have c11b2 : (t112 == (decide (a0 ≥ a1))) = false := by simpa using c11))
        (try (have c11b3 : ¬ (t112 = (decide (a0 ≥ a1))) := by simpa using c11))
        clear c11
        obtain rfl := Option.some.inj H
        go_wp2_with (first | ((with_reducible refine gate_callee (f := 60) rfl ?_); refine goesL_ (some 47) rfl rfl Try.func60 (by kernel_rfl) rfl #[.int .u8 a0, .int .u8 a1] rfl (by (try simp only [List.map_toArray, List.map_cons, List.map_nil]); first | done | rfl | (simp only [List.length_drop, List.length_take]; rfl)) ?_; (with_reducible refine (word_Sub_uint8.calls a0 a1 t111 t112 _ A10.out).mono ?_); rintro e w' ⟨rfl, ⟨nd, rfl⟩⟩; refine ⟨_, rfl, ?_⟩))
        go_ret
        exact ⟨by first | rfl | (simp; done) | (simp [*]; done), by repeat (first | exact Drawn0.refl _ | apply Drawn0.step)⟩
      · rw [if_neg c11] at H
        have c11b0 : (t112 != (decide (a0 ≥ a1))) = false := by simpa using c11
        (try (have c11b1 : decide (t112 = (decide (a0 ≥ a1))) = true := by simpa using c11))
        (try (have c11b2 : (t112 == (decide (a0 ≥ a1))) = true := by simpa using c11))
        clear c11
        have HC12 := Aside0.mk H
        clear H
        go_upto_if 55 with (first | ((with_reducible refine gate_callee (f := 60) rfl ?_); refine goesL_ (some 47) rfl rfl Try.func60 (by kernel_rfl) rfl #[.int .u8 a0, .int .u8 a1] rfl (by (try simp only [List.map_toArray, List.map_cons, List.map_nil]); first | done | rfl | (simp only [List.length_drop, List.length_take]; rfl)) ?_; (with_reducible refine (word_Sub_uint8.calls a0 a1 t111 t112 _ A10.out).mono ?_); rintro e w' ⟨rfl, ⟨nd, rfl⟩⟩; refine ⟨_, rfl, ?_⟩))
        (try simp only [Act.put, List.setIfInBounds_toArray, List.set_cons_zero, List.set_cons_succ])
        go_cut [] (fun wc => ∃ (kq : Nat), Aside0 (bulkheadlaw1_kin_uint8.j1 kq a0 a1 = some r) ∧ Aside0 (kq ≤ kj3) ∧ Drawn0 w wc)
        case first =>
          have H := HC12.out
          clear HC12
          by_cases c13 : t112 = true
          · subst c13
            have H1 : ((word_Add_uint8.f t111 a1).bind fun bt113 => (if bt113.2 = true then (if bt113.1 = a0 then (bulkheadlaw1_kin_uint8.j1 kj3 a0 a1) else (some false)) else (some false))) = some r := by rw [if_pos rfl] at H; exact H
            clear H
            have H := H1
            clear H1
            replace H := Option.bind_eq_some_iff.mp H
            obtain ⟨⟨t113, t114⟩, A140, H⟩ := H
            replace H : (if t114 = true then (if t113 = a0 then (bulkheadlaw1_kin_uint8.j1 kj3 a0 a1) else (some false)) else (some false)) = some r := H
            have A14 := Aside0.mk A140
            clear A140
            by_cases c15 : t114 = true
            · subst c15
              have H1 : (if t113 = a0 then (bulkheadlaw1_kin_uint8.j1 kj3 a0 a1) else (some false)) = some r := by rw [if_pos rfl] at H; exact H
              clear H
              have H := H1
              clear H1
              by_cases c16 : t113 = a0
              · rw [if_pos c16] at H
                have c16b0 : (t113 == a0) = true := beq_iff_eq.mpr c16
                have c16b1 : (t113 != a0) = false := bne_eq_false_iff_eq.mpr c16
                clear c16
                (first | rw [c16b0] | (simp only [i64_w, i32_w]; rw [c16b0]) | skip)
                have H' := Aside0.mk H
                clear H
                go_wp2_with (first | ((with_reducible refine gate_callee (f := 19) rfl ?_); refine goesL_ (some 59) rfl rfl Try.func19 (by kernel_rfl) rfl #[.int .u8 t111, .int .u8 a1] rfl (by (try simp only [List.map_toArray, List.map_cons, List.map_nil]); first | done | rfl | (simp only [List.length_drop, List.length_take]; rfl)) ?_; (with_reducible refine (word_Add_uint8.calls t111 a1 t113 true _ A14.out).mono ?_); rintro e w' ⟨rfl, ⟨nd, rfl⟩⟩; refine ⟨_, rfl, ?_⟩))
                go_meet
                case rel => exact ⟨_, H', ⟨by have := HJ3.out; first | omega | exact Nat.le_refl _⟩, by repeat (first | exact Drawn0.refl _ | apply Drawn0.step)⟩
              · rw [if_neg c16] at H
                have c16b0 : (t113 == a0) = false := beq_eq_false_iff_ne.mpr c16
                have c16b1 : (t113 != a0) = true := bne_iff_ne.mpr c16
                (first | rw [c16b0] | (simp only [i64_w, i32_w]; rw [c16b0]) | skip)
                obtain rfl := Option.some.inj H
                go_wp2_with (first | ((with_reducible refine gate_callee (f := 19) rfl ?_); refine goesL_ (some 59) rfl rfl Try.func19 (by kernel_rfl) rfl #[.int .u8 t111, .int .u8 a1] rfl (by (try simp only [List.map_toArray, List.map_cons, List.map_nil]); first | done | rfl | (simp only [List.length_drop, List.length_take]; rfl)) ?_; (with_reducible refine (word_Add_uint8.calls t111 a1 t113 true _ A14.out).mono ?_); rintro e w' ⟨rfl, ⟨nd, rfl⟩⟩; refine ⟨_, rfl, ?_⟩))
                go_ret
                exact ⟨by first | rfl | (simp; done) | (simp [*]; done), by repeat (first | exact Drawn0.refl _ | apply Drawn0.step)⟩
            · replace c15 := Bool.eq_false_iff.mpr c15
              subst c15
              have H1 : (some false) = some r := by rw [if_neg (show ¬ (false = true) by decide)] at H; exact H
              clear H
              have H := H1
              clear H1
              obtain rfl := Option.some.inj H
              go_wp2_with (first | ((with_reducible refine gate_callee (f := 19) rfl ?_); refine goesL_ (some 59) rfl rfl Try.func19 (by kernel_rfl) rfl #[.int .u8 t111, .int .u8 a1] rfl (by (try simp only [List.map_toArray, List.map_cons, List.map_nil]); first | done | rfl | (simp only [List.length_drop, List.length_take]; rfl)) ?_; (with_reducible refine (word_Add_uint8.calls t111 a1 t113 false _ A14.out).mono ?_); rintro e w' ⟨rfl, ⟨nd, rfl⟩⟩; refine ⟨_, rfl, ?_⟩))
              go_ret
              exact ⟨by first | rfl | (simp; done) | (simp [*]; done), by repeat (first | exact Drawn0.refl _ | apply Drawn0.step)⟩
          · replace c13 := Bool.eq_false_iff.mpr c13
            subst c13
            have H1 : (bulkheadlaw1_kin_uint8.j1 kj3 a0 a1) = some r := by rw [if_neg (show ¬ (false = true) by decide)] at H; exact H
            clear H
            have H := H1
            clear H1
            have H' := Aside0.mk H
            clear H
            go_wp2
            go_meet
            case rel => exact ⟨_, H', ⟨by have := HJ3.out; first | omega | exact Nat.le_refl _⟩, by repeat (first | exact Drawn0.refl _ | apply Drawn0.step)⟩
        case rest =>
          clear HC12
          try clear c1
          try clear c2
          try clear p2
          try clear c3
          try clear c5
          try clear c6
          try clear c7
          try clear c8
          try clear c8b0
          try clear c8b1
          try clear c9
          try clear c9b0
          try clear c11
          try clear c11b0
          try clear c11b1
          try clear c11b2
          try clear c13
          try clear c15
          try clear c16
          try clear c16b0
          try clear c16b1
          try clear p2
          obtain ⟨kq, HA, HJ11, ⟨mc11, rfl⟩⟩ := hcut
          cases kq with
          | zero => exact absurd HA.out (by simp [bulkheadlaw1_kin_uint8.j1])
          | succ kj11 =>
            have H := HA.out
            clear HA
            simp only [bulkheadlaw1_kin_uint8.j1] at H
            replace H := Option.bind_eq_some_iff.mp H
            obtain ⟨⟨t115, t116⟩, A170, H⟩ := H
            replace H : (if t116 = true then (if a1 > 0 then (if a1 = 0 then (none) else (if ((Int.tdiv t115 a1) % 256) = a0 then (bulkheadlaw1_kin_uint8.j2 kj11 a0 a1 ((Int.tmod t115 a1) != 0)) else (bulkheadlaw1_kin_uint8.j2 kj11 a0 a1 true))) else (bulkheadlaw1_kin_uint8.j2 kj11 a0 a1 false)) else (bulkheadlaw1_kin_uint8.j2 kj11 a0 a1 false)) = some r := H
            have A17 := Aside0.mk A170
            clear A170
            have HC18 := Aside0.mk H
            clear H
            go_upto_region 14 with (first | ((with_reducible refine gate_callee (f := 46) rfl ?_); refine goesL_ (some 72) rfl rfl Try.func46 (by kernel_rfl) rfl #[.int .u8 a0, .int .u8 a1] rfl (by (try simp only [List.map_toArray, List.map_cons, List.map_nil]); first | done | rfl | (simp only [List.length_drop, List.length_take]; rfl)) ?_; (with_reducible refine (word_Mul_uint8.calls a0 a1 t115 t116 _ A17.out).mono ?_); rintro e w' ⟨rfl, ⟨nd, rfl⟩⟩; refine ⟨_, rfl, ?_⟩))
            (try simp only [Act.put, List.setIfInBounds_toArray, List.set_cons_zero, List.set_cons_succ])
            go_cut [92] (fun v92 wc => ∃ (kq : Nat) (x92_17 : Bool), v92 = .bool x92_17 ∧ Aside0 (bulkheadlaw1_kin_uint8.j2 kq a0 a1 x92_17 = some r) ∧ Aside0 (kq ≤ kj11) ∧ Drawn0 w wc)
            case first =>
              have H := HC18.out
              clear HC18
              by_cases c19 : t116 = true
              · subst c19
                have H1 : (if a1 > 0 then (if a1 = 0 then (none) else (if ((Int.tdiv t115 a1) % 256) = a0 then (bulkheadlaw1_kin_uint8.j2 kj11 a0 a1 ((Int.tmod t115 a1) != 0)) else (bulkheadlaw1_kin_uint8.j2 kj11 a0 a1 true))) else (bulkheadlaw1_kin_uint8.j2 kj11 a0 a1 false)) = some r := by rw [if_pos rfl] at H; exact H
                clear H
                have H := H1
                clear H1
                by_cases c20 : a1 > 0
                · rw [if_pos c20] at H
                  have c20b0 : decide (0 < a1) = true := decide_eq_true c20
                  clear c20
                  (first | rw [c20b0] | (simp only [i64_w, i32_w]; rw [c20b0]) | skip)
                  by_cases c21 : a1 = 0
                  · rw [if_pos c21] at H
                    exact absurd H (by simp)
                  · rw [if_neg c21] at H
                    have c21b0 : (a1 == 0) = false := beq_eq_false_iff_ne.mpr c21
                    have c21b1 : (a1 != 0) = true := bne_iff_ne.mpr c21
                    by_cases c22 : ((Int.tdiv t115 a1) % 256) = a0
                    · rw [if_pos c22] at H
                      have c22b0 : (((Int.tdiv t115 a1) % 256) == a0) = true := beq_iff_eq.mpr c22
                      have c22b1 : (((Int.tdiv t115 a1) % 256) != a0) = false := bne_eq_false_iff_eq.mpr c22
                      clear c22
                      have H' := Aside0.mk H
                      clear H
                      go_wp2
                      go_meet
                      case rel => exact ⟨_, (((Int.tmod t115 a1) != 0)), (by first | rfl | (simp; done) | (simp [*]; done)), H', ⟨by have := HJ3.out; have := HJ11.out; first | omega | exact Nat.le_refl _⟩, by repeat (first | exact Drawn0.refl _ | apply Drawn0.step)⟩
                    · rw [if_neg c22] at H
                      have c22b0 : (((Int.tdiv t115 a1) % 256) == a0) = false := beq_eq_false_iff_ne.mpr c22
                      have c22b1 : (((Int.tdiv t115 a1) % 256) != a0) = true := bne_iff_ne.mpr c22
                      have H' := Aside0.mk H
                      clear H
                      go_wp2
                      go_meet
                      case rel => exact ⟨_, (true), (by first | rfl | (simp; done) | (simp [*]; done)), H', ⟨by have := HJ3.out; have := HJ11.out; first | omega | exact Nat.le_refl _⟩, by repeat (first | exact Drawn0.refl _ | apply Drawn0.step)⟩
                · rw [if_neg c20] at H
                  have c20b0 : decide (0 < a1) = false := decide_eq_false c20
                  clear c20
                  (first | rw [c20b0] | (simp only [i64_w, i32_w]; rw [c20b0]) | skip)
                  have H' := Aside0.mk H
                  clear H
                  go_wp2
                  go_meet
                  case rel => exact ⟨_, (false), (by first | rfl | (simp; done) | (simp [*]; done)), H', ⟨by have := HJ3.out; have := HJ11.out; first | omega | exact Nat.le_refl _⟩, by repeat (first | exact Drawn0.refl _ | apply Drawn0.step)⟩
              · replace c19 := Bool.eq_false_iff.mpr c19
                subst c19
                have H1 : (bulkheadlaw1_kin_uint8.j2 kj11 a0 a1 false) = some r := by rw [if_neg (show ¬ (false = true) by decide)] at H; exact H
                clear H
                have H := H1
                clear H1
                have H' := Aside0.mk H
                clear H
                go_wp2
                go_meet
                case rel => exact ⟨_, (false), (by first | rfl | (simp; done) | (simp [*]; done)), H', ⟨by have := HJ3.out; have := HJ11.out; first | omega | exact Nat.le_refl _⟩, by repeat (first | exact Drawn0.refl _ | apply Drawn0.step)⟩
            case rest =>
              clear HC18
              try clear c1
              try clear c2
              try clear p2
              try clear c3
              try clear c4
              try clear c5
              try clear c6
              try clear c7
              try clear c8
              try clear c8b0
              try clear c8b1
              try clear c9
              try clear c9b0
              try clear c11
              try clear c11b0
              try clear c11b1
              try clear c11b2
              try clear c13
              try clear c15
              try clear c16
              try clear c16b0
              try clear c16b1
              try clear c19
              try clear c20
              try clear c20b0
              try clear c21
              try clear c21b0
              try clear c21b1
              try clear c22
              try clear c22b0
              try clear c22b1
              try clear p2
              obtain ⟨kq, x92_17, rfl, HA, HJ17, ⟨mc17, rfl⟩⟩ := hcut
              cases kq with
              | zero => exact absurd HA.out (by simp [bulkheadlaw1_kin_uint8.j2])
              | succ kj17 =>
                have H := HA.out
                clear HA
                simp only [bulkheadlaw1_kin_uint8.j2] at H
                by_cases c23 : x92_17 = true
                · subst c23
                  have H1 : (some false) = some r := by rw [if_pos rfl] at H; exact H
                  clear H
                  have H := H1
                  clear H1
                  obtain rfl := Option.some.inj H
                  go_wp2
                  go_ret
                  exact ⟨by first | rfl | (simp; done) | (simp [*]; done), by repeat (first | exact Drawn0.refl _ | apply Drawn0.step)⟩
                · replace c23 := Bool.eq_false_iff.mpr c23
                  subst c23
                  have H1 : ((word_Up_uint8.f a0 a1).bind fun bt117 => (if bt117.2 = true then (if bt117.1 < a0 then (bulkheadlaw1_kin_uint8.j3 kj17 a0 true) else (if ((bt117.1 - a0) % 256) ≥ a1 then (bulkheadlaw1_kin_uint8.j3 kj17 a0 true) else (if a1 = 0 then (none) else (bulkheadlaw1_kin_uint8.j3 kj17 a0 ((Int.tmod bt117.1 a1) != 0))))) else (bulkheadlaw1_kin_uint8.j3 kj17 a0 false))) = some r := by rw [if_neg (show ¬ (false = true) by decide)] at H; exact H
                  clear H
                  have H := H1
                  clear H1
                  replace H := Option.bind_eq_some_iff.mp H
                  obtain ⟨⟨t117, t118⟩, A240, H⟩ := H
                  replace H : (if t118 = true then (if t117 < a0 then (bulkheadlaw1_kin_uint8.j3 kj17 a0 true) else (if ((t117 - a0) % 256) ≥ a1 then (bulkheadlaw1_kin_uint8.j3 kj17 a0 true) else (if a1 = 0 then (none) else (bulkheadlaw1_kin_uint8.j3 kj17 a0 ((Int.tmod t117 a1) != 0))))) else (bulkheadlaw1_kin_uint8.j3 kj17 a0 false)) = some r := H
                  have A24 := Aside0.mk A240
                  clear A240
                  have HC25 := Aside0.mk H
                  clear H
                  go_upto_region 17 with (first | ((with_reducible refine gate_callee (f := 61) rfl ?_); refine goesL_ (some 96) rfl rfl Try.func61 (by kernel_rfl) rfl #[.int .u8 a0, .int .u8 a1] rfl (by (try simp only [List.map_toArray, List.map_cons, List.map_nil]); first | done | rfl | (simp only [List.length_drop, List.length_take]; rfl)) ?_; (with_reducible refine (word_Up_uint8.calls a0 a1 t117 t118 _ A24.out).mono ?_); rintro e w' ⟨rfl, ⟨nd, rfl⟩⟩; refine ⟨_, rfl, ?_⟩))
                  (try simp only [Act.put, List.setIfInBounds_toArray, List.set_cons_zero, List.set_cons_succ])
                  go_cut [117] (fun v117 wc => ∃ (kq : Nat) (x117_24 : Bool), v117 = .bool x117_24 ∧ Aside0 (bulkheadlaw1_kin_uint8.j3 kq a0 x117_24 = some r) ∧ Aside0 (kq ≤ kj17) ∧ Drawn0 w wc)
                  case first =>
                    have H := HC25.out
                    clear HC25
                    by_cases c26 : t118 = true
                    · subst c26
                      have H1 : (if t117 < a0 then (bulkheadlaw1_kin_uint8.j3 kj17 a0 true) else (if ((t117 - a0) % 256) ≥ a1 then (bulkheadlaw1_kin_uint8.j3 kj17 a0 true) else (if a1 = 0 then (none) else (bulkheadlaw1_kin_uint8.j3 kj17 a0 ((Int.tmod t117 a1) != 0))))) = some r := by rw [if_pos rfl] at H; exact H
                      clear H
                      have H := H1
                      clear H1
                      by_cases c27 : t117 < a0
                      · rw [if_pos c27] at H
                        have c27b0 : decide (t117 < a0) = true := decide_eq_true c27
                        clear c27
                        (first | rw [c27b0] | (simp only [i64_w, i32_w]; rw [c27b0]) | skip)
                        have H' := Aside0.mk H
                        clear H
                        go_wp2
                        go_meet
                        case rel => exact ⟨_, (true), (by first | rfl | (simp; done) | (simp [*]; done)), H', ⟨by have := HJ3.out; have := HJ11.out; have := HJ17.out; first | omega | exact Nat.le_refl _⟩, by repeat (first | exact Drawn0.refl _ | apply Drawn0.step)⟩
                      · rw [if_neg c27] at H
                        have c27b0 : decide (t117 < a0) = false := decide_eq_false c27
                        clear c27
                        (first | rw [c27b0] | (simp only [i64_w, i32_w]; rw [c27b0]) | skip)
                        by_cases c28 : ((t117 - a0) % 256) ≥ a1
                        · rw [if_pos c28] at H
                          have c28b0 : decide (a1 ≤ ((t117 - a0) % 256)) = true := decide_eq_true c28
                          clear c28
                          have H' := Aside0.mk H
                          clear H
                          go_wp2
                          go_meet
                          case rel => exact ⟨_, (true), (by first | rfl | (simp; done) | (simp [*]; done)), H', ⟨by have := HJ3.out; have := HJ11.out; have := HJ17.out; first | omega | exact Nat.le_refl _⟩, by repeat (first | exact Drawn0.refl _ | apply Drawn0.step)⟩
                        · rw [if_neg c28] at H
                          have c28b0 : decide (a1 ≤ ((t117 - a0) % 256)) = false := decide_eq_false c28
                          clear c28
                          by_cases c29 : a1 = 0
                          · rw [if_pos c29] at H
                            exact absurd H (by simp)
                          · rw [if_neg c29] at H
                            have c29b0 : (a1 == 0) = false := beq_eq_false_iff_ne.mpr c29
                            have c29b1 : (a1 != 0) = true := bne_iff_ne.mpr c29
                            have H' := Aside0.mk H
                            clear H
                            go_wp2
                            go_meet
                            case rel => exact ⟨_, (((Int.tmod t117 a1) != 0)), (by first | rfl | (simp; done) | (simp [*]; done)), H', ⟨by have := HJ3.out; have := HJ11.out; have := HJ17.out; first | omega | exact Nat.le_refl _⟩, by repeat (first | exact Drawn0.refl _ | apply Drawn0.step)⟩
                    · replace c26 := Bool.eq_false_iff.mpr c26
                      subst c26
                      have H1 : (bulkheadlaw1_kin_uint8.j3 kj17 a0 false) = some r := by rw [if_neg (show ¬ (false = true) by decide)] at H; exact H
                      clear H
                      have H := H1
                      clear H1
                      have H' := Aside0.mk H
                      clear H
                      go_wp2
                      go_meet
                      case rel => exact ⟨_, (false), (by first | rfl | (simp; done) | (simp [*]; done)), H', ⟨by have := HJ3.out; have := HJ11.out; have := HJ17.out; first | omega | exact Nat.le_refl _⟩, by repeat (first | exact Drawn0.refl _ | apply Drawn0.step)⟩
                  case rest =>
                    clear HC25
                    try clear c1
                    try clear c2
                    try clear p2
                    try clear c3
                    try clear c4
                    try clear c5
                    try clear c6
                    try clear c7
                    try clear c8
                    try clear c8b0
                    try clear c8b1
                    try clear c9
                    try clear c9b0
                    try clear c11
                    try clear c11b0
                    try clear c11b1
                    try clear c11b2
                    try clear c13
                    try clear c15
                    try clear c16
                    try clear c16b0
                    try clear c16b1
                    try clear c17
                    try clear c19
                    try clear c20
                    try clear c20b0
                    try clear c21
                    try clear c21b0
                    try clear c21b1
                    try clear c22
                    try clear c22b0
                    try clear c22b1
                    try clear c23
                    try clear c26
                    try clear c27
                    try clear c27b0
                    try clear c28
                    try clear c28b0
                    try clear c29
                    try clear c29b0
                    try clear c29b1
                    try clear p2
                    obtain ⟨kq, x117_24, rfl, HA, HJ24, ⟨mc24, rfl⟩⟩ := hcut
                    cases kq with
                    | zero => exact absurd HA.out (by simp [bulkheadlaw1_kin_uint8.j3])
                    | succ kj24 =>
                      have H := HA.out
                      clear HA
                      simp only [bulkheadlaw1_kin_uint8.j3] at H
                      by_cases c30 : x117_24 = true
                      · subst c30
                        have H1 : (some false) = some r := by rw [if_pos rfl] at H; exact H
                        clear H
                        have H := H1
                        clear H1
                        obtain rfl := Option.some.inj H
                        go_wp2
                        go_ret
                        exact ⟨by first | rfl | (simp; done) | (simp [*]; done), by repeat (first | exact Drawn0.refl _ | apply Drawn0.step)⟩
                      · replace c30 := Bool.eq_false_iff.mpr c30
                        subst c30
                        have H1 : ((word_Up_uint8.f a0 0).bind fun bt119 => ((word_Up_uint8.f a0 1).bind fun bt121 => (if bt119.2 = true then (some false) else (if bt119.1 = 0 then (if bt121.2 = true then (some (bt121.1 == a0)) else (some false)) else (some false))))) = some r := by rw [if_neg (show ¬ (false = true) by decide)] at H; exact H
                        clear H
                        have H := H1
                        clear H1
                        replace H := Option.bind_eq_some_iff.mp H
                        obtain ⟨⟨t119, t120⟩, A310, H⟩ := H
                        replace H : ((word_Up_uint8.f a0 1).bind fun bt121 => (if t120 = true then (some false) else (if t119 = 0 then (if bt121.2 = true then (some (bt121.1 == a0)) else (some false)) else (some false)))) = some r := H
                        have A31 := Aside0.mk A310
                        clear A310
                        replace H := Option.bind_eq_some_iff.mp H
                        obtain ⟨⟨t121, t122⟩, A320, H⟩ := H
                        replace H : (if t120 = true then (some false) else (if t119 = 0 then (if t122 = true then (some (t121 == a0)) else (some false)) else (some false))) = some r := H
                        have A32 := Aside0.mk A320
                        clear A320
                        by_cases c33 : t120 = true
                        · subst c33
                          have H1 : (some false) = some r := by rw [if_pos rfl] at H; exact H
                          clear H
                          have H := H1
                          clear H1
                          obtain rfl := Option.some.inj H
                          go_wp2_with (first | ((with_reducible refine gate_callee (f := 61) rfl ?_); refine goesL_ (some 120) rfl rfl Try.func61 (by kernel_rfl) rfl #[.int .u8 a0, .int .u8 0] rfl (by (try simp only [List.map_toArray, List.map_cons, List.map_nil]); first | done | rfl | (simp only [List.length_drop, List.length_take]; rfl)) ?_; (with_reducible refine (word_Up_uint8.calls a0 0 t119 true _ A31.out).mono ?_); rintro e w' ⟨rfl, ⟨nd, rfl⟩⟩; refine ⟨_, rfl, ?_⟩) | ((with_reducible refine gate_callee (f := 61) rfl ?_); refine goesL_ (some 125) rfl rfl Try.func61 (by kernel_rfl) rfl #[.int .u8 a0, .int .u8 1] rfl (by (try simp only [List.map_toArray, List.map_cons, List.map_nil]); first | done | rfl | (simp only [List.length_drop, List.length_take]; rfl)) ?_; (with_reducible refine (word_Up_uint8.calls a0 1 t121 t122 _ A32.out).mono ?_); rintro e w' ⟨rfl, ⟨nd, rfl⟩⟩; refine ⟨_, rfl, ?_⟩))
                          go_ret
                          exact ⟨by first | rfl | (simp; done) | (simp [*]; done), by repeat (first | exact Drawn0.refl _ | apply Drawn0.step)⟩
                        · replace c33 := Bool.eq_false_iff.mpr c33
                          subst c33
                          have H1 : (if t119 = 0 then (if t122 = true then (some (t121 == a0)) else (some false)) else (some false)) = some r := by rw [if_neg (show ¬ (false = true) by decide)] at H; exact H
                          clear H
                          have H := H1
                          clear H1
                          by_cases c34 : t119 = 0
                          · rw [if_pos c34] at H
                            have c34b0 : (t119 == 0) = true := beq_iff_eq.mpr c34
                            have c34b1 : (t119 != 0) = false := bne_eq_false_iff_eq.mpr c34
                            clear c34
                            by_cases c35 : t122 = true
                            · subst c35
                              have H1 : (some (t121 == a0)) = some r := by rw [if_pos rfl] at H; exact H
                              clear H
                              have H := H1
                              clear H1
                              obtain rfl := Option.some.inj H
                              go_wp2_with (first | ((with_reducible refine gate_callee (f := 61) rfl ?_); refine goesL_ (some 120) rfl rfl Try.func61 (by kernel_rfl) rfl #[.int .u8 a0, .int .u8 0] rfl (by (try simp only [List.map_toArray, List.map_cons, List.map_nil]); first | done | rfl | (simp only [List.length_drop, List.length_take]; rfl)) ?_; (with_reducible refine (word_Up_uint8.calls a0 0 t119 false _ A31.out).mono ?_); rintro e w' ⟨rfl, ⟨nd, rfl⟩⟩; refine ⟨_, rfl, ?_⟩) | ((with_reducible refine gate_callee (f := 61) rfl ?_); refine goesL_ (some 125) rfl rfl Try.func61 (by kernel_rfl) rfl #[.int .u8 a0, .int .u8 1] rfl (by (try simp only [List.map_toArray, List.map_cons, List.map_nil]); first | done | rfl | (simp only [List.length_drop, List.length_take]; rfl)) ?_; (with_reducible refine (word_Up_uint8.calls a0 1 t121 true _ A32.out).mono ?_); rintro e w' ⟨rfl, ⟨nd, rfl⟩⟩; refine ⟨_, rfl, ?_⟩))
                              go_ret
                              exact ⟨by first | rfl | (simp; done) | (simp [*]; done), by repeat (first | exact Drawn0.refl _ | apply Drawn0.step)⟩
                            · replace c35 := Bool.eq_false_iff.mpr c35
                              subst c35
                              have H1 : (some false) = some r := by rw [if_neg (show ¬ (false = true) by decide)] at H; exact H
                              clear H
                              have H := H1
                              clear H1
                              obtain rfl := Option.some.inj H
                              go_wp2_with (first | ((with_reducible refine gate_callee (f := 61) rfl ?_); refine goesL_ (some 120) rfl rfl Try.func61 (by kernel_rfl) rfl #[.int .u8 a0, .int .u8 0] rfl (by (try simp only [List.map_toArray, List.map_cons, List.map_nil]); first | done | rfl | (simp only [List.length_drop, List.length_take]; rfl)) ?_; (with_reducible refine (word_Up_uint8.calls a0 0 t119 false _ A31.out).mono ?_); rintro e w' ⟨rfl, ⟨nd, rfl⟩⟩; refine ⟨_, rfl, ?_⟩) | ((with_reducible refine gate_callee (f := 61) rfl ?_); refine goesL_ (some 125) rfl rfl Try.func61 (by kernel_rfl) rfl #[.int .u8 a0, .int .u8 1] rfl (by (try simp only [List.map_toArray, List.map_cons, List.map_nil]); first | done | rfl | (simp only [List.length_drop, List.length_take]; rfl)) ?_; (with_reducible refine (word_Up_uint8.calls a0 1 t121 false _ A32.out).mono ?_); rintro e w' ⟨rfl, ⟨nd, rfl⟩⟩; refine ⟨_, rfl, ?_⟩))
                              go_ret
                              exact ⟨by first | rfl | (simp; done) | (simp [*]; done), by repeat (first | exact Drawn0.refl _ | apply Drawn0.step)⟩
                          · rw [if_neg c34] at H
                            have c34b0 : (t119 == 0) = false := beq_eq_false_iff_ne.mpr c34
                            have c34b1 : (t119 != 0) = true := bne_iff_ne.mpr c34
                            obtain rfl := Option.some.inj H
                            go_wp2_with (first | ((with_reducible refine gate_callee (f := 61) rfl ?_); refine goesL_ (some 120) rfl rfl Try.func61 (by kernel_rfl) rfl #[.int .u8 a0, .int .u8 0] rfl (by (try simp only [List.map_toArray, List.map_cons, List.map_nil]); first | done | rfl | (simp only [List.length_drop, List.length_take]; rfl)) ?_; (with_reducible refine (word_Up_uint8.calls a0 0 t119 false _ A31.out).mono ?_); rintro e w' ⟨rfl, ⟨nd, rfl⟩⟩; refine ⟨_, rfl, ?_⟩) | ((with_reducible refine gate_callee (f := 61) rfl ?_); refine goesL_ (some 125) rfl rfl Try.func61 (by kernel_rfl) rfl #[.int .u8 a0, .int .u8 1] rfl (by (try simp only [List.map_toArray, List.map_cons, List.map_nil]); first | done | rfl | (simp only [List.length_drop, List.length_take]; rfl)) ?_; (with_reducible refine (word_Up_uint8.calls a0 1 t121 t122 _ A32.out).mono ?_); rintro e w' ⟨rfl, ⟨nd, rfl⟩⟩; refine ⟨_, rfl, ?_⟩))
                            go_ret
                            exact ⟨by first | rfl | (simp; done) | (simp [*]; done), by repeat (first | exact Drawn0.refl _ | apply Drawn0.step)⟩

/-! ### word_To_uint16_uint64: function 92 -/
def word_To_uint16_uint64.f (a0 : Int) : Option (Int × Bool) := if (IntKind.u64.wrap (IntKind.u16.wrap (a0))) = a0 then (some (IntKind.u16.wrap (a0), true)) else (some (0, false))
set_option maxHeartbeats 8000000 in
set_option maxRecDepth 100000 in
theorem word_To_uint16_uint64.calls (a0 : Int) (r1 : Int) (r2 : Bool) (w : World) (h : word_To_uint16_uint64.f a0 = some (r1, r2)) :
    Calls Try.prog 92 #[.int .u64 a0] w fun e w' => e = .returned (.tuple #[.int .u16 r1, .bool r2]) ∧ Drawn0 w w' := by
  have H : (if (IntKind.u64.wrap (IntKind.u16.wrap (a0))) = a0 then (some (IntKind.u16.wrap (a0), true)) else (some (0, false))) = some (r1, r2) := h
  clear h
  by_cases c2 : (IntKind.u64.wrap (IntKind.u16.wrap (a0))) = a0
  · rw [if_pos c2] at H
    have c2b0 : ((IntKind.u64.wrap (IntKind.u16.wrap (a0))) == a0) = true := beq_iff_eq.mpr c2
    have c2b1 : ((IntKind.u64.wrap (IntKind.u16.wrap (a0))) != a0) = false := bne_eq_false_iff_eq.mpr c2
    clear c2
    simp only [Option.some.injEq, Prod.mk.injEq] at H
    obtain ⟨rfl, rfl⟩ := H
    go_enter Try.func92, Try.ntmps92
    go_wp2
    go_ret2
    exact ⟨by first | rfl | (simp; done) | (simp [*]; done), by repeat (first | exact Drawn0.refl _ | apply Drawn0.step)⟩
  · rw [if_neg c2] at H
    have c2b0 : ((IntKind.u64.wrap (IntKind.u16.wrap (a0))) == a0) = false := beq_eq_false_iff_ne.mpr c2
    have c2b1 : ((IntKind.u64.wrap (IntKind.u16.wrap (a0))) != a0) = true := bne_iff_ne.mpr c2
    simp only [Option.some.injEq, Prod.mk.injEq] at H
    obtain ⟨rfl, rfl⟩ := H
    go_enter Try.func92, Try.ntmps92
    go_wp2
    go_ret2
    exact ⟨by first | rfl | (simp; done) | (simp [*]; done), by repeat (first | exact Drawn0.refl _ | apply Drawn0.step)⟩

end Go.Proofs.Ythdjddpomaendaa.PWordKin
