-- PRINTED BY print.sh 35421559b90ae4d0a3588c463048766b98c2df88dd9212a6774a882060cdf62d: not written by this session
import Derived.Test.YthdjddpomaendaaPWordKinx0
import Derived.Test.YthdjddpomaendaaPWordKinx1
namespace Go.Proofs.Ythdjddpomaendaa.PWordKin
open Go.RowKit Go.Proofs.YthdjddpomaendaaW.PrintWords Go.Proofs.YthdjddpomaendaaW.PrintLast Go.Proofs.YthdjddpomaendaaW.PrintMore
attribute [local go_sem] max2_int min2_int max_two min_two max_three min_three max_four min_four   -- for this text's walks alone
set_option linter.unusedVariables false
set_option linter.unusedSimpArgs false

/-! ### word_Mul_uint16: function 47 -/
def word_Mul_uint16.f (a0 : Int) (a1 : Int) : Option (Int × Bool) := (bits_Mul64.f (IntKind.u64.wrap (a0)) (IntKind.u64.wrap (a1))).bind fun bt123 => (if bt123.1 = 0 then ((word_To_uint16_uint64.f bt123.2).bind fun bt125 => (some (bt125.1, bt125.2))) else (some (0, false)))
set_option maxHeartbeats 8000000 in
set_option maxRecDepth 100000 in
theorem word_Mul_uint16.calls (a0 : Int) (a1 : Int) (r1 : Int) (r2 : Bool) (w : World) (h : word_Mul_uint16.f a0 a1 = some (r1, r2)) :
    Calls Try.prog 47 #[.int .u16 a0, .int .u16 a1] w fun e w' => e = .returned (.tuple #[.int .u16 r1, .bool r2]) ∧ Drawn0 w w' := by
  have H : ((bits_Mul64.f (IntKind.u64.wrap (a0)) (IntKind.u64.wrap (a1))).bind fun bt123 => (if bt123.1 = 0 then ((word_To_uint16_uint64.f bt123.2).bind fun bt125 => (some (bt125.1, bt125.2))) else (some (0, false)))) = some (r1, r2) := h
  clear h
  replace H := Option.bind_eq_some_iff.mp H
  obtain ⟨⟨t123, t124⟩, A30, H⟩ := H
  replace H : (if t123 = 0 then ((word_To_uint16_uint64.f t124).bind fun bt125 => (some (bt125.1, bt125.2))) else (some (0, false))) = some (r1, r2) := H
  have A3 := Aside0.mk A30
  clear A30
  by_cases c4 : t123 = 0
  · rw [if_pos c4] at H
    have c4b0 : (t123 == 0) = true := beq_iff_eq.mpr c4
    have c4b1 : (t123 != 0) = false := bne_eq_false_iff_eq.mpr c4
    clear c4
    replace H := Option.bind_eq_some_iff.mp H
    obtain ⟨⟨t125, t126⟩, A50, H⟩ := H
    replace H : (some (t125, t126)) = some (r1, r2) := H
    have A5 := Aside0.mk A50
    clear A50
    simp only [Option.some.injEq, Prod.mk.injEq] at H
    obtain ⟨rfl, rfl⟩ := H
    go_enter Try.func47, Try.ntmps47
    go_wp2_with (first | ((with_reducible refine gate_callee (f := 90) rfl ?_); refine goesL_ (some 13) rfl rfl Try.func90 (by kernel_rfl) rfl #[.int .u64 (IntKind.u64.wrap (a0)), .int .u64 (IntKind.u64.wrap (a1))] rfl (by (try simp only [List.map_toArray, List.map_cons, List.map_nil]); first | done | rfl | (simp only [List.length_drop, List.length_take]; rfl)) ?_; (with_reducible refine (bits_Mul64.calls (IntKind.u64.wrap (a0)) (IntKind.u64.wrap (a1)) t123 t124 _ A3.out).mono ?_); rintro e w' ⟨rfl, ⟨nd, rfl⟩⟩; refine ⟨_, rfl, ?_⟩) | ((with_reducible refine gate_callee (f := 92) rfl ?_); refine goesL_ (some 19) rfl rfl Try.func92 (by kernel_rfl) rfl #[.int .u64 t124] rfl (by (try simp only [List.map_toArray, List.map_cons, List.map_nil]); first | done | rfl | (simp only [List.length_drop, List.length_take]; rfl)) ?_; (with_reducible refine (word_To_uint16_uint64.calls t124 t125 t126 _ A5.out).mono ?_); rintro e w' ⟨rfl, ⟨nd, rfl⟩⟩; refine ⟨_, rfl, ?_⟩))
    go_ret2
    exact ⟨by first | rfl | (simp; done) | (simp [*]; done), by repeat (first | exact Drawn0.refl _ | apply Drawn0.step)⟩
  · rw [if_neg c4] at H
    have c4b0 : (t123 == 0) = false := beq_eq_false_iff_ne.mpr c4
    have c4b1 : (t123 != 0) = true := bne_iff_ne.mpr c4
    simp only [Option.some.injEq, Prod.mk.injEq] at H
    obtain ⟨rfl, rfl⟩ := H
    go_enter Try.func47, Try.ntmps47
    go_wp2_with (first | ((with_reducible refine gate_callee (f := 90) rfl ?_); refine goesL_ (some 13) rfl rfl Try.func90 (by kernel_rfl) rfl #[.int .u64 (IntKind.u64.wrap (a0)), .int .u64 (IntKind.u64.wrap (a1))] rfl (by (try simp only [List.map_toArray, List.map_cons, List.map_nil]); first | done | rfl | (simp only [List.length_drop, List.length_take]; rfl)) ?_; (with_reducible refine (bits_Mul64.calls (IntKind.u64.wrap (a0)) (IntKind.u64.wrap (a1)) t123 t124 _ A3.out).mono ?_); rintro e w' ⟨rfl, ⟨nd, rfl⟩⟩; refine ⟨_, rfl, ?_⟩))
    go_ret2
    exact ⟨by first | rfl | (simp; done) | (simp [*]; done), by repeat (first | exact Drawn0.refl _ | apply Drawn0.step)⟩

/-! ### word_Add_uint16: function 62 -/
def word_Add_uint16.f (a0 : Int) (a1 : Int) : Option (Int × Bool) := if (IntKind.u16.wrap (a0 + a1)) ≥ a0 then (some (IntKind.u16.wrap (a0 + a1), true)) else (some (0, false))
set_option maxHeartbeats 8000000 in
set_option maxRecDepth 100000 in
theorem word_Add_uint16.calls (a0 : Int) (a1 : Int) (r1 : Int) (r2 : Bool) (w : World) (h : word_Add_uint16.f a0 a1 = some (r1, r2)) :
    Calls Try.prog 62 #[.int .u16 a0, .int .u16 a1] w fun e w' => e = .returned (.tuple #[.int .u16 r1, .bool r2]) ∧ Drawn0 w w' := by
  have H : (if (IntKind.u16.wrap (a0 + a1)) ≥ a0 then (some (IntKind.u16.wrap (a0 + a1), true)) else (some (0, false))) = some (r1, r2) := h
  clear h
  by_cases c3 : (IntKind.u16.wrap (a0 + a1)) ≥ a0
  · rw [if_pos c3] at H
    have c3b0 : decide (a0 ≤ (IntKind.u16.wrap (a0 + a1))) = true := decide_eq_true c3
    clear c3
    simp only [Option.some.injEq, Prod.mk.injEq] at H
    obtain ⟨rfl, rfl⟩ := H
    go_enter Try.func62, Try.ntmps62
    go_wp2
    go_ret2
    exact ⟨by first | rfl | (simp; done) | (simp [*]; done), by repeat (first | exact Drawn0.refl _ | apply Drawn0.step)⟩
  · rw [if_neg c3] at H
    have c3b0 : decide (a0 ≤ (IntKind.u16.wrap (a0 + a1))) = false := decide_eq_false c3
    clear c3
    simp only [Option.some.injEq, Prod.mk.injEq] at H
    obtain ⟨rfl, rfl⟩ := H
    go_enter Try.func62, Try.ntmps62
    go_wp2
    go_ret2
    exact ⟨by first | rfl | (simp; done) | (simp [*]; done), by repeat (first | exact Drawn0.refl _ | apply Drawn0.step)⟩

/-! ### word_Sub_uint16: function 63 -/
def word_Sub_uint16.f (a0 : Int) (a1 : Int) : Option (Int × Bool) := if a1 > a0 then (some (0, false)) else (some (IntKind.u16.wrap (a0 - a1), true))
set_option maxHeartbeats 8000000 in
set_option maxRecDepth 100000 in
theorem word_Sub_uint16.calls (a0 : Int) (a1 : Int) (r1 : Int) (r2 : Bool) (w : World) (h : word_Sub_uint16.f a0 a1 = some (r1, r2)) :
    Calls Try.prog 63 #[.int .u16 a0, .int .u16 a1] w fun e w' => e = .returned (.tuple #[.int .u16 r1, .bool r2]) ∧ Drawn0 w w' := by
  have H : (if a1 > a0 then (some (0, false)) else (some (IntKind.u16.wrap (a0 - a1), true))) = some (r1, r2) := h
  clear h
  by_cases c3 : a1 > a0
  · rw [if_pos c3] at H
    have c3b0 : decide (a0 < a1) = true := decide_eq_true c3
    clear c3
    simp only [Option.some.injEq, Prod.mk.injEq] at H
    obtain ⟨rfl, rfl⟩ := H
    go_enter Try.func63, Try.ntmps63
    go_wp2
    go_ret2
    exact ⟨by first | rfl | (simp; done) | (simp [*]; done), by repeat (first | exact Drawn0.refl _ | apply Drawn0.step)⟩
  · rw [if_neg c3] at H
    have c3b0 : decide (a0 < a1) = false := decide_eq_false c3
    clear c3
    simp only [Option.some.injEq, Prod.mk.injEq] at H
    obtain ⟨rfl, rfl⟩ := H
    go_enter Try.func63, Try.ntmps63
    go_wp2
    go_ret2
    exact ⟨by first | rfl | (simp; done) | (simp [*]; done), by repeat (first | exact Drawn0.refl _ | apply Drawn0.step)⟩

/-! ### word_Up_uint16: function 64 -/
def word_Up_uint16.f (a0 : Int) (a1 : Int) : Option (Int × Bool) := if a1 = 0 then (some (0, false)) else (if (Int.tmod a0 a1) = 0 then (some (a0, true)) else ((word_Add_uint16.f (IntKind.u16.wrap (a0 - (Int.tmod a0 a1))) a1).bind fun bt127 => (some (bt127.1, bt127.2))))
set_option maxHeartbeats 8000000 in
set_option maxRecDepth 100000 in
theorem word_Up_uint16.calls (a0 : Int) (a1 : Int) (r1 : Int) (r2 : Bool) (w : World) (h : word_Up_uint16.f a0 a1 = some (r1, r2)) :
    Calls Try.prog 64 #[.int .u16 a0, .int .u16 a1] w fun e w' => e = .returned (.tuple #[.int .u16 r1, .bool r2]) ∧ Drawn0 w w' := by
  have H : (if a1 = 0 then (some (0, false)) else (if (Int.tmod a0 a1) = 0 then (some (a0, true)) else ((word_Add_uint16.f (IntKind.u16.wrap (a0 - (Int.tmod a0 a1))) a1).bind fun bt127 => (some (bt127.1, bt127.2))))) = some (r1, r2) := h
  clear h
  by_cases c3 : a1 = 0
  · rw [if_pos c3] at H
    have c3b0 : (a1 == 0) = true := beq_iff_eq.mpr c3
    have c3b1 : (a1 != 0) = false := bne_eq_false_iff_eq.mpr c3
    clear c3
    simp only [Option.some.injEq, Prod.mk.injEq] at H
    obtain ⟨rfl, rfl⟩ := H
    go_enter Try.func64, Try.ntmps64
    go_wp2
    go_ret2
    exact ⟨by first | rfl | (simp; done) | (simp [*]; done), by repeat (first | exact Drawn0.refl _ | apply Drawn0.step)⟩
  · rw [if_neg c3] at H
    have c3b0 : (a1 == 0) = false := beq_eq_false_iff_ne.mpr c3
    have c3b1 : (a1 != 0) = true := bne_iff_ne.mpr c3
    by_cases c4 : (Int.tmod a0 a1) = 0
    · rw [if_pos c4] at H
      have c4b0 : ((Int.tmod a0 a1) == 0) = true := beq_iff_eq.mpr c4
      have c4b1 : ((Int.tmod a0 a1) != 0) = false := bne_eq_false_iff_eq.mpr c4
      clear c4
      simp only [Option.some.injEq, Prod.mk.injEq] at H
      obtain ⟨rfl, rfl⟩ := H
      go_enter Try.func64, Try.ntmps64
      go_wp2
      go_ret2
      exact ⟨by first | rfl | (simp; done) | (simp [*]; done), by repeat (first | exact Drawn0.refl _ | apply Drawn0.step)⟩
    · rw [if_neg c4] at H
      have c4b0 : ((Int.tmod a0 a1) == 0) = false := beq_eq_false_iff_ne.mpr c4
      have c4b1 : ((Int.tmod a0 a1) != 0) = true := bne_iff_ne.mpr c4
      replace H := Option.bind_eq_some_iff.mp H
      obtain ⟨⟨t127, t128⟩, A50, H⟩ := H
      replace H : (some (t127, t128)) = some (r1, r2) := H
      have A5 := Aside0.mk A50
      clear A50
      simp only [Option.some.injEq, Prod.mk.injEq] at H
      obtain ⟨rfl, rfl⟩ := H
      go_enter Try.func64, Try.ntmps64
      go_wp2_with (first | ((with_reducible refine gate_callee (f := 62) rfl ?_); refine goesL_ (some 19) rfl rfl Try.func62 (by kernel_rfl) rfl #[.int .u16 (IntKind.u16.wrap (a0 - (Int.tmod a0 a1))), .int .u16 a1] rfl (by (try simp only [List.map_toArray, List.map_cons, List.map_nil]); first | done | rfl | (simp only [List.length_drop, List.length_take]; rfl)) ?_; (with_reducible refine (word_Add_uint16.calls (IntKind.u16.wrap (a0 - (Int.tmod a0 a1))) a1 t127 t128 _ A5.out).mono ?_); rintro e w' ⟨rfl, ⟨nd, rfl⟩⟩; refine ⟨_, rfl, ?_⟩))
      go_ret2
      exact ⟨by first | rfl | (simp; done) | (simp [*]; done), by repeat (first | exact Drawn0.refl _ | apply Drawn0.step)⟩

/-! ### bulkheadlaw1_kin_uint16: function 21 -/
mutual
def bulkheadlaw1_kin_uint16.j0 : Nat → Int → Int → Option (Bool)
  | 0, _, _ => none
  | k + 1, x0, x1 => (word_Sub_uint16.f x0 x1).bind fun bt133 => (if (bt133.2 != (decide (x0 ≥ x1))) = true then (some false) else (if bt133.2 = true then ((word_Add_uint16.f bt133.1 x1).bind fun bt135 => (if bt135.2 = true then (if bt135.1 = x0 then (bulkheadlaw1_kin_uint16.j1 k x0 x1) else (some false)) else (some false))) else (bulkheadlaw1_kin_uint16.j1 k x0 x1)))
def bulkheadlaw1_kin_uint16.j1 : Nat → Int → Int → Option (Bool)
  | 0, _, _ => none
  | k + 1, x0, x1 => (word_Mul_uint16.f x0 x1).bind fun bt137 => (if bt137.2 = true then (if x1 > 0 then (if x1 = 0 then (none) else (if (IntKind.u16.wrap (Int.tdiv bt137.1 x1)) = x0 then (bulkheadlaw1_kin_uint16.j2 k x0 x1 ((Int.tmod bt137.1 x1) != 0)) else (bulkheadlaw1_kin_uint16.j2 k x0 x1 true))) else (bulkheadlaw1_kin_uint16.j2 k x0 x1 false)) else (bulkheadlaw1_kin_uint16.j2 k x0 x1 false))
def bulkheadlaw1_kin_uint16.j2 : Nat → Int → Int → Bool → Option (Bool)
  | 0, _, _, _ => none
  | k + 1, x0, x1, x92 => if x92 = true then (some false) else ((word_Up_uint16.f x0 x1).bind fun bt139 => (if bt139.2 = true then (if bt139.1 < x0 then (bulkheadlaw1_kin_uint16.j3 k x0 true) else (if (IntKind.u16.wrap (bt139.1 - x0)) ≥ x1 then (bulkheadlaw1_kin_uint16.j3 k x0 true) else (if x1 = 0 then (none) else (bulkheadlaw1_kin_uint16.j3 k x0 ((Int.tmod bt139.1 x1) != 0))))) else (bulkheadlaw1_kin_uint16.j3 k x0 false)))
def bulkheadlaw1_kin_uint16.j3 : Nat → Int → Bool → Option (Bool)
  | 0, _, _ => none
  | k + 1, x0, x117 => if x117 = true then (some false) else ((word_Up_uint16.f x0 0).bind fun bt141 => ((word_Up_uint16.f x0 1).bind fun bt143 => (if bt141.2 = true then (some false) else (if bt141.1 = 0 then (if bt143.2 = true then (some (bt143.1 == x0)) else (some false)) else (some false)))))
end
def bulkheadlaw1_kin_uint16.f (k : Nat) (a0 : Int) (a1 : Int) : Option (Bool) := (word_Add_uint16.f a0 a1).bind fun bt129 => (if bt129.2 = true then ((word_Sub_uint16.f bt129.1 a1).bind fun bt131 => (if bt131.2 = true then (if bt131.1 = a0 then (if bt129.1 < a0 then (some false) else (bulkheadlaw1_kin_uint16.j0 k a0 a1)) else (some false)) else (some false))) else (bulkheadlaw1_kin_uint16.j0 k a0 a1))
theorem bulkheadlaw1_kin_uint16.mono_l : ∀ k, (∀ y0 y1, LeO (bulkheadlaw1_kin_uint16.j0 k y0 y1) (bulkheadlaw1_kin_uint16.j0 (k + 1) y0 y1)) ∧ (∀ y0 y1, LeO (bulkheadlaw1_kin_uint16.j1 k y0 y1) (bulkheadlaw1_kin_uint16.j1 (k + 1) y0 y1)) ∧ (∀ y0 y1 y2, LeO (bulkheadlaw1_kin_uint16.j2 k y0 y1 y2) (bulkheadlaw1_kin_uint16.j2 (k + 1) y0 y1 y2)) ∧ (∀ y0 y1, LeO (bulkheadlaw1_kin_uint16.j3 k y0 y1) (bulkheadlaw1_kin_uint16.j3 (k + 1) y0 y1))
  | 0 => ⟨fun _ _ r h => by simp [bulkheadlaw1_kin_uint16.j0] at h, fun _ _ r h => by simp [bulkheadlaw1_kin_uint16.j1] at h, fun _ _ _ r h => by simp [bulkheadlaw1_kin_uint16.j2] at h, fun _ _ r h => by simp [bulkheadlaw1_kin_uint16.j3] at h⟩
  | k + 1 => by
    obtain ⟨ih0, ih1, ih2, ih3⟩ := bulkheadlaw1_kin_uint16.mono_l k
    refine ⟨?_, ?_, ?_, ?_⟩
    · intro y0 y1
      unfold bulkheadlaw1_kin_uint16.j0
      repeat' first
      | (with_reducible exact ih0 _ _)
      | (with_reducible exact ih1 _ _)
      | (with_reducible exact ih2 _ _ _)
      | (with_reducible exact ih3 _ _)
      | (with_reducible exact LeO.refl _)
      | (with_reducible exact LeO.none _)
      | (with_reducible refine LeO.ite ?_ ?_)
      | (with_reducible refine LeO.bind ?_ (fun _ => ?_))
      | exact ih0 _ _
      | exact ih1 _ _
      | exact ih2 _ _ _
      | exact ih3 _ _
      | exact LeO.none _
      | refine LeO.ite ?_ ?_
      | refine LeO.bind ?_ (fun _ => ?_)
    · intro y0 y1
      unfold bulkheadlaw1_kin_uint16.j1
      repeat' first
      | (with_reducible exact ih0 _ _)
      | (with_reducible exact ih1 _ _)
      | (with_reducible exact ih2 _ _ _)
      | (with_reducible exact ih3 _ _)
      | (with_reducible exact LeO.refl _)
      | (with_reducible exact LeO.none _)
      | (with_reducible refine LeO.ite ?_ ?_)
      | (with_reducible refine LeO.bind ?_ (fun _ => ?_))
      | exact ih0 _ _
      | exact ih1 _ _
      | exact ih2 _ _ _
      | exact ih3 _ _
      | exact LeO.none _
      | refine LeO.ite ?_ ?_
      | refine LeO.bind ?_ (fun _ => ?_)
    · intro y0 y1 y2
      unfold bulkheadlaw1_kin_uint16.j2
      repeat' first
      | (with_reducible exact ih0 _ _)
      | (with_reducible exact ih1 _ _)
      | (with_reducible exact ih2 _ _ _)
      | (with_reducible exact ih3 _ _)
      | (with_reducible exact LeO.refl _)
      | (with_reducible exact LeO.none _)
      | (with_reducible refine LeO.ite ?_ ?_)
      | (with_reducible refine LeO.bind ?_ (fun _ => ?_))
      | exact ih0 _ _
      | exact ih1 _ _
      | exact ih2 _ _ _
      | exact ih3 _ _
      | exact LeO.none _
      | refine LeO.ite ?_ ?_
      | refine LeO.bind ?_ (fun _ => ?_)
    · intro y0 y1
      unfold bulkheadlaw1_kin_uint16.j3
      repeat' first
      | (with_reducible exact ih0 _ _)
      | (with_reducible exact ih1 _ _)
      | (with_reducible exact ih2 _ _ _)
      | (with_reducible exact ih3 _ _)
      | (with_reducible exact LeO.refl _)
      | (with_reducible exact LeO.none _)
      | (with_reducible refine LeO.ite ?_ ?_)
      | (with_reducible refine LeO.bind ?_ (fun _ => ?_))
      | exact ih0 _ _
      | exact ih1 _ _
      | exact ih2 _ _ _
      | exact ih3 _ _
      | exact LeO.none _
      | refine LeO.ite ?_ ?_
      | refine LeO.bind ?_ (fun _ => ?_)
theorem bulkheadlaw1_kin_uint16.mono : ∀ a0 a1 k, LeO (bulkheadlaw1_kin_uint16.f k a0 a1) (bulkheadlaw1_kin_uint16.f (k + 1) a0 a1) := by
  intro a0 a1 k
  obtain ⟨ih0, ih1, ih2, ih3⟩ := bulkheadlaw1_kin_uint16.mono_l k
  unfold bulkheadlaw1_kin_uint16.f
  repeat' first
      | (with_reducible exact ih0 _ _)
      | (with_reducible exact ih1 _ _)
      | (with_reducible exact ih2 _ _ _)
      | (with_reducible exact ih3 _ _)
      | (with_reducible exact LeO.refl _)
      | (with_reducible exact LeO.none _)
      | (with_reducible refine LeO.ite ?_ ?_)
      | (with_reducible refine LeO.bind ?_ (fun _ => ?_))
      | exact ih0 _ _
      | exact ih1 _ _
      | exact ih2 _ _ _
      | exact ih3 _ _
      | exact LeO.none _
      | refine LeO.ite ?_ ?_
      | refine LeO.bind ?_ (fun _ => ?_)
set_option maxHeartbeats 8000000 in
set_option maxRecDepth 100000 in
theorem bulkheadlaw1_kin_uint16.calls (k : Nat) (a0 : Int) (a1 : Int) (r : Bool) (w : World) (h : bulkheadlaw1_kin_uint16.f k a0 a1 = some r) :
    Calls Try.prog 21 #[.int .u16 a0, .int .u16 a1] w fun e w' => e = .returned (.bool r) ∧ Drawn0 w w' := by
  have H : ((word_Add_uint16.f a0 a1).bind fun bt129 => (if bt129.2 = true then ((word_Sub_uint16.f bt129.1 a1).bind fun bt131 => (if bt131.2 = true then (if bt131.1 = a0 then (if bt129.1 < a0 then (some false) else (bulkheadlaw1_kin_uint16.j0 k a0 a1)) else (some false)) else (some false))) else (bulkheadlaw1_kin_uint16.j0 k a0 a1))) = some r := h
  clear h
  replace H := Option.bind_eq_some_iff.mp H
  obtain ⟨⟨t129, t130⟩, A30, H⟩ := H
  replace H : (if t130 = true then ((word_Sub_uint16.f t129 a1).bind fun bt131 => (if bt131.2 = true then (if bt131.1 = a0 then (if t129 < a0 then (some false) else (bulkheadlaw1_kin_uint16.j0 k a0 a1)) else (some false)) else (some false))) else (bulkheadlaw1_kin_uint16.j0 k a0 a1)) = some r := H
  have A3 := Aside0.mk A30
  clear A30
  have HC4 := Aside0.mk H
  clear H
  go_enter Try.func21, Try.ntmps21
  go_upto_if 25 with (first | ((with_reducible refine gate_callee (f := 62) rfl ?_); refine goesL_ (some 22) rfl rfl Try.func62 (by kernel_rfl) rfl #[.int .u16 a0, .int .u16 a1] rfl (by (try simp only [List.map_toArray, List.map_cons, List.map_nil]); first | done | rfl | (simp only [List.length_drop, List.length_take]; rfl)) ?_; (with_reducible refine (word_Add_uint16.calls a0 a1 t129 t130 _ A3.out).mono ?_); rintro e w' ⟨rfl, ⟨nd, rfl⟩⟩; refine ⟨_, rfl, ?_⟩))
  (try simp only [Act.put, List.setIfInBounds_toArray, List.set_cons_zero, List.set_cons_succ])
  go_cut [] (fun wc => ∃ (kq : Nat), Aside0 (bulkheadlaw1_kin_uint16.j0 kq a0 a1 = some r) ∧ Aside0 (kq ≤ k) ∧ Drawn0 w wc)
  case first =>
    have H := HC4.out
    clear HC4
    by_cases c5 : t130 = true
    · subst c5
      have H1 : ((word_Sub_uint16.f t129 a1).bind fun bt131 => (if bt131.2 = true then (if bt131.1 = a0 then (if t129 < a0 then (some false) else (bulkheadlaw1_kin_uint16.j0 k a0 a1)) else (some false)) else (some false))) = some r := by rw [if_pos rfl] at H; exact H
      clear H
      have H := H1
      clear H1
      replace H := Option.bind_eq_some_iff.mp H
      obtain ⟨⟨t131, t132⟩, A60, H⟩ := H
      replace H : (if t132 = true then (if t131 = a0 then (if t129 < a0 then (some false) else (bulkheadlaw1_kin_uint16.j0 k a0 a1)) else (some false)) else (some false)) = some r := H
      have A6 := Aside0.mk A60
      clear A60
      by_cases c7 : t132 = true
      · subst c7
        have H1 : (if t131 = a0 then (if t129 < a0 then (some false) else (bulkheadlaw1_kin_uint16.j0 k a0 a1)) else (some false)) = some r := by rw [if_pos rfl] at H; exact H
        clear H
        have H := H1
        clear H1
        by_cases c8 : t131 = a0
        · rw [if_pos c8] at H
          have c8b0 : (t131 == a0) = true := beq_iff_eq.mpr c8
          have c8b1 : (t131 != a0) = false := bne_eq_false_iff_eq.mpr c8
          clear c8
          (first | rw [c8b0] | (simp only [i64_w, i32_w]; rw [c8b0]) | skip)
          by_cases c9 : t129 < a0
          · rw [if_pos c9] at H
            have c9b0 : decide (t129 < a0) = true := decide_eq_true c9
            clear c9
            obtain rfl := Option.some.inj H
            go_wp2_with (first | ((with_reducible refine gate_callee (f := 63) rfl ?_); refine goesL_ (some 29) rfl rfl Try.func63 (by kernel_rfl) rfl #[.int .u16 t129, .int .u16 a1] rfl (by (try simp only [List.map_toArray, List.map_cons, List.map_nil]); first | done | rfl | (simp only [List.length_drop, List.length_take]; rfl)) ?_; (with_reducible refine (word_Sub_uint16.calls t129 a1 t131 true _ A6.out).mono ?_); rintro e w' ⟨rfl, ⟨nd, rfl⟩⟩; refine ⟨_, rfl, ?_⟩))
            go_ret
            exact ⟨by first | rfl | (simp; done) | (simp [*]; done), by repeat (first | exact Drawn0.refl _ | apply Drawn0.step)⟩
          · rw [if_neg c9] at H
            have c9b0 : decide (t129 < a0) = false := decide_eq_false c9
            clear c9
            have H' := Aside0.mk H
            clear H
            go_wp2_with (first | ((with_reducible refine gate_callee (f := 63) rfl ?_); refine goesL_ (some 29) rfl rfl Try.func63 (by kernel_rfl) rfl #[.int .u16 t129, .int .u16 a1] rfl (by (try simp only [List.map_toArray, List.map_cons, List.map_nil]); first | done | rfl | (simp only [List.length_drop, List.length_take]; rfl)) ?_; (with_reducible refine (word_Sub_uint16.calls t129 a1 t131 true _ A6.out).mono ?_); rintro e w' ⟨rfl, ⟨nd, rfl⟩⟩; refine ⟨_, rfl, ?_⟩))
            go_meet
            case rel => exact ⟨_, H', ⟨by first | omega | exact Nat.le_refl _⟩, by repeat (first | exact Drawn0.refl _ | apply Drawn0.step)⟩
        · rw [if_neg c8] at H
          have c8b0 : (t131 == a0) = false := beq_eq_false_iff_ne.mpr c8
          have c8b1 : (t131 != a0) = true := bne_iff_ne.mpr c8
          (first | rw [c8b0] | (simp only [i64_w, i32_w]; rw [c8b0]) | skip)
          obtain rfl := Option.some.inj H
          go_wp2_with (first | ((with_reducible refine gate_callee (f := 63) rfl ?_); refine goesL_ (some 29) rfl rfl Try.func63 (by kernel_rfl) rfl #[.int .u16 t129, .int .u16 a1] rfl (by (try simp only [List.map_toArray, List.map_cons, List.map_nil]); first | done | rfl | (simp only [List.length_drop, List.length_take]; rfl)) ?_; (with_reducible refine (word_Sub_uint16.calls t129 a1 t131 true _ A6.out).mono ?_); rintro e w' ⟨rfl, ⟨nd, rfl⟩⟩; refine ⟨_, rfl, ?_⟩))
          go_ret
          exact ⟨by first | rfl | (simp; done) | (simp [*]; done), by repeat (first | exact Drawn0.refl _ | apply Drawn0.step)⟩
      · replace c7 := Bool.eq_false_iff.mpr c7
        subst c7
        have H1 : (some false) = some r := by rw [if_neg (show ¬ (false = true) by decide)] at H; exact H
        clear H
        have H := H1
        clear H1
        obtain rfl := Option.some.inj H
        go_wp2_with (first | ((with_reducible refine gate_callee (f := 63) rfl ?_); refine goesL_ (some 29) rfl rfl Try.func63 (by kernel_rfl) rfl #[.int .u16 t129, .int .u16 a1] rfl (by (try simp only [List.map_toArray, List.map_cons, List.map_nil]); first | done | rfl | (simp only [List.length_drop, List.length_take]; rfl)) ?_; (with_reducible refine (word_Sub_uint16.calls t129 a1 t131 false _ A6.out).mono ?_); rintro e w' ⟨rfl, ⟨nd, rfl⟩⟩; refine ⟨_, rfl, ?_⟩))
        go_ret
        exact ⟨by first | rfl | (simp; done) | (simp [*]; done), by repeat (first | exact Drawn0.refl _ | apply Drawn0.step)⟩
    · replace c5 := Bool.eq_false_iff.mpr c5
      subst c5
      have H1 : (bulkheadlaw1_kin_uint16.j0 k a0 a1) = some r := by rw [if_neg (show ¬ (false = true) by decide)] at H; exact H
      clear H
      have H := H1
      clear H1
      have H' := Aside0.mk H
      clear H
      go_wp2
      go_meet
      case rel => exact ⟨_, H', ⟨by first | omega | exact Nat.le_refl _⟩, by repeat (first | exact Drawn0.refl _ | apply Drawn0.step)⟩
  case rest =>
    clear HC4
    try clear c2
    try clear p2
    try clear c5
    try clear c6
    try clear c7
    try clear c8
    try clear c8b0
    try clear c8b1
    try clear c9
    try clear c9b0
    obtain ⟨kq, HA, HJ3, ⟨mc3, rfl⟩⟩ := hcut
    cases kq with
    | zero => exact absurd HA.out (by simp [bulkheadlaw1_kin_uint16.j0])
    | succ kj3 =>
      have H := HA.out
      clear HA
      simp only [bulkheadlaw1_kin_uint16.j0] at H
      replace H := Option.bind_eq_some_iff.mp H
      obtain ⟨⟨t133, t134⟩, A100, H⟩ := H
      replace H : (if (t134 != (decide (a0 ≥ a1))) = true then (some false) else (if t134 = true then ((word_Add_uint16.f t133 a1).bind fun bt135 => (if bt135.2 = true then (if bt135.1 = a0 then (bulkheadlaw1_kin_uint16.j1 kj3 a0 a1) else (some false)) else (some false))) else (bulkheadlaw1_kin_uint16.j1 kj3 a0 a1))) = some r := H
      have A10 := Aside0.mk A100
      clear A100
      by_cases c11 : (t134 != (decide (a0 ≥ a1))) = true
      · rw [if_pos c11] at H
        have c11b0 : (t134 != (decide (a0 ≥ a1))) = true := c11
        (try (have c11b1 : decide (t134 = (decide (a0 ≥ a1))) = false := by simpa using c11))
        (try (have c11b2 : (t134 == (decide (a0 ≥ a1))) = false := by simpa using c11))
        (try (have c11b3 : ¬ (t134 = (decide (a0 ≥ a1))) := by simpa using c11))
        clear c11
        obtain rfl := Option.some.inj H
        go_wp2_with (first | ((with_reducible refine gate_callee (f := 63) rfl ?_); refine goesL_ (some 47) rfl rfl Try.func63 (by kernel_rfl) rfl #[.int .u16 a0, .int .u16 a1] rfl (by (try simp only [List.map_toArray, List.map_cons, List.map_nil]); first | done | rfl | (simp only [List.length_drop, List.length_take]; rfl)) ?_; (with_reducible refine (word_Sub_uint16.calls a0 a1 t133 t134 _ A10.out).mono ?_); rintro e w' ⟨rfl, ⟨nd, rfl⟩⟩; refine ⟨_, rfl, ?_⟩))
        go_ret
        exact ⟨by first | rfl | (simp; done) | (simp [*]; done), by repeat (first | exact Drawn0.refl _ | apply Drawn0.step)⟩
      · rw [if_neg c11] at H
        have c11b0 : (t134 != (decide (a0 ≥ a1))) = false := by simpa using c11
        (try (have c11b1 : decide (t134 = (decide (a0 ≥ a1))) = true := by simpa using c11))
        (try (have c11b2 : (t134 == (decide (a0 ≥ a1))) = true := by simpa using c11))
        clear c11
        have HC12 := Aside0.mk H
        clear H
        go_upto_if 55 with (first | ((with_reducible refine gate_callee (f := 63) rfl ?_); refine goesL_ (some 47) rfl rfl Try.func63 (by kernel_rfl) rfl #[.int .u16 a0, .int .u16 a1] rfl (by (try simp only [List.map_toArray, List.map_cons, List.map_nil]); first | done | rfl | (simp only [List.length_drop, List.length_take]; rfl)) ?_; (with_reducible refine (word_Sub_uint16.calls a0 a1 t133 t134 _ A10.out).mono ?_); rintro e w' ⟨rfl, ⟨nd, rfl⟩⟩; refine ⟨_, rfl, ?_⟩))
        (try simp only [Act.put, List.setIfInBounds_toArray, List.set_cons_zero, List.set_cons_succ])
        go_cut [] (fun wc => ∃ (kq : Nat), Aside0 (bulkheadlaw1_kin_uint16.j1 kq a0 a1 = some r) ∧ Aside0 (kq ≤ kj3) ∧ Drawn0 w wc)
        case first =>
          have H := HC12.out
          clear HC12
          by_cases c13 : t134 = true
          · subst c13
            have H1 : ((word_Add_uint16.f t133 a1).bind fun bt135 => (if bt135.2 = true then (if bt135.1 = a0 then (bulkheadlaw1_kin_uint16.j1 kj3 a0 a1) else (some false)) else (some false))) = some r := by rw [if_pos rfl] at H; exact H
            clear H
            have H := H1
            clear H1
            replace H := Option.bind_eq_some_iff.mp H
            obtain ⟨⟨t135, t136⟩, A140, H⟩ := H
            replace H : (if t136 = true then (if t135 = a0 then (bulkheadlaw1_kin_uint16.j1 kj3 a0 a1) else (some false)) else (some false)) = some r := H
            have A14 := Aside0.mk A140
            clear A140
            by_cases c15 : t136 = true
            · subst c15
              have H1 : (if t135 = a0 then (bulkheadlaw1_kin_uint16.j1 kj3 a0 a1) else (some false)) = some r := by rw [if_pos rfl] at H; exact H
              clear H
              have H := H1
              clear H1
              by_cases c16 : t135 = a0
              · rw [if_pos c16] at H
                have c16b0 : (t135 == a0) = true := beq_iff_eq.mpr c16
                have c16b1 : (t135 != a0) = false := bne_eq_false_iff_eq.mpr c16
                clear c16
                (first | rw [c16b0] | (simp only [i64_w, i32_w]; rw [c16b0]) | skip)
                have H' := Aside0.mk H
                clear H
                go_wp2_with (first | ((with_reducible refine gate_callee (f := 62) rfl ?_); refine goesL_ (some 59) rfl rfl Try.func62 (by kernel_rfl) rfl #[.int .u16 t133, .int .u16 a1] rfl (by (try simp only [List.map_toArray, List.map_cons, List.map_nil]); first | done | rfl | (simp only [List.length_drop, List.length_take]; rfl)) ?_; (with_reducible refine (word_Add_uint16.calls t133 a1 t135 true _ A14.out).mono ?_); rintro e w' ⟨rfl, ⟨nd, rfl⟩⟩; refine ⟨_, rfl, ?_⟩))
                go_meet
                case rel => exact ⟨_, H', ⟨by have := HJ3.out; first | omega | exact Nat.le_refl _⟩, by repeat (first | exact Drawn0.refl _ | apply Drawn0.step)⟩
              · rw [if_neg c16] at H
                have c16b0 : (t135 == a0) = false := beq_eq_false_iff_ne.mpr c16
                have c16b1 : (t135 != a0) = true := bne_iff_ne.mpr c16
                (first | rw [c16b0] | (simp only [i64_w, i32_w]; rw [c16b0]) | skip)
                obtain rfl := Option.some.inj H
                go_wp2_with (first | ((with_reducible refine gate_callee (f := 62) rfl ?_); refine goesL_ (some 59) rfl rfl Try.func62 (by kernel_rfl) rfl #[.int .u16 t133, .int .u16 a1] rfl (by (try simp only [List.map_toArray, List.map_cons, List.map_nil]); first | done | rfl | (simp only [List.length_drop, List.length_take]; rfl)) ?_; (with_reducible refine (word_Add_uint16.calls t133 a1 t135 true _ A14.out).mono ?_); rintro e w' ⟨rfl, ⟨nd, rfl⟩⟩; refine ⟨_, rfl, ?_⟩))
                go_ret
                exact ⟨by first | rfl | (simp; done) | (simp [*]; done), by repeat (first | exact Drawn0.refl _ | apply Drawn0.step)⟩
            · replace c15 := Bool.eq_false_iff.mpr c15
              subst c15
              have H1 : (some false) = some r := by rw [if_neg (show ¬ (false = true) by decide)] at H; exact H
              clear H
              have H := H1
              clear H1
              obtain rfl := Option.some.inj H
              go_wp2_with (first | ((with_reducible refine gate_callee (f := 62) rfl ?_); refine goesL_ (some 59) rfl rfl Try.func62 (by kernel_rfl) rfl #[.int .u16 t133, .int .u16 a1] rfl (by (try simp only [List.map_toArray, List.map_cons, List.map_nil]); first | done | rfl | (simp only [List.length_drop, List.length_take]; rfl)) ?_; (with_reducible refine (word_Add_uint16.calls t133 a1 t135 false _ A14.out).mono ?_); rintro e w' ⟨rfl, ⟨nd, rfl⟩⟩; refine ⟨_, rfl, ?_⟩))
              go_ret
              exact ⟨by first | rfl | (simp; done) | (simp [*]; done), by repeat (first | exact Drawn0.refl _ | apply Drawn0.step)⟩
          · replace c13 := Bool.eq_false_iff.mpr c13
            subst c13
            have H1 : (bulkheadlaw1_kin_uint16.j1 kj3 a0 a1) = some r := by rw [if_neg (show ¬ (false = true) by decide)] at H; exact H
            clear H
            have H := H1
            clear H1
            have H' := Aside0.mk H
            clear H
            go_wp2
            go_meet
            case rel => exact ⟨_, H', ⟨by have := HJ3.out; first | omega | exact Nat.le_refl _⟩, by repeat (first | exact Drawn0.refl _ | apply Drawn0.step)⟩
        case rest =>
          clear HC12
          try clear c1
          try clear c2
          try clear p2
          try clear c3
          try clear c5
          try clear c6
          try clear c7
          try clear c8
          try clear c8b0
          try clear c8b1
          try clear c9
          try clear c9b0
          try clear c11
          try clear c11b0
          try clear c11b1
          try clear c11b2
          try clear c13
          try clear c15
          try clear c16
          try clear c16b0
          try clear c16b1
          try clear p2
          obtain ⟨kq, HA, HJ11, ⟨mc11, rfl⟩⟩ := hcut
          cases kq with
          | zero => exact absurd HA.out (by simp [bulkheadlaw1_kin_uint16.j1])
          | succ kj11 =>
            have H := HA.out
            clear HA
            simp only [bulkheadlaw1_kin_uint16.j1] at H
            replace H := Option.bind_eq_some_iff.mp H
            obtain ⟨⟨t137, t138⟩, A170, H⟩ := H
            replace H : (if t138 = true then (if a1 > 0 then (if a1 = 0 then (none) else (if (IntKind.u16.wrap (Int.tdiv t137 a1)) = a0 then (bulkheadlaw1_kin_uint16.j2 kj11 a0 a1 ((Int.tmod t137 a1) != 0)) else (bulkheadlaw1_kin_uint16.j2 kj11 a0 a1 true))) else (bulkheadlaw1_kin_uint16.j2 kj11 a0 a1 false)) else (bulkheadlaw1_kin_uint16.j2 kj11 a0 a1 false)) = some r := H
            have A17 := Aside0.mk A170
            clear A170
            have HC18 := Aside0.mk H
            clear H
            go_upto_region 14 with (first | ((with_reducible refine gate_callee (f := 47) rfl ?_); refine goesL_ (some 72) rfl rfl Try.func47 (by kernel_rfl) rfl #[.int .u16 a0, .int .u16 a1] rfl (by (try simp only [List.map_toArray, List.map_cons, List.map_nil]); first | done | rfl | (simp only [List.length_drop, List.length_take]; rfl)) ?_; (with_reducible refine (word_Mul_uint16.calls a0 a1 t137 t138 _ A17.out).mono ?_); rintro e w' ⟨rfl, ⟨nd, rfl⟩⟩; refine ⟨_, rfl, ?_⟩))
            (try simp only [Act.put, List.setIfInBounds_toArray, List.set_cons_zero, List.set_cons_succ])
            go_cut [92] (fun v92 wc => ∃ (kq : Nat) (x92_17 : Bool), v92 = .bool x92_17 ∧ Aside0 (bulkheadlaw1_kin_uint16.j2 kq a0 a1 x92_17 = some r) ∧ Aside0 (kq ≤ kj11) ∧ Drawn0 w wc)
            case first =>
              have H := HC18.out
              clear HC18
              by_cases c19 : t138 = true
              · subst c19
                have H1 : (if a1 > 0 then (if a1 = 0 then (none) else (if (IntKind.u16.wrap (Int.tdiv t137 a1)) = a0 then (bulkheadlaw1_kin_uint16.j2 kj11 a0 a1 ((Int.tmod t137 a1) != 0)) else (bulkheadlaw1_kin_uint16.j2 kj11 a0 a1 true))) else (bulkheadlaw1_kin_uint16.j2 kj11 a0 a1 false)) = some r := by rw [if_pos rfl] at H; exact H
                clear H
                have H := H1
                clear H1
                by_cases c20 : a1 > 0
                · rw [if_pos c20] at H
                  have c20b0 : decide (0 < a1) = true := decide_eq_true c20
                  clear c20
                  (first | rw [c20b0] | (simp only [i64_w, i32_w]; rw [c20b0]) | skip)
                  by_cases c21 : a1 = 0
                  · rw [if_pos c21] at H
                    exact absurd H (by simp)
                  · rw [if_neg c21] at H
                    have c21b0 : (a1 == 0) = false := beq_eq_false_iff_ne.mpr c21
                    have c21b1 : (a1 != 0) = true := bne_iff_ne.mpr c21
                    by_cases c22 : (IntKind.u16.wrap (Int.tdiv t137 a1)) = a0
                    · rw [if_pos c22] at H
                      have c22b0 : ((IntKind.u16.wrap (Int.tdiv t137 a1)) == a0) = true := beq_iff_eq.mpr c22
                      have c22b1 : ((IntKind.u16.wrap (Int.tdiv t137 a1)) != a0) = false := bne_eq_false_iff_eq.mpr c22
                      clear c22
                      have H' := Aside0.mk H
                      clear H
                      go_wp2
                      go_meet
                      case rel => exact ⟨_, (((Int.tmod t137 a1) != 0)), (by first | rfl | (simp; done) | (simp [*]; done)), H', ⟨by have := HJ3.out; have := HJ11.out; first | omega | exact Nat.le_refl _⟩, by repeat (first | exact Drawn0.refl _ | apply Drawn0.step)⟩
                    · rw [if_neg c22] at H
                      have c22b0 : ((IntKind.u16.wrap (Int.tdiv t137 a1)) == a0) = false := beq_eq_false_iff_ne.mpr c22
                      have c22b1 : ((IntKind.u16.wrap (Int.tdiv t137 a1)) != a0) = true := bne_iff_ne.mpr c22
                      have H' := Aside0.mk H
                      clear H
                      go_wp2
                      go_meet
                      case rel => exact ⟨_, (true), (by first | rfl | (simp; done) | (simp [*]; done)), H', ⟨by have := HJ3.out; have := HJ11.out; first | omega | exact Nat.le_refl _⟩, by repeat (first | exact Drawn0.refl _ | apply Drawn0.step)⟩
                · rw [if_neg c20] at H
                  have c20b0 : decide (0 < a1) = false := decide_eq_false c20
                  clear c20
                  (first | rw [c20b0] | (simp only [i64_w, i32_w]; rw [c20b0]) | skip)
                  have H' := Aside0.mk H
                  clear H
                  go_wp2
                  go_meet
                  case rel => exact ⟨_, (false), (by first | rfl | (simp; done) | (simp [*]; done)), H', ⟨by have := HJ3.out; have := HJ11.out; first | omega | exact Nat.le_refl _⟩, by repeat (first | exact Drawn0.refl _ | apply Drawn0.step)⟩
              · replace c19 := Bool.eq_false_iff.mpr c19
                subst c19
                have H1 : (bulkheadlaw1_kin_uint16.j2 kj11 a0 a1 false) = some r := by rw [if_neg (show ¬ (false = true) by decide)] at H; exact H
                clear H
                have H := H1
                clear H1
                have H' := Aside0.mk H
                clear H
                go_wp2
                go_meet
                case rel => exact ⟨_, (false), (by first | rfl | (simp; done) | (simp [*]; done)), H', ⟨by have := HJ3.out; have := HJ11.out; first | omega | exact Nat.le_refl _⟩, by repeat (first | exact Drawn0.refl _ | apply Drawn0.step)⟩
            case rest =>
              clear HC18
              try clear c1
              try clear c2
              try clear p2
              try clear c3
              try clear c4
              try clear c5
              try clear c6
              try clear c7
              try clear c8
              try clear c8b0
              try clear c8b1
              try clear c9
              try clear c9b0
              try clear c11
              try clear c11b0
              try clear c11b1
              try clear c11b2
              try clear c13
              try clear c15
              try clear c16
              try clear c16b0
              try clear c16b1
              try clear c19
              try clear c20
              try clear c20b0
              try clear c21
              try clear c21b0
              try clear c21b1
              try clear c22
              try clear c22b0
              try clear c22b1
              try clear p2
              obtain ⟨kq, x92_17, rfl, HA, HJ17, ⟨mc17, rfl⟩⟩ := hcut
              cases kq with
              | zero => exact absurd HA.out (by simp [bulkheadlaw1_kin_uint16.j2])
              | succ kj17 =>
                have H := HA.out
                clear HA
                simp only [bulkheadlaw1_kin_uint16.j2] at H
                by_cases c23 : x92_17 = true
                · subst c23
                  have H1 : (some false) = some r := by rw [if_pos rfl] at H; exact H
                  clear H
                  have H := H1
                  clear H1
                  obtain rfl := Option.some.inj H
                  go_wp2
                  go_ret
                  exact ⟨by first | rfl | (simp; done) | (simp [*]; done), by repeat (first | exact Drawn0.refl _ | apply Drawn0.step)⟩
                · replace c23 := Bool.eq_false_iff.mpr c23
                  subst c23
                  have H1 : ((word_Up_uint16.f a0 a1).bind fun bt139 => (if bt139.2 = true then (if bt139.1 < a0 then (bulkheadlaw1_kin_uint16.j3 kj17 a0 true) else (if (IntKind.u16.wrap (bt139.1 - a0)) ≥ a1 then (bulkheadlaw1_kin_uint16.j3 kj17 a0 true) else (if a1 = 0 then (none) else (bulkheadlaw1_kin_uint16.j3 kj17 a0 ((Int.tmod bt139.1 a1) != 0))))) else (bulkheadlaw1_kin_uint16.j3 kj17 a0 false))) = some r := by rw [if_neg (show ¬ (false = true) by decide)] at H; exact H
                  clear H
                  have H := H1
                  clear H1
                  replace H := Option.bind_eq_some_iff.mp H
                  obtain ⟨⟨t139, t140⟩, A240, H⟩ := H
                  replace H : (if t140 = true then (if t139 < a0 then (bulkheadlaw1_kin_uint16.j3 kj17 a0 true) else (if (IntKind.u16.wrap (t139 - a0)) ≥ a1 then (bulkheadlaw1_kin_uint16.j3 kj17 a0 true) else (if a1 = 0 then (none) else (bulkheadlaw1_kin_uint16.j3 kj17 a0 ((Int.tmod t139 a1) != 0))))) else (bulkheadlaw1_kin_uint16.j3 kj17 a0 false)) = some r := H
                  have A24 := Aside0.mk A240
                  clear A240
                  have HC25 := Aside0.mk H
                  clear H
                  go_upto_region 17 with (first | ((with_reducible refine gate_callee (f := 64) rfl ?_); refine goesL_ (some 96) rfl rfl Try.func64 (by kernel_rfl) rfl #[.int .u16 a0, .int .u16 a1] rfl (by (try simp only [List.map_toArray, List.map_cons, List.map_nil]); first | done | rfl | (simp only [List.length_drop, List.length_take]; rfl)) ?_; (with_reducible refine (word_Up_uint16.calls a0 a1 t139 t140 _ A24.out).mono ?_); rintro e w' ⟨rfl, ⟨nd, rfl⟩⟩; refine ⟨_, rfl, ?_⟩))
                  (try simp only [Act.put, List.setIfInBounds_toArray, List.set_cons_zero, List.set_cons_succ])
                  go_cut [117] (fun v117 wc => ∃ (kq : Nat) (x117_24 : Bool), v117 = .bool x117_24 ∧ Aside0 (bulkheadlaw1_kin_uint16.j3 kq a0 x117_24 = some r) ∧ Aside0 (kq ≤ kj17) ∧ Drawn0 w wc)
                  case first =>
                    have H := HC25.out
                    clear HC25
                    by_cases c26 : t140 = true
                    · subst c26
                      have H1 : (if t139 < a0 then (bulkheadlaw1_kin_uint16.j3 kj17 a0 true) else (if (IntKind.u16.wrap (t139 - a0)) ≥ a1 then (bulkheadlaw1_kin_uint16.j3 kj17 a0 true) else (if a1 = 0 then (none) else (bulkheadlaw1_kin_uint16.j3 kj17 a0 ((Int.tmod t139 a1) != 0))))) = some r := by rw [if_pos rfl] at H; exact H
                      clear H
                      have H := H1
                      clear H1
                      by_cases c27 : t139 < a0
                      · rw [if_pos c27] at H
                        have c27b0 : decide (t139 < a0) = true := decide_eq_true c27
                        clear c27
                        (first | rw [c27b0] | (simp only [i64_w, i32_w]; rw [c27b0]) | skip)
                        have H' := Aside0.mk H
                        clear H
                        go_wp2
                        go_meet
                        case rel => exact ⟨_, (true), (by first | rfl | (simp; done) | (simp [*]; done)), H', ⟨by have := HJ3.out; have := HJ11.out; have := HJ17.out; first | omega | exact Nat.le_refl _⟩, by repeat (first | exact Drawn0.refl _ | apply Drawn0.step)⟩
                      · rw [if_neg c27] at H
                        have c27b0 : decide (t139 < a0) = false := decide_eq_false c27
                        clear c27
                        (first | rw [c27b0] | (simp only [i64_w, i32_w]; rw [c27b0]) | skip)
                        by_cases c28 : (IntKind.u16.wrap (t139 - a0)) ≥ a1
                        · rw [if_pos c28] at H
                          have c28b0 : decide (a1 ≤ (IntKind.u16.wrap (t139 - a0))) = true := decide_eq_true c28
                          clear c28
                          have H' := Aside0.mk H
                          clear H
                          go_wp2
                          go_meet
                          case rel => exact ⟨_, (true), (by first | rfl | (simp; done) | (simp [*]; done)), H', ⟨by have := HJ3.out; have := HJ11.out; have := HJ17.out; first | omega | exact Nat.le_refl _⟩, by repeat (first | exact Drawn0.refl _ | apply Drawn0.step)⟩
                        · rw [if_neg c28] at H
                          have c28b0 : decide (a1 ≤ (IntKind.u16.wrap (t139 - a0))) = false := decide_eq_false c28
                          clear c28
                          by_cases c29 : a1 = 0
                          · rw [if_pos c29] at H
                            exact absurd H (by simp)
                          · rw [if_neg c29] at H
                            have c29b0 : (a1 == 0) = false := beq_eq_false_iff_ne.mpr c29
                            have c29b1 : (a1 != 0) = true := bne_iff_ne.mpr c29
                            have H' := Aside0.mk H
                            clear H
                            go_wp2
                            go_meet
                            case rel => exact ⟨_, (((Int.tmod t139 a1) != 0)), (by first | rfl | (simp; done) | (simp [*]; done)), H', ⟨by have := HJ3.out; have := HJ11.out; have := HJ17.out; first | omega | exact Nat.le_refl _⟩, by repeat (first | exact Drawn0.refl _ | apply Drawn0.step)⟩
                    · replace c26 := Bool.eq_false_iff.mpr c26
                      subst c26
                      have H1 : (bulkheadlaw1_kin_uint16.j3 kj17 a0 false) = some r := by rw [if_neg (show ¬ (false = true) by decide)] at H; exact H
                      clear H
                      have H := H1
                      clear H1
                      have H' := Aside0.mk H
                      clear H
                      go_wp2
                      go_meet
                      case rel => exact ⟨_, (false), (by first | rfl | (simp; done) | (simp [*]; done)), H', ⟨by have := HJ3.out; have := HJ11.out; have := HJ17.out; first | omega | exact Nat.le_refl _⟩, by repeat (first | exact Drawn0.refl _ | apply Drawn0.step)⟩
                  case rest =>
                    clear HC25
                    try clear c1
                    try clear c2
                    try clear p2
                    try clear c3
                    try clear c4
                    try clear c5
                    try clear c6
                    try clear c7
                    try clear c8
                    try clear c8b0
                    try clear c8b1
                    try clear c9
                    try clear c9b0
                    try clear c11
                    try clear c11b0
                    try clear c11b1
                    try clear c11b2
                    try clear c13
                    try clear c15
                    try clear c16
                    try clear c16b0
                    try clear c16b1
                    try clear c17
                    try clear c19
                    try clear c20
                    try clear c20b0
                    try clear c21
                    try clear c21b0
                    try clear c21b1
                    try clear c22
                    try clear c22b0
                    try clear c22b1
                    try clear c23
                    try clear c26
                    try clear c27
                    try clear c27b0
                    try clear c28
                    try clear c28b0
                    try clear c29
                    try clear c29b0
                    try clear c29b1
                    try clear p2
                    obtain ⟨kq, x117_24, rfl, HA, HJ24, ⟨mc24, rfl⟩⟩ := hcut
                    cases kq with
                    | zero => exact absurd HA.out (by simp [bulkheadlaw1_kin_uint16.j3])
                    | succ kj24 =>
                      have H := HA.out
                      clear HA
                      simp only [bulkheadlaw1_kin_uint16.j3] at H
                      by_cases c30 : x117_24 = true
                      · subst c30
                        have H1 : (some false) = some r := by rw [if_pos rfl] at H; exact H
                        clear H
                        have H := H1
                        clear H1
                        obtain rfl := Option.some.inj H
                        go_wp2
                        go_ret
                        exact ⟨by first | rfl | (simp; done) | (simp [*]; done), by repeat (first | exact Drawn0.refl _ | apply Drawn0.step)⟩
                      · replace c30 := Bool.eq_false_iff.mpr c30
                        subst c30
                        have H1 : ((word_Up_uint16.f a0 0).bind fun bt141 => ((word_Up_uint16.f a0 1).bind fun bt143 => (if bt141.2 = true then (some false) else (if bt141.1 = 0 then (if bt143.2 = true then (some (bt143.1 == a0)) else (some false)) else (some false))))) = some r := by rw [if_neg (show ¬ (false = true) by decide)] at H; exact H
                        clear H
                        have H := H1
                        clear H1
                        replace H := Option.bind_eq_some_iff.mp H
                        obtain ⟨⟨t141, t142⟩, A310, H⟩ := H
                        replace H : ((word_Up_uint16.f a0 1).bind fun bt143 => (if t142 = true then (some false) else (if t141 = 0 then (if bt143.2 = true then (some (bt143.1 == a0)) else (some false)) else (some false)))) = some r := H
                        have A31 := Aside0.mk A310
                        clear A310
                        replace H := Option.bind_eq_some_iff.mp H
                        obtain ⟨⟨t143, t144⟩, A320, H⟩ := H
                        replace H : (if t142 = true then (some false) else (if t141 = 0 then (if t144 = true then (some (t143 == a0)) else (some false)) else (some false))) = some r := H
                        have A32 := Aside0.mk A320
                        clear A320
                        by_cases c33 : t142 = true
                        · subst c33
                          have H1 : (some false) = some r := by rw [if_pos rfl] at H; exact H
                          clear H
                          have H := H1
                          clear H1
                          obtain rfl := Option.some.inj H
                          go_wp2_with (first | ((with_reducible refine gate_callee (f := 64) rfl ?_); refine goesL_ (some 120) rfl rfl Try.func64 (by kernel_rfl) rfl #[.int .u16 a0, .int .u16 0] rfl (by (try simp only [List.map_toArray, List.map_cons, List.map_nil]); first | done | rfl | (simp only [List.length_drop, List.length_take]; rfl)) ?_; (with_reducible refine (word_Up_uint16.calls a0 0 t141 true _ A31.out).mono ?_); rintro e w' ⟨rfl, ⟨nd, rfl⟩⟩; refine ⟨_, rfl, ?_⟩) | ((with_reducible refine gate_callee (f := 64) rfl ?_); refine goesL_ (some 125) rfl rfl Try.func64 (by kernel_rfl) rfl #[.int .u16 a0, .int .u16 1] rfl (by (try simp only [List.map_toArray, List.map_cons, List.map_nil]); first | done | rfl | (simp only [List.length_drop, List.length_take]; rfl)) ?_; (with_reducible refine (word_Up_uint16.calls a0 1 t143 t144 _ A32.out).mono ?_); rintro e w' ⟨rfl, ⟨nd, rfl⟩⟩; refine ⟨_, rfl, ?_⟩))
                          go_ret
                          exact ⟨by first | rfl | (simp; done) | (simp [*]; done), by repeat (first | exact Drawn0.refl _ | apply Drawn0.step)⟩
                        · replace c33 := Bool.eq_false_iff.mpr c33
                          subst c33
                          have H1 : (if t141 = 0 then (if t144 = true then (some (t143 == a0)) else (some false)) else (some false)) = some r := by rw [if_neg (show ¬ (false = true) by decide)] at H; exact H
                          clear H
                          have H := H1
                          clear H1
                          by_cases c34 : t141 = 0
                          · rw [if_pos c34] at H
                            have c34b0 : (t141 == 0) = true := beq_iff_eq.mpr c34
                            have c34b1 : (t141 != 0) = false := bne_eq_false_iff_eq.mpr c34
                            clear c34
                            by_cases c35 : t144 = true
                            · subst c35
                              have H1 : (some (t143 == a0)) = some r := by rw [if_pos rfl] at H; exact H
                              clear H
                              have H := H1
                              clear H1
                              obtain rfl := Option.some.inj H
                              go_wp2_with (first | ((with_reducible refine gate_callee (f := 64) rfl ?_); refine goesL_ (some 120) rfl rfl Try.func64 (by kernel_rfl) rfl #[.int .u16 a0, .int .u16 0] rfl (by (try simp only [List.map_toArray, List.map_cons, List.map_nil]); first | done | rfl | (simp only [List.length_drop, List.length_take]; rfl)) ?_; (with_reducible refine (word_Up_uint16.calls a0 0 t141 false _ A31.out).mono ?_); rintro e w' ⟨rfl, ⟨nd, rfl⟩⟩; refine ⟨_, rfl, ?_⟩) | ((with_reducible refine gate_callee (f := 64) rfl ?_); refine goesL_ (some 125) rfl rfl Try.func64 (by kernel_rfl) rfl #[.int .u16 a0, .int .u16 1] rfl (by (try simp only [List.map_toArray, List.map_cons, List.map_nil]); first | done | rfl | (simp only [List.length_drop, List.length_take]; rfl)) ?_; (with_reducible refine (word_Up_uint16.calls a0 1 t143 true _ A32.out).mono ?_); rintro e w' ⟨rfl, ⟨nd, rfl⟩⟩; refine ⟨_, rfl, ?_⟩))
                              go_ret
                              exact ⟨by first | rfl | (simp; done) | (simp [*]; done), by repeat (first | exact Drawn0.refl _ | apply Drawn0.step)⟩
                            · replace c35 := Bool.eq_false_iff.mpr c35
                              subst c35
                              have H1 : (some false) = some r := by rw [if_neg (show ¬ (false = true) by decide)] at H; exact H
                              clear H
                              have H := H1
                              clear H1
                              obtain rfl := Option.some.inj H
                              go_wp2_with (first | ((with_reducible refine gate_callee (f := 64) rfl ?_); refine goesL_ (some 120) rfl rfl Try.func64 (by kernel_rfl) rfl #[.int .u16 a0, .int .u16 0] rfl (by (try simp only [List.map_toArray, List.map_cons, List.map_nil]); first | done | rfl | (simp only [List.length_drop, List.length_take]; rfl)) ?_; (with_reducible refine (word_Up_uint16.calls a0 0 t141 false _ A31.out).mono ?_); rintro e w' ⟨rfl, ⟨nd, rfl⟩⟩; refine ⟨_, rfl, ?_⟩) | ((with_reducible refine gate_callee (f := 64) rfl ?_); refine goesL_ (some 125) rfl rfl Try.func64 (by kernel_rfl) rfl #[.int .u16 a0, .int .u16 1] rfl (by (try simp only [List.map_toArray, List.map_cons, List.map_nil]); first | done | rfl | (simp only [List.length_drop, List.length_take]; rfl)) ?_; (with_reducible refine (word_Up_uint16.calls a0 1 t143 false _ A32.out).mono ?_); rintro e w' ⟨rfl, ⟨nd, rfl⟩⟩; refine ⟨_, rfl, ?_⟩))
                              go_ret
                              exact ⟨by first | rfl | (simp; done) | (simp [*]; done), by repeat (first | exact Drawn0.refl _ | apply Drawn0.step)⟩
                          · rw [if_neg c34] at H
                            have c34b0 : (t141 == 0) = false := beq_eq_false_iff_ne.mpr c34
                            have c34b1 : (t141 != 0) = true := bne_iff_ne.mpr c34
                            obtain rfl := Option.some.inj H
                            go_wp2_with (first | ((with_reducible refine gate_callee (f := 64) rfl ?_); refine goesL_ (some 120) rfl rfl Try.func64 (by kernel_rfl) rfl #[.int .u16 a0, .int .u16 0] rfl (by (try simp only [List.map_toArray, List.map_cons, List.map_nil]); first | done | rfl | (simp only [List.length_drop, List.length_take]; rfl)) ?_; (with_reducible refine (word_Up_uint16.calls a0 0 t141 false _ A31.out).mono ?_); rintro e w' ⟨rfl, ⟨nd, rfl⟩⟩; refine ⟨_, rfl, ?_⟩) | ((with_reducible refine gate_callee (f := 64) rfl ?_); refine goesL_ (some 125) rfl rfl Try.func64 (by kernel_rfl) rfl #[.int .u16 a0, .int .u16 1] rfl (by (try simp only [List.map_toArray, List.map_cons, List.map_nil]); first | done | rfl | (simp only [List.length_drop, List.length_take]; rfl)) ?_; (with_reducible refine (word_Up_uint16.calls a0 1 t143 t144 _ A32.out).mono ?_); rintro e w' ⟨rfl, ⟨nd, rfl⟩⟩; refine ⟨_, rfl, ?_⟩))
                            go_ret
                            exact ⟨by first | rfl | (simp; done) | (simp [*]; done), by repeat (first | exact Drawn0.refl _ | apply Drawn0.step)⟩

/-! ### word_Add_uint32: function 65 -/
def word_Add_uint32.f (a0 : Int) (a1 : Int) : Option (Int × Bool) := if ((a0 + a1) % 4294967296) ≥ a0 then (some ((a0 + a1) % 4294967296, true)) else (some (0, false))
set_option maxHeartbeats 8000000 in
set_option maxRecDepth 100000 in
theorem word_Add_uint32.calls (a0 : Int) (a1 : Int) (r1 : Int) (r2 : Bool) (w : World) (h : word_Add_uint32.f a0 a1 = some (r1, r2)) :
    Calls Try.prog 65 #[.int .u32 a0, .int .u32 a1] w fun e w' => e = .returned (.tuple #[.int .u32 r1, .bool r2]) ∧ Drawn0 w w' := by
  have H : (if ((a0 + a1) % 4294967296) ≥ a0 then (some ((a0 + a1) % 4294967296, true)) else (some (0, false))) = some (r1, r2) := h
  clear h
  by_cases c3 : ((a0 + a1) % 4294967296) ≥ a0
  · rw [if_pos c3] at H
    have c3b0 : decide (a0 ≤ ((a0 + a1) % 4294967296)) = true := decide_eq_true c3
    clear c3
    simp only [Option.some.injEq, Prod.mk.injEq] at H
    obtain ⟨rfl, rfl⟩ := H
    go_enter Try.func65, Try.ntmps65
    go_wp2
    go_ret2
    exact ⟨by first | rfl | (simp; done) | (simp [*]; done), by repeat (first | exact Drawn0.refl _ | apply Drawn0.step)⟩
  · rw [if_neg c3] at H
    have c3b0 : decide (a0 ≤ ((a0 + a1) % 4294967296)) = false := decide_eq_false c3
    clear c3
    simp only [Option.some.injEq, Prod.mk.injEq] at H
    obtain ⟨rfl, rfl⟩ := H
    go_enter Try.func65, Try.ntmps65
    go_wp2
    go_ret2
    exact ⟨by first | rfl | (simp; done) | (simp [*]; done), by repeat (first | exact Drawn0.refl _ | apply Drawn0.step)⟩

/-! ### word_Sub_uint32: function 66 -/
def word_Sub_uint32.f (a0 : Int) (a1 : Int) : Option (Int × Bool) := if a1 > a0 then (some (0, false)) else (some ((a0 - a1) % 4294967296, true))
set_option maxHeartbeats 8000000 in
set_option maxRecDepth 100000 in
theorem word_Sub_uint32.calls (a0 : Int) (a1 : Int) (r1 : Int) (r2 : Bool) (w : World) (h : word_Sub_uint32.f a0 a1 = some (r1, r2)) :
    Calls Try.prog 66 #[.int .u32 a0, .int .u32 a1] w fun e w' => e = .returned (.tuple #[.int .u32 r1, .bool r2]) ∧ Drawn0 w w' := by
  have H : (if a1 > a0 then (some (0, false)) else (some ((a0 - a1) % 4294967296, true))) = some (r1, r2) := h
  clear h
  by_cases c3 : a1 > a0
  · rw [if_pos c3] at H
    have c3b0 : decide (a0 < a1) = true := decide_eq_true c3
    clear c3
    simp only [Option.some.injEq, Prod.mk.injEq] at H
    obtain ⟨rfl, rfl⟩ := H
    go_enter Try.func66, Try.ntmps66
    go_wp2
    go_ret2
    exact ⟨by first | rfl | (simp; done) | (simp [*]; done), by repeat (first | exact Drawn0.refl _ | apply Drawn0.step)⟩
  · rw [if_neg c3] at H
    have c3b0 : decide (a0 < a1) = false := decide_eq_false c3
    clear c3
    simp only [Option.some.injEq, Prod.mk.injEq] at H
    obtain ⟨rfl, rfl⟩ := H
    go_enter Try.func66, Try.ntmps66
    go_wp2
    go_ret2
    exact ⟨by first | rfl | (simp; done) | (simp [*]; done), by repeat (first | exact Drawn0.refl _ | apply Drawn0.step)⟩

/-! ### word_To_uint32_uint64: function 104 -/
def word_To_uint32_uint64.f (a0 : Int) : Option (Int × Bool) := if ((a0) % 4294967296) = a0 then (some ((a0) % 4294967296, true)) else (some (0, false))
set_option maxHeartbeats 8000000 in
set_option maxRecDepth 100000 in
theorem word_To_uint32_uint64.calls (a0 : Int) (r1 : Int) (r2 : Bool) (w : World) (h : word_To_uint32_uint64.f a0 = some (r1, r2)) :
    Calls Try.prog 104 #[.int .u64 a0] w fun e w' => e = .returned (.tuple #[.int .u32 r1, .bool r2]) ∧ Drawn0 w w' := by
  have H : (if ((a0) % 4294967296) = a0 then (some ((a0) % 4294967296, true)) else (some (0, false))) = some (r1, r2) := h
  clear h
  by_cases c2 : ((a0) % 4294967296) = a0
  · rw [if_pos c2] at H
    have c2b0 : (((a0) % 4294967296) == a0) = true := beq_iff_eq.mpr c2
    have c2b1 : (((a0) % 4294967296) != a0) = false := bne_eq_false_iff_eq.mpr c2
    clear c2
    simp only [Option.some.injEq, Prod.mk.injEq] at H
    obtain ⟨rfl, rfl⟩ := H
    go_enter Try.func104, Try.ntmps104
    go_wp2
    go_ret2
    exact ⟨by first | rfl | (simp; done) | (simp [*]; done), by repeat (first | exact Drawn0.refl _ | apply Drawn0.step)⟩
  · rw [if_neg c2] at H
    have c2b0 : (((a0) % 4294967296) == a0) = false := beq_eq_false_iff_ne.mpr c2
    have c2b1 : (((a0) % 4294967296) != a0) = true := bne_iff_ne.mpr c2
    simp only [Option.some.injEq, Prod.mk.injEq] at H
    obtain ⟨rfl, rfl⟩ := H
    go_enter Try.func104, Try.ntmps104
    go_wp2
    go_ret2
    exact ⟨by first | rfl | (simp; done) | (simp [*]; done), by repeat (first | exact Drawn0.refl _ | apply Drawn0.step)⟩

end Go.Proofs.Ythdjddpomaendaa.PWordKin
