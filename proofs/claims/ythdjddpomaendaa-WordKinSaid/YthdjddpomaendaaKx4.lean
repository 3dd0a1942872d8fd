/- The walks of WordKin's functions, turned from what the print wrote (own text; one arm of To at uint64 closed by hand). -/
import Derived.Test.YthdjddpomaendaaPWordKinx0
import Derived.Test.YthdjddpomaendaaPWordKinx1
import Derived.Test.YthdjddpomaendaaKx3
namespace Go.Proofs.Ythdjddpomaendaa.PWordKin
open Go.RowKit Go.Proofs.YthdjddpomaendaaW.PrintWords Go.Proofs.YthdjddpomaendaaW.PrintLast Go.Proofs.YthdjddpomaendaaW.PrintMore
attribute [local go_sem] max2_int min2_int max_two min_two max_three min_three max_four min_four   -- for this text's walks alone
set_option linter.unusedVariables false
set_option linter.unusedSimpArgs false

/-! ### word_Up_uint64: function 72 -/
def word_Up_uint64.f (a0 : Int) (a1 : Int) : Option (Int × Bool) := if a1 = 0 then (some (0, false)) else (if (Int.tmod a0 a1) = 0 then (some (a0, true)) else ((word_Add_uint64.f (IntKind.u64.wrap (a0 - (Int.tmod a0 a1))) a1).bind fun bt171 => (some (bt171.1, bt171.2))))
set_option maxHeartbeats 8000000 in
set_option maxRecDepth 100000 in
theorem word_Up_uint64.calls (a0 : Int) (a1 : Int) (r1 : Int) (r2 : Bool) (w : World) (h : word_Up_uint64.f a0 a1 = some (r1, r2)) :
    Calls Try.prog 72 #[.int .u64 a0, .int .u64 a1] w fun e w' => e = .returned (.tuple #[.int .u64 r1, .bool r2]) ∧ Drawn0 w w' := by
  have H : (if a1 = 0 then (some (0, false)) else (if (Int.tmod a0 a1) = 0 then (some (a0, true)) else ((word_Add_uint64.f (IntKind.u64.wrap (a0 - (Int.tmod a0 a1))) a1).bind fun bt171 => (some (bt171.1, bt171.2))))) = some (r1, r2) := h
  clear h
  by_cases c3 : a1 = 0
  · rw [if_pos c3] at H
    have c3b0 : (a1 == 0) = true := beq_iff_eq.mpr c3
    have c3b1 : (a1 != 0) = false := bne_eq_false_iff_eq.mpr c3
    clear c3
    simp only [Option.some.injEq, Prod.mk.injEq] at H
    obtain ⟨rfl, rfl⟩ := H
    go_enter Try.func72, Try.ntmps72
    go_wp2
    go_ret2
    exact ⟨by first | rfl | (simp; done) | (simp [*]; done), by repeat (first | exact Drawn0.refl _ | apply Drawn0.step)⟩
  · rw [if_neg c3] at H
    have c3b0 : (a1 == 0) = false := beq_eq_false_iff_ne.mpr c3
    have c3b1 : (a1 != 0) = true := bne_iff_ne.mpr c3
    by_cases c4 : (Int.tmod a0 a1) = 0
    · rw [if_pos c4] at H
      have c4b0 : ((Int.tmod a0 a1) == 0) = true := beq_iff_eq.mpr c4
      have c4b1 : ((Int.tmod a0 a1) != 0) = false := bne_eq_false_iff_eq.mpr c4
      clear c4
      simp only [Option.some.injEq, Prod.mk.injEq] at H
      obtain ⟨rfl, rfl⟩ := H
      go_enter Try.func72, Try.ntmps72
      go_wp2
      go_ret2
      exact ⟨by first | rfl | (simp; done) | (simp [*]; done), by repeat (first | exact Drawn0.refl _ | apply Drawn0.step)⟩
    · rw [if_neg c4] at H
      have c4b0 : ((Int.tmod a0 a1) == 0) = false := beq_eq_false_iff_ne.mpr c4
      have c4b1 : ((Int.tmod a0 a1) != 0) = true := bne_iff_ne.mpr c4
      replace H := Option.bind_eq_some_iff.mp H
      obtain ⟨⟨t171, t172⟩, A50, H⟩ := H
      replace H : (some (t171, t172)) = some (r1, r2) := H
      have A5 := Aside0.mk A50
      clear A50
      simp only [Option.some.injEq, Prod.mk.injEq] at H
      obtain ⟨rfl, rfl⟩ := H
      go_enter Try.func72, Try.ntmps72
      go_wp2_with (first | ((with_reducible refine gate_callee (f := 69) rfl ?_); refine goesL_ (some 19) rfl rfl Try.func69 (by kernel_rfl) rfl #[.int .u64 (IntKind.u64.wrap (a0 - (Int.tmod a0 a1))), .int .u64 a1] rfl (by (try simp only [List.map_toArray, List.map_cons, List.map_nil]); first | done | rfl | (simp only [List.length_drop, List.length_take]; rfl)) ?_; (with_reducible refine (word_Add_uint64.calls (IntKind.u64.wrap (a0 - (Int.tmod a0 a1))) a1 t171 t172 _ A5.out).mono ?_); rintro e w' ⟨rfl, ⟨nd, rfl⟩⟩; refine ⟨_, rfl, ?_⟩))
      go_ret2
      exact ⟨by first | rfl | (simp; done) | (simp [*]; done), by repeat (first | exact Drawn0.refl _ | apply Drawn0.step)⟩

/-! ### bulkheadlaw1_kin_uint64: function 23 -/
mutual
def bulkheadlaw1_kin_uint64.j0 : Nat → Int → Int → Option (Bool)
  | 0, _, _ => none
  | k + 1, x0, x1 => (word_Sub_uint64.f x0 x1).bind fun bt177 => (if (bt177.2 != (decide (x0 ≥ x1))) = true then (some false) else (if bt177.2 = true then ((word_Add_uint64.f bt177.1 x1).bind fun bt179 => (if bt179.2 = true then (if bt179.1 = x0 then (bulkheadlaw1_kin_uint64.j1 k x0 x1) else (some false)) else (some false))) else (bulkheadlaw1_kin_uint64.j1 k x0 x1)))
def bulkheadlaw1_kin_uint64.j1 : Nat → Int → Int → Option (Bool)
  | 0, _, _ => none
  | k + 1, x0, x1 => (word_Mul_uint64.f x0 x1).bind fun bt181 => (if bt181.2 = true then (if x1 > 0 then (if x1 = 0 then (none) else (if (IntKind.u64.wrap (Int.tdiv bt181.1 x1)) = x0 then (bulkheadlaw1_kin_uint64.j2 k x0 x1 ((Int.tmod bt181.1 x1) != 0)) else (bulkheadlaw1_kin_uint64.j2 k x0 x1 true))) else (bulkheadlaw1_kin_uint64.j2 k x0 x1 false)) else (bulkheadlaw1_kin_uint64.j2 k x0 x1 false))
def bulkheadlaw1_kin_uint64.j2 : Nat → Int → Int → Bool → Option (Bool)
  | 0, _, _, _ => none
  | k + 1, x0, x1, x92 => if x92 = true then (some false) else ((word_Up_uint64.f x0 x1).bind fun bt183 => (if bt183.2 = true then (if bt183.1 < x0 then (bulkheadlaw1_kin_uint64.j3 k x0 true) else (if (IntKind.u64.wrap (bt183.1 - x0)) ≥ x1 then (bulkheadlaw1_kin_uint64.j3 k x0 true) else (if x1 = 0 then (none) else (bulkheadlaw1_kin_uint64.j3 k x0 ((Int.tmod bt183.1 x1) != 0))))) else (bulkheadlaw1_kin_uint64.j3 k x0 false)))
def bulkheadlaw1_kin_uint64.j3 : Nat → Int → Bool → Option (Bool)
  | 0, _, _ => none
  | k + 1, x0, x117 => if x117 = true then (some false) else ((word_Up_uint64.f x0 0).bind fun bt185 => ((word_Up_uint64.f x0 1).bind fun bt187 => (if bt185.2 = true then (some false) else (if bt185.1 = 0 then (if bt187.2 = true then (some (bt187.1 == x0)) else (some false)) else (some false)))))
end
def bulkheadlaw1_kin_uint64.f (k : Nat) (a0 : Int) (a1 : Int) : Option (Bool) := (word_Add_uint64.f a0 a1).bind fun bt173 => (if bt173.2 = true then ((word_Sub_uint64.f bt173.1 a1).bind fun bt175 => (if bt175.2 = true then (if bt175.1 = a0 then (if bt173.1 < a0 then (some false) else (bulkheadlaw1_kin_uint64.j0 k a0 a1)) else (some false)) else (some false))) else (bulkheadlaw1_kin_uint64.j0 k a0 a1))
theorem bulkheadlaw1_kin_uint64.mono_l : ∀ k, (∀ y0 y1, LeO (bulkheadlaw1_kin_uint64.j0 k y0 y1) (bulkheadlaw1_kin_uint64.j0 (k + 1) y0 y1)) ∧ (∀ y0 y1, LeO (bulkheadlaw1_kin_uint64.j1 k y0 y1) (bulkheadlaw1_kin_uint64.j1 (k + 1) y0 y1)) ∧ (∀ y0 y1 y2, LeO (bulkheadlaw1_kin_uint64.j2 k y0 y1 y2) (bulkheadlaw1_kin_uint64.j2 (k + 1) y0 y1 y2)) ∧ (∀ y0 y1, LeO (bulkheadlaw1_kin_uint64.j3 k y0 y1) (bulkheadlaw1_kin_uint64.j3 (k + 1) y0 y1))
  | 0 => ⟨fun _ _ r h => by simp [bulkheadlaw1_kin_uint64.j0] at h, fun _ _ r h => by simp [bulkheadlaw1_kin_uint64.j1] at h, fun _ _ _ r h => by simp [bulkheadlaw1_kin_uint64.j2] at h, fun _ _ r h => by simp [bulkheadlaw1_kin_uint64.j3] at h⟩
  | k + 1 => by
    obtain ⟨ih0, ih1, ih2, ih3⟩ := bulkheadlaw1_kin_uint64.mono_l k
    refine ⟨?_, ?_, ?_, ?_⟩
    · intro y0 y1
      unfold bulkheadlaw1_kin_uint64.j0
      repeat' first
      | (with_reducible exact ih0 _ _)
      | (with_reducible exact ih1 _ _)
      | (with_reducible exact ih2 _ _ _)
      | (with_reducible exact ih3 _ _)
      | (with_reducible exact LeO.refl _)
      | (with_reducible exact LeO.none _)
      | (with_reducible refine LeO.ite ?_ ?_)
      | (with_reducible refine LeO.bind ?_ (fun _ => ?_))
      | exact ih0 _ _
      | exact ih1 _ _
      | exact ih2 _ _ _
      | exact ih3 _ _
      | exact LeO.none _
      | refine LeO.ite ?_ ?_
      | refine LeO.bind ?_ (fun _ => ?_)
    · intro y0 y1
      unfold bulkheadlaw1_kin_uint64.j1
      repeat' first
      | (with_reducible exact ih0 _ _)
      | (with_reducible exact ih1 _ _)
      | (with_reducible exact ih2 _ _ _)
      | (with_reducible exact ih3 _ _)
      | (with_reducible exact LeO.refl _)
      | (with_reducible exact LeO.none _)
      | (with_reducible refine LeO.ite ?_ ?_)
      | (with_reducible refine LeO.bind ?_ (fun _ => ?_))
      | exact ih0 _ _
      | exact ih1 _ _
      | exact ih2 _ _ _
      | exact ih3 _ _
      | exact LeO.none _
      | refine LeO.ite ?_ ?_
      | refine LeO.bind ?_ (fun _ => ?_)
    · intro y0 y1 y2
      unfold bulkheadlaw1_kin_uint64.j2
      repeat' first
      | (with_reducible exact ih0 _ _)
      | (with_reducible exact ih1 _ _)
      | (with_reducible exact ih2 _ _ _)
      | (with_reducible exact ih3 _ _)
      | (with_reducible exact LeO.refl _)
      | (with_reducible exact LeO.none _)
      | (with_reducible refine LeO.ite ?_ ?_)
      | (with_reducible refine LeO.bind ?_ (fun _ => ?_))
      | exact ih0 _ _
      | exact ih1 _ _
      | exact ih2 _ _ _
      | exact ih3 _ _
      | exact LeO.none _
      | refine LeO.ite ?_ ?_
      | refine LeO.bind ?_ (fun _ => ?_)
    · intro y0 y1
      unfold bulkheadlaw1_kin_uint64.j3
      repeat' first
      | (with_reducible exact ih0 _ _)
      | (with_reducible exact ih1 _ _)
      | (with_reducible exact ih2 _ _ _)
      | (with_reducible exact ih3 _ _)
      | (with_reducible exact LeO.refl _)
      | (with_reducible exact LeO.none _)
      | (with_reducible refine LeO.ite ?_ ?_)
      | (with_reducible refine LeO.bind ?_ (fun _ => ?_))
      | exact ih0 _ _
      | exact ih1 _ _
      | exact ih2 _ _ _
      | exact ih3 _ _
      | exact LeO.none _
      | refine LeO.ite ?_ ?_
      | refine LeO.bind ?_ (fun _ => ?_)
theorem bulkheadlaw1_kin_uint64.mono : ∀ a0 a1 k, LeO (bulkheadlaw1_kin_uint64.f k a0 a1) (bulkheadlaw1_kin_uint64.f (k + 1) a0 a1) := by
  intro a0 a1 k
  obtain ⟨ih0, ih1, ih2, ih3⟩ := bulkheadlaw1_kin_uint64.mono_l k
  unfold bulkheadlaw1_kin_uint64.f
  repeat' first
      | (with_reducible exact ih0 _ _)
      | (with_reducible exact ih1 _ _)
      | (with_reducible exact ih2 _ _ _)
      | (with_reducible exact ih3 _ _)
      | (with_reducible exact LeO.refl _)
      | (with_reducible exact LeO.none _)
      | (with_reducible refine LeO.ite ?_ ?_)
      | (with_reducible refine LeO.bind ?_ (fun _ => ?_))
      | exact ih0 _ _
      | exact ih1 _ _
      | exact ih2 _ _ _
      | exact ih3 _ _
      | exact LeO.none _
      | refine LeO.ite ?_ ?_
      | refine LeO.bind ?_ (fun _ => ?_)
set_option maxHeartbeats 8000000 in
set_option maxRecDepth 100000 in
theorem bulkheadlaw1_kin_uint64.calls (k : Nat) (a0 : Int) (a1 : Int) (r : Bool) (w : World) (h : bulkheadlaw1_kin_uint64.f k a0 a1 = some r) :
    Calls Try.prog 23 #[.int .u64 a0, .int .u64 a1] w fun e w' => e = .returned (.bool r) ∧ Drawn0 w w' := by
  have H : ((word_Add_uint64.f a0 a1).bind fun bt173 => (if bt173.2 = true then ((word_Sub_uint64.f bt173.1 a1).bind fun bt175 => (if bt175.2 = true then (if bt175.1 = a0 then (if bt173.1 < a0 then (some false) else (bulkheadlaw1_kin_uint64.j0 k a0 a1)) else (some false)) else (some false))) else (bulkheadlaw1_kin_uint64.j0 k a0 a1))) = some r := h
  clear h
  replace H := Option.bind_eq_some_iff.mp H
  obtain ⟨⟨t173, t174⟩, A30, H⟩ := H
  replace H : (if t174 = true then ((word_Sub_uint64.f t173 a1).bind fun bt175 => (if bt175.2 = true then (if bt175.1 = a0 then (if t173 < a0 then (some false) else (bulkheadlaw1_kin_uint64.j0 k a0 a1)) else (some false)) else (some false))) else (bulkheadlaw1_kin_uint64.j0 k a0 a1)) = some r := H
  have A3 := Aside0.mk A30
  clear A30
  have HC4 := Aside0.mk H
  clear H
  go_enter Try.func23, Try.ntmps23
  go_upto_if 25 with (first | ((with_reducible refine gate_callee (f := 69) rfl ?_); refine goesL_ (some 22) rfl rfl Try.func69 (by kernel_rfl) rfl #[.int .u64 a0, .int .u64 a1] rfl (by (try simp only [List.map_toArray, List.map_cons, List.map_nil]); first | done | rfl | (simp only [List.length_drop, List.length_take]; rfl)) ?_; (with_reducible refine (word_Add_uint64.calls a0 a1 t173 t174 _ A3.out).mono ?_); rintro e w' ⟨rfl, ⟨nd, rfl⟩⟩; refine ⟨_, rfl, ?_⟩))
  (try simp only [Act.put, List.setIfInBounds_toArray, List.set_cons_zero, List.set_cons_succ])
  go_cut [] (fun wc => ∃ (kq : Nat), Aside0 (bulkheadlaw1_kin_uint64.j0 kq a0 a1 = some r) ∧ Aside0 (kq ≤ k) ∧ Drawn0 w wc)
  case first =>
    have H := HC4.out
    clear HC4
    by_cases c5 : t174 = true
    · subst c5
      have H1 : ((word_Sub_uint64.f t173 a1).bind fun bt175 => (if bt175.2 = true then (if bt175.1 = a0 then (if t173 < a0 then (some false) else (bulkheadlaw1_kin_uint64.j0 k a0 a1)) else (some false)) else (some false))) = some r := by rw [if_pos rfl] at H; exact H
      clear H
      have H := H1
      clear H1
      replace H := Option.bind_eq_some_iff.mp H
      obtain ⟨⟨t175, t176⟩, A60, H⟩ := H
      replace H : (if t176 = true then (if t175 = a0 then (if t173 < a0 then (some false) else (bulkheadlaw1_kin_uint64.j0 k a0 a1)) else (some false)) else (some false)) = some r := H
      have A6 := Aside0.mk A60
      clear A60
      by_cases c7 : t176 = true
      · subst c7
        have H1 : (if t175 = a0 then (if t173 < a0 then (some false) else (bulkheadlaw1_kin_uint64.j0 k a0 a1)) else (some false)) = some r := by rw [if_pos rfl] at H; exact H
        clear H
        have H := H1
        clear H1
        by_cases c8 : t175 = a0
        · rw [if_pos c8] at H
          have c8b0 : (t175 == a0) = true := beq_iff_eq.mpr c8
          have c8b1 : (t175 != a0) = false := bne_eq_false_iff_eq.mpr c8
          clear c8
          (first | rw [c8b0] | (simp only [i64_w, i32_w]; rw [c8b0]) | skip)
          by_cases c9 : t173 < a0
          · rw [if_pos c9] at H
            have c9b0 : decide (t173 < a0) = true := decide_eq_true c9
            clear c9
            obtain rfl := Option.some.inj H
            go_wp2_with (first | ((with_reducible refine gate_callee (f := 70) rfl ?_); refine goesL_ (some 29) rfl rfl Try.func70 (by kernel_rfl) rfl #[.int .u64 t173, .int .u64 a1] rfl (by (try simp only [List.map_toArray, List.map_cons, List.map_nil]); first | done | rfl | (simp only [List.length_drop, List.length_take]; rfl)) ?_; (with_reducible refine (word_Sub_uint64.calls t173 a1 t175 true _ A6.out).mono ?_); rintro e w' ⟨rfl, ⟨nd, rfl⟩⟩; refine ⟨_, rfl, ?_⟩))
            go_ret
            exact ⟨by first | rfl | (simp; done) | (simp [*]; done), by repeat (first | exact Drawn0.refl _ | apply Drawn0.step)⟩
          · rw [if_neg c9] at H
            have c9b0 : decide (t173 < a0) = false := decide_eq_false c9
            clear c9
            have H' := Aside0.mk H
            clear H
            go_wp2_with (first | ((with_reducible refine gate_callee (f := 70) rfl ?_); refine goesL_ (some 29) rfl rfl Try.func70 (by kernel_rfl) rfl #[.int .u64 t173, .int .u64 a1] rfl (by (try simp only [List.map_toArray, List.map_cons, List.map_nil]); first | done | rfl | (simp only [List.length_drop, List.length_take]; rfl)) ?_; (with_reducible refine (word_Sub_uint64.calls t173 a1 t175 true _ A6.out).mono ?_); rintro e w' ⟨rfl, ⟨nd, rfl⟩⟩; refine ⟨_, rfl, ?_⟩))
            go_meet
            case rel => exact ⟨_, H', ⟨by first | omega | exact Nat.le_refl _⟩, by repeat (first | exact Drawn0.refl _ | apply Drawn0.step)⟩
        · rw [if_neg c8] at H
          have c8b0 : (t175 == a0) = false := beq_eq_false_iff_ne.mpr c8
          have c8b1 : (t175 != a0) = true := bne_iff_ne.mpr c8
          (first | rw [c8b0] | (simp only [i64_w, i32_w]; rw [c8b0]) | skip)
          obtain rfl := Option.some.inj H
          go_wp2_with (first | ((with_reducible refine gate_callee (f := 70) rfl ?_); refine goesL_ (some 29) rfl rfl Try.func70 (by kernel_rfl) rfl #[.int .u64 t173, .int .u64 a1] rfl (by (try simp only [List.map_toArray, List.map_cons, List.map_nil]); first | done | rfl | (simp only [List.length_drop, List.length_take]; rfl)) ?_; (with_reducible refine (word_Sub_uint64.calls t173 a1 t175 true _ A6.out).mono ?_); rintro e w' ⟨rfl, ⟨nd, rfl⟩⟩; refine ⟨_, rfl, ?_⟩))
          go_ret
          exact ⟨by first | rfl | (simp; done) | (simp [*]; done), by repeat (first | exact Drawn0.refl _ | apply Drawn0.step)⟩
      · replace c7 := Bool.eq_false_iff.mpr c7
        subst c7
        have H1 : (some false) = some r := by rw [if_neg (show ¬ (false = true) by decide)] at H; exact H
        clear H
        have H := H1
        clear H1
        obtain rfl := Option.some.inj H
        go_wp2_with (first | ((with_reducible refine gate_callee (f := 70) rfl ?_); refine goesL_ (some 29) rfl rfl Try.func70 (by kernel_rfl) rfl #[.int .u64 t173, .int .u64 a1] rfl (by (try simp only [List.map_toArray, List.map_cons, List.map_nil]); first | done | rfl | (simp only [List.length_drop, List.length_take]; rfl)) ?_; (with_reducible refine (word_Sub_uint64.calls t173 a1 t175 false _ A6.out).mono ?_); rintro e w' ⟨rfl, ⟨nd, rfl⟩⟩; refine ⟨_, rfl, ?_⟩))
        go_ret
        exact ⟨by first | rfl | (simp; done) | (simp [*]; done), by repeat (first | exact Drawn0.refl _ | apply Drawn0.step)⟩
    · replace c5 := Bool.eq_false_iff.mpr c5
      subst c5
      have H1 : (bulkheadlaw1_kin_uint64.j0 k a0 a1) = some r := by rw [if_neg (show ¬ (false = true) by decide)] at H; exact H
      clear H
      have H := H1
      clear H1
      have H' := Aside0.mk H
      clear H
      go_wp2
      go_meet
      case rel => exact ⟨_, H', ⟨by first | omega | exact Nat.le_refl _⟩, by repeat (first | exact Drawn0.refl _ | apply Drawn0.step)⟩
  case rest =>
    clear HC4
    try clear c2
    try clear p2
    try clear c5
    try clear c6
    try clear c7
    try clear c8
    try clear c8b0
    try clear c8b1
    try clear c9
    try clear c9b0
    obtain ⟨kq, HA, HJ3, ⟨mc3, rfl⟩⟩ := hcut
    cases kq with
    | zero => exact absurd HA.out (by simp [bulkheadlaw1_kin_uint64.j0])
    | succ kj3 =>
      have H := HA.out
      clear HA
      simp only [bulkheadlaw1_kin_uint64.j0] at H
      replace H := Option.bind_eq_some_iff.mp H
      obtain ⟨⟨t177, t178⟩, A100, H⟩ := H
      replace H : (if (t178 != (decide (a0 ≥ a1))) = true then (some false) else (if t178 = true then ((word_Add_uint64.f t177 a1).bind fun bt179 => (if bt179.2 = true then (if bt179.1 = a0 then (bulkheadlaw1_kin_uint64.j1 kj3 a0 a1) else (some false)) else (some false))) else (bulkheadlaw1_kin_uint64.j1 kj3 a0 a1))) = some r := H
      have A10 := Aside0.mk A100
      clear A100
      by_cases c11 : (t178 != (decide (a0 ≥ a1))) = true
      · rw [if_pos c11] at H
        have c11b0 : (t178 != (decide (a0 ≥ a1))) = true := c11
        (try (have c11b1 : decide (t178 = (decide (a0 ≥ a1))) = false := by simpa using c11))
        (try (have c11b2 : (t178 == (decide (a0 ≥ a1))) = false := by simpa using c11))
        (try (have c11b3 : ¬ (t178 = (decide (a0 ≥ a1))) := by simpa using c11))
        clear c11
        obtain rfl := Option.some.inj H
        go_wp2_with (first | ((with_reducible refine gate_callee (f := 70) rfl ?_); refine goesL_ (some 47) rfl rfl Try.func70 (by kernel_rfl) rfl #[.int .u64 a0, .int .u64 a1] rfl (by (try simp only [List.map_toArray, List.map_cons, List.map_nil]); first | done | rfl | (simp only [List.length_drop, List.length_take]; rfl)) ?_; (with_reducible refine (word_Sub_uint64.calls a0 a1 t177 t178 _ A10.out).mono ?_); rintro e w' ⟨rfl, ⟨nd, rfl⟩⟩; refine ⟨_, rfl, ?_⟩))
        go_ret
        exact ⟨by first | rfl | (simp; done) | (simp [*]; done), by repeat (first | exact Drawn0.refl _ | apply Drawn0.step)⟩
      · rw [if_neg c11] at H
        have c11b0 : (t178 != (decide (a0 ≥ a1))) = false := by simpa using c11
        (try (have c11b1 : decide (t178 = (decide (a0 ≥ a1))) = true := by simpa using c11))
        (try (have c11b2 : (t178 == (decide (a0 ≥ a1))) = true := by simpa using c11))
        clear c11
        have HC12 := Aside0.mk H
        clear H
        go_upto_if 55 with (first | ((with_reducible refine gate_callee (f := 70) rfl ?_); refine goesL_ (some 47) rfl rfl Try.func70 (by kernel_rfl) rfl #[.int .u64 a0, .int .u64 a1] rfl (by (try simp only [List.map_toArray, List.map_cons, List.map_nil]); first | done | rfl | (simp only [List.length_drop, List.length_take]; rfl)) ?_; (with_reducible refine (word_Sub_uint64.calls a0 a1 t177 t178 _ A10.out).mono ?_); rintro e w' ⟨rfl, ⟨nd, rfl⟩⟩; refine ⟨_, rfl, ?_⟩))
        (try simp only [Act.put, List.setIfInBounds_toArray, List.set_cons_zero, List.set_cons_succ])
        go_cut [] (fun wc => ∃ (kq : Nat), Aside0 (bulkheadlaw1_kin_uint64.j1 kq a0 a1 = some r) ∧ Aside0 (kq ≤ kj3) ∧ Drawn0 w wc)
        case first =>
          have H := HC12.out
          clear HC12
          by_cases c13 : t178 = true
          · subst c13
            have H1 : ((word_Add_uint64.f t177 a1).bind fun bt179 => (if bt179.2 = true then (if bt179.1 = a0 then (bulkheadlaw1_kin_uint64.j1 kj3 a0 a1) else (some false)) else (some false))) = some r := by rw [if_pos rfl] at H; exact H
            clear H
            have H := H1
            clear H1
            replace H := Option.bind_eq_some_iff.mp H
            obtain ⟨⟨t179, t180⟩, A140, H⟩ := H
            replace H : (if t180 = true then (if t179 = a0 then (bulkheadlaw1_kin_uint64.j1 kj3 a0 a1) else (some false)) else (some false)) = some r := H
            have A14 := Aside0.mk A140
            clear A140
            by_cases c15 : t180 = true
            · subst c15
              have H1 : (if t179 = a0 then (bulkheadlaw1_kin_uint64.j1 kj3 a0 a1) else (some false)) = some r := by rw [if_pos rfl] at H; exact H
              clear H
              have H := H1
              clear H1
              by_cases c16 : t179 = a0
              · rw [if_pos c16] at H
                have c16b0 : (t179 == a0) = true := beq_iff_eq.mpr c16
                have c16b1 : (t179 != a0) = false := bne_eq_false_iff_eq.mpr c16
                clear c16
                (first | rw [c16b0] | (simp only [i64_w, i32_w]; rw [c16b0]) | skip)
                have H' := Aside0.mk H
                clear H
                go_wp2_with (first | ((with_reducible refine gate_callee (f := 69) rfl ?_); refine goesL_ (some 59) rfl rfl Try.func69 (by kernel_rfl) rfl #[.int .u64 t177, .int .u64 a1] rfl (by (try simp only [List.map_toArray, List.map_cons, List.map_nil]); first | done | rfl | (simp only [List.length_drop, List.length_take]; rfl)) ?_; (with_reducible refine (word_Add_uint64.calls t177 a1 t179 true _ A14.out).mono ?_); rintro e w' ⟨rfl, ⟨nd, rfl⟩⟩; refine ⟨_, rfl, ?_⟩))
                go_meet
                case rel => exact ⟨_, H', ⟨by have := HJ3.out; first | omega | exact Nat.le_refl _⟩, by repeat (first | exact Drawn0.refl _ | apply Drawn0.step)⟩
              · rw [if_neg c16] at H
                have c16b0 : (t179 == a0) = false := beq_eq_false_iff_ne.mpr c16
                have c16b1 : (t179 != a0) = true := bne_iff_ne.mpr c16
                (first | rw [c16b0] | (simp only [i64_w, i32_w]; rw [c16b0]) | skip)
                obtain rfl := Option.some.inj H
                go_wp2_with (first | ((with_reducible refine gate_callee (f := 69) rfl ?_); refine goesL_ (some 59) rfl rfl Try.func69 (by kernel_rfl) rfl #[.int .u64 t177, .int .u64 a1] rfl (by (try simp only [List.map_toArray, List.map_cons, List.map_nil]); first | done | rfl | (simp only [List.length_drop, List.length_take]; rfl)) ?_; (with_reducible refine (word_Add_uint64.calls t177 a1 t179 true _ A14.out).mono ?_); rintro e w' ⟨rfl, ⟨nd, rfl⟩⟩; refine ⟨_, rfl, ?_⟩))
                go_ret
                exact ⟨by first | rfl | (simp; done) | (simp [*]; done), by repeat (first | exact Drawn0.refl _ | apply Drawn0.step)⟩
            · replace c15 := Bool.eq_false_iff.mpr c15
              subst c15
              have H1 : (some false) = some r := by rw [if_neg (show ¬ (false = true) by decide)] at H; exact H
              clear H
              have H := H1
              clear H1
              obtain rfl := Option.some.inj H
              go_wp2_with (first | ((with_reducible refine gate_callee (f := 69) rfl ?_); refine goesL_ (some 59) rfl rfl Try.func69 (by kernel_rfl) rfl #[.int .u64 t177, .int .u64 a1] rfl (by (try simp only [List.map_toArray, List.map_cons, List.map_nil]); first | done | rfl | (simp only [List.length_drop, List.length_take]; rfl)) ?_; (with_reducible refine (word_Add_uint64.calls t177 a1 t179 false _ A14.out).mono ?_); rintro e w' ⟨rfl, ⟨nd, rfl⟩⟩; refine ⟨_, rfl, ?_⟩))
              go_ret
              exact ⟨by first | rfl | (simp; done) | (simp [*]; done), by repeat (first | exact Drawn0.refl _ | apply Drawn0.step)⟩
          · replace c13 := Bool.eq_false_iff.mpr c13
            subst c13
            have H1 : (bulkheadlaw1_kin_uint64.j1 kj3 a0 a1) = some r := by rw [if_neg (show ¬ (false = true) by decide)] at H; exact H
            clear H
            have H := H1
            clear H1
            have H' := Aside0.mk H
            clear H
            go_wp2
            go_meet
            case rel => exact ⟨_, H', ⟨by have := HJ3.out; first | omega | exact Nat.le_refl _⟩, by repeat (first | exact Drawn0.refl _ | apply Drawn0.step)⟩
        case rest =>
          clear HC12
          try clear c1
          try clear c2
          try clear p2
          try clear c3
          try clear c5
          try clear c6
          try clear c7
          try clear c8
          try clear c8b0
          try clear c8b1
          try clear c9
          try clear c9b0
          try clear c11
          try clear c11b0
          try clear c11b1
          try clear c11b2
          try clear c13
          try clear c15
          try clear c16
          try clear c16b0
          try clear c16b1
          try clear p2
          obtain ⟨kq, HA, HJ11, ⟨mc11, rfl⟩⟩ := hcut
          cases kq with
          | zero => exact absurd HA.out (by simp [bulkheadlaw1_kin_uint64.j1])
          | succ kj11 =>
            have H := HA.out
            clear HA
            simp only [bulkheadlaw1_kin_uint64.j1] at H
            replace H := Option.bind_eq_some_iff.mp H
            obtain ⟨⟨t181, t182⟩, A170, H⟩ := H
            replace H : (if t182 = true then (if a1 > 0 then (if a1 = 0 then (none) else (if (IntKind.u64.wrap (Int.tdiv t181 a1)) = a0 then (bulkheadlaw1_kin_uint64.j2 kj11 a0 a1 ((Int.tmod t181 a1) != 0)) else (bulkheadlaw1_kin_uint64.j2 kj11 a0 a1 true))) else (bulkheadlaw1_kin_uint64.j2 kj11 a0 a1 false)) else (bulkheadlaw1_kin_uint64.j2 kj11 a0 a1 false)) = some r := H
            have A17 := Aside0.mk A170
            clear A170
            have HC18 := Aside0.mk H
            clear H
            go_upto_region 14 with (first | ((with_reducible refine gate_callee (f := 71) rfl ?_); refine goesL_ (some 72) rfl rfl Try.func71 (by kernel_rfl) rfl #[.int .u64 a0, .int .u64 a1] rfl (by (try simp only [List.map_toArray, List.map_cons, List.map_nil]); first | done | rfl | (simp only [List.length_drop, List.length_take]; rfl)) ?_; (with_reducible refine (word_Mul_uint64.calls a0 a1 t181 t182 _ A17.out).mono ?_); rintro e w' ⟨rfl, ⟨nd, rfl⟩⟩; refine ⟨_, rfl, ?_⟩))
            (try simp only [Act.put, List.setIfInBounds_toArray, List.set_cons_zero, List.set_cons_succ])
            go_cut [92] (fun v92 wc => ∃ (kq : Nat) (x92_17 : Bool), v92 = .bool x92_17 ∧ Aside0 (bulkheadlaw1_kin_uint64.j2 kq a0 a1 x92_17 = some r) ∧ Aside0 (kq ≤ kj11) ∧ Drawn0 w wc)
            case first =>
              have H := HC18.out
              clear HC18
              by_cases c19 : t182 = true
              · subst c19
                have H1 : (if a1 > 0 then (if a1 = 0 then (none) else (if (IntKind.u64.wrap (Int.tdiv t181 a1)) = a0 then (bulkheadlaw1_kin_uint64.j2 kj11 a0 a1 ((Int.tmod t181 a1) != 0)) else (bulkheadlaw1_kin_uint64.j2 kj11 a0 a1 true))) else (bulkheadlaw1_kin_uint64.j2 kj11 a0 a1 false)) = some r := by rw [if_pos rfl] at H; exact H
                clear H
                have H := H1
                clear H1
                by_cases c20 : a1 > 0
                · rw [if_pos c20] at H
                  have c20b0 : decide (0 < a1) = true := decide_eq_true c20
                  clear c20
                  (first | rw [c20b0] | (simp only [i64_w, i32_w]; rw [c20b0]) | skip)
                  by_cases c21 : a1 = 0
                  · rw [if_pos c21] at H
                    exact absurd H (by simp)
                  · rw [if_neg c21] at H
                    have c21b0 : (a1 == 0) = false := beq_eq_false_iff_ne.mpr c21
                    have c21b1 : (a1 != 0) = true := bne_iff_ne.mpr c21
                    by_cases c22 : (IntKind.u64.wrap (Int.tdiv t181 a1)) = a0
                    · rw [if_pos c22] at H
                      have c22b0 : ((IntKind.u64.wrap (Int.tdiv t181 a1)) == a0) = true := beq_iff_eq.mpr c22
                      have c22b1 : ((IntKind.u64.wrap (Int.tdiv t181 a1)) != a0) = false := bne_eq_false_iff_eq.mpr c22
                      clear c22
                      have H' := Aside0.mk H
                      clear H
                      go_wp2
                      go_meet
                      case rel => exact ⟨_, (((Int.tmod t181 a1) != 0)), (by first | rfl | (simp; done) | (simp [*]; done)), H', ⟨by have := HJ3.out; have := HJ11.out; first | omega | exact Nat.le_refl _⟩, by repeat (first | exact Drawn0.refl _ | apply Drawn0.step)⟩
                    · rw [if_neg c22] at H
                      have c22b0 : ((IntKind.u64.wrap (Int.tdiv t181 a1)) == a0) = false := beq_eq_false_iff_ne.mpr c22
                      have c22b1 : ((IntKind.u64.wrap (Int.tdiv t181 a1)) != a0) = true := bne_iff_ne.mpr c22
                      have H' := Aside0.mk H
                      clear H
                      go_wp2
                      go_meet
                      case rel => exact ⟨_, (true), (by first | rfl | (simp; done) | (simp [*]; done)), H', ⟨by have := HJ3.out; have := HJ11.out; first | omega | exact Nat.le_refl _⟩, by repeat (first | exact Drawn0.refl _ | apply Drawn0.step)⟩
                · rw [if_neg c20] at H
                  have c20b0 : decide (0 < a1) = false := decide_eq_false c20
                  clear c20
                  (first | rw [c20b0] | (simp only [i64_w, i32_w]; rw [c20b0]) | skip)
                  have H' := Aside0.mk H
                  clear H
                  go_wp2
                  go_meet
                  case rel => exact ⟨_, (false), (by first | rfl | (simp; done) | (simp [*]; done)), H', ⟨by have := HJ3.out; have := HJ11.out; first | omega | exact Nat.le_refl _⟩, by repeat (first | exact Drawn0.refl _ | apply Drawn0.step)⟩
              · replace c19 := Bool.eq_false_iff.mpr c19
                subst c19
                have H1 : (bulkheadlaw1_kin_uint64.j2 kj11 a0 a1 false) = some r := by rw [if_neg (show ¬ (false = true) by decide)] at H; exact H
                clear H
                have H := H1
                clear H1
                have H' := Aside0.mk H
                clear H
                go_wp2
                go_meet
                case rel => exact ⟨_, (false), (by first | rfl | (simp; done) | (simp [*]; done)), H', ⟨by have := HJ3.out; have := HJ11.out; first | omega | exact Nat.le_refl _⟩, by repeat (first | exact Drawn0.refl _ | apply Drawn0.step)⟩
            case rest =>
              clear HC18
              try clear c1
              try clear c2
              try clear p2
              try clear c3
              try clear c5
              try clear c6
              try clear c7
              try clear c8
              try clear c8b0
              try clear c8b1
              try clear c9
              try clear c9b0
              try clear c11
              try clear c11b0
              try clear c11b1
              try clear c11b2
              try clear c13
              try clear c15
              try clear c16
              try clear c16b0
              try clear c16b1
              try clear c19
              try clear c20
              try clear c20b0
              try clear c21
              try clear c21b0
              try clear c21b1
              try clear c22
              try clear c22b0
              try clear c22b1
              try clear p2
              obtain ⟨kq, x92_17, rfl, HA, HJ17, ⟨mc17, rfl⟩⟩ := hcut
              cases kq with
              | zero => exact absurd HA.out (by simp [bulkheadlaw1_kin_uint64.j2])
              | succ kj17 =>
                have H := HA.out
                clear HA
                simp only [bulkheadlaw1_kin_uint64.j2] at H
                by_cases c23 : x92_17 = true
                · subst c23
                  have H1 : (some false) = some r := by rw [if_pos rfl] at H; exact H
                  clear H
                  have H := H1
                  clear H1
                  obtain rfl := Option.some.inj H
                  go_wp2
                  go_ret
                  exact ⟨by first | rfl | (simp; done) | (simp [*]; done), by repeat (first | exact Drawn0.refl _ | apply Drawn0.step)⟩
                · replace c23 := Bool.eq_false_iff.mpr c23
                  subst c23
                  have H1 : ((word_Up_uint64.f a0 a1).bind fun bt183 => (if bt183.2 = true then (if bt183.1 < a0 then (bulkheadlaw1_kin_uint64.j3 kj17 a0 true) else (if (IntKind.u64.wrap (bt183.1 - a0)) ≥ a1 then (bulkheadlaw1_kin_uint64.j3 kj17 a0 true) else (if a1 = 0 then (none) else (bulkheadlaw1_kin_uint64.j3 kj17 a0 ((Int.tmod bt183.1 a1) != 0))))) else (bulkheadlaw1_kin_uint64.j3 kj17 a0 false))) = some r := by rw [if_neg (show ¬ (false = true) by decide)] at H; exact H
                  clear H
                  have H := H1
                  clear H1
                  replace H := Option.bind_eq_some_iff.mp H
                  obtain ⟨⟨t183, t184⟩, A240, H⟩ := H
                  replace H : (if t184 = true then (if t183 < a0 then (bulkheadlaw1_kin_uint64.j3 kj17 a0 true) else (if (IntKind.u64.wrap (t183 - a0)) ≥ a1 then (bulkheadlaw1_kin_uint64.j3 kj17 a0 true) else (if a1 = 0 then (none) else (bulkheadlaw1_kin_uint64.j3 kj17 a0 ((Int.tmod t183 a1) != 0))))) else (bulkheadlaw1_kin_uint64.j3 kj17 a0 false)) = some r := H
                  have A24 := Aside0.mk A240
                  clear A240
                  have HC25 := Aside0.mk H
                  clear H
                  go_upto_region 17 with (first | ((with_reducible refine gate_callee (f := 72) rfl ?_); refine goesL_ (some 96) rfl rfl Try.func72 (by kernel_rfl) rfl #[.int .u64 a0, .int .u64 a1] rfl (by (try simp only [List.map_toArray, List.map_cons, List.map_nil]); first | done | rfl | (simp only [List.length_drop, List.length_take]; rfl)) ?_; (with_reducible refine (word_Up_uint64.calls a0 a1 t183 t184 _ A24.out).mono ?_); rintro e w' ⟨rfl, ⟨nd, rfl⟩⟩; refine ⟨_, rfl, ?_⟩))
                  (try simp only [Act.put, List.setIfInBounds_toArray, List.set_cons_zero, List.set_cons_succ])
                  go_cut [117] (fun v117 wc => ∃ (kq : Nat) (x117_24 : Bool), v117 = .bool x117_24 ∧ Aside0 (bulkheadlaw1_kin_uint64.j3 kq a0 x117_24 = some r) ∧ Aside0 (kq ≤ kj17) ∧ Drawn0 w wc)
                  case first =>
                    have H := HC25.out
                    clear HC25
                    by_cases c26 : t184 = true
                    · subst c26
                      have H1 : (if t183 < a0 then (bulkheadlaw1_kin_uint64.j3 kj17 a0 true) else (if (IntKind.u64.wrap (t183 - a0)) ≥ a1 then (bulkheadlaw1_kin_uint64.j3 kj17 a0 true) else (if a1 = 0 then (none) else (bulkheadlaw1_kin_uint64.j3 kj17 a0 ((Int.tmod t183 a1) != 0))))) = some r := by rw [if_pos rfl] at H; exact H
                      clear H
                      have H := H1
                      clear H1
                      by_cases c27 : t183 < a0
                      · rw [if_pos c27] at H
                        have c27b0 : decide (t183 < a0) = true := decide_eq_true c27
                        clear c27
                        (first | rw [c27b0] | (simp only [i64_w, i32_w]; rw [c27b0]) | skip)
                        have H' := Aside0.mk H
                        clear H
                        go_wp2
                        go_meet
                        case rel => exact ⟨_, (true), (by first | rfl | (simp; done) | (simp [*]; done)), H', ⟨by have := HJ3.out; have := HJ11.out; have := HJ17.out; first | omega | exact Nat.le_refl _⟩, by repeat (first | exact Drawn0.refl _ | apply Drawn0.step)⟩
                      · rw [if_neg c27] at H
                        have c27b0 : decide (t183 < a0) = false := decide_eq_false c27
                        clear c27
                        (first | rw [c27b0] | (simp only [i64_w, i32_w]; rw [c27b0]) | skip)
                        by_cases c28 : (IntKind.u64.wrap (t183 - a0)) ≥ a1
                        · rw [if_pos c28] at H
                          have c28b0 : decide (a1 ≤ (IntKind.u64.wrap (t183 - a0))) = true := decide_eq_true c28
                          clear c28
                          have H' := Aside0.mk H
                          clear H
                          go_wp2
                          go_meet
                          case rel => exact ⟨_, (true), (by first | rfl | (simp; done) | (simp [*]; done)), H', ⟨by have := HJ3.out; have := HJ11.out; have := HJ17.out; first | omega | exact Nat.le_refl _⟩, by repeat (first | exact Drawn0.refl _ | apply Drawn0.step)⟩
                        · rw [if_neg c28] at H
                          have c28b0 : decide (a1 ≤ (IntKind.u64.wrap (t183 - a0))) = false := decide_eq_false c28
                          clear c28
                          by_cases c29 : a1 = 0
                          · rw [if_pos c29] at H
                            exact absurd H (by simp)
                          · rw [if_neg c29] at H
                            have c29b0 : (a1 == 0) = false := beq_eq_false_iff_ne.mpr c29
                            have c29b1 : (a1 != 0) = true := bne_iff_ne.mpr c29
                            have H' := Aside0.mk H
                            clear H
                            go_wp2
                            go_meet
                            case rel => exact ⟨_, (((Int.tmod t183 a1) != 0)), (by first | rfl | (simp; done) | (simp [*]; done)), H', ⟨by have := HJ3.out; have := HJ11.out; have := HJ17.out; first | omega | exact Nat.le_refl _⟩, by repeat (first | exact Drawn0.refl _ | apply Drawn0.step)⟩
                    · replace c26 := Bool.eq_false_iff.mpr c26
                      subst c26
                      have H1 : (bulkheadlaw1_kin_uint64.j3 kj17 a0 false) = some r := by rw [if_neg (show ¬ (false = true) by decide)] at H; exact H
                      clear H
                      have H := H1
                      clear H1
                      have H' := Aside0.mk H
                      clear H
                      go_wp2
                      go_meet
                      case rel => exact ⟨_, (false), (by first | rfl | (simp; done) | (simp [*]; done)), H', ⟨by have := HJ3.out; have := HJ11.out; have := HJ17.out; first | omega | exact Nat.le_refl _⟩, by repeat (first | exact Drawn0.refl _ | apply Drawn0.step)⟩
                  case rest =>
                    clear HC25
                    try clear c1
                    try clear c2
                    try clear p2
                    try clear c3
                    try clear c5
                    try clear c6
                    try clear c7
                    try clear c8
                    try clear c8b0
                    try clear c8b1
                    try clear c9
                    try clear c9b0
                    try clear c11
                    try clear c11b0
                    try clear c11b1
                    try clear c11b2
                    try clear c13
                    try clear c15
                    try clear c16
                    try clear c16b0
                    try clear c16b1
                    try clear c17
                    try clear c19
                    try clear c20
                    try clear c20b0
                    try clear c21
                    try clear c21b0
                    try clear c21b1
                    try clear c22
                    try clear c22b0
                    try clear c22b1
                    try clear c23
                    try clear c26
                    try clear c27
                    try clear c27b0
                    try clear c28
                    try clear c28b0
                    try clear c29
                    try clear c29b0
                    try clear c29b1
                    try clear p2
                    obtain ⟨kq, x117_24, rfl, HA, HJ24, ⟨mc24, rfl⟩⟩ := hcut
                    cases kq with
                    | zero => exact absurd HA.out (by simp [bulkheadlaw1_kin_uint64.j3])
                    | succ kj24 =>
                      have H := HA.out
                      clear HA
                      simp only [bulkheadlaw1_kin_uint64.j3] at H
                      by_cases c30 : x117_24 = true
                      · subst c30
                        have H1 : (some false) = some r := by rw [if_pos rfl] at H; exact H
                        clear H
                        have H := H1
                        clear H1
                        obtain rfl := Option.some.inj H
                        go_wp2
                        go_ret
                        exact ⟨by first | rfl | (simp; done) | (simp [*]; done), by repeat (first | exact Drawn0.refl _ | apply Drawn0.step)⟩
                      · replace c30 := Bool.eq_false_iff.mpr c30
                        subst c30
                        have H1 : ((word_Up_uint64.f a0 0).bind fun bt185 => ((word_Up_uint64.f a0 1).bind fun bt187 => (if bt185.2 = true then (some false) else (if bt185.1 = 0 then (if bt187.2 = true then (some (bt187.1 == a0)) else (some false)) else (some false))))) = some r := by rw [if_neg (show ¬ (false = true) by decide)] at H; exact H
                        clear H
                        have H := H1
                        clear H1
                        replace H := Option.bind_eq_some_iff.mp H
                        obtain ⟨⟨t185, t186⟩, A310, H⟩ := H
                        replace H : ((word_Up_uint64.f a0 1).bind fun bt187 => (if t186 = true then (some false) else (if t185 = 0 then (if bt187.2 = true then (some (bt187.1 == a0)) else (some false)) else (some false)))) = some r := H
                        have A31 := Aside0.mk A310
                        clear A310
                        replace H := Option.bind_eq_some_iff.mp H
                        obtain ⟨⟨t187, t188⟩, A320, H⟩ := H
                        replace H : (if t186 = true then (some false) else (if t185 = 0 then (if t188 = true then (some (t187 == a0)) else (some false)) else (some false))) = some r := H
                        have A32 := Aside0.mk A320
                        clear A320
                        by_cases c33 : t186 = true
                        · subst c33
                          have H1 : (some false) = some r := by rw [if_pos rfl] at H; exact H
                          clear H
                          have H := H1
                          clear H1
                          obtain rfl := Option.some.inj H
                          go_wp2_with (first | ((with_reducible refine gate_callee (f := 72) rfl ?_); refine goesL_ (some 120) rfl rfl Try.func72 (by kernel_rfl) rfl #[.int .u64 a0, .int .u64 0] rfl (by (try simp only [List.map_toArray, List.map_cons, List.map_nil]); first | done | rfl | (simp only [List.length_drop, List.length_take]; rfl)) ?_; (with_reducible refine (word_Up_uint64.calls a0 0 t185 true _ A31.out).mono ?_); rintro e w' ⟨rfl, ⟨nd, rfl⟩⟩; refine ⟨_, rfl, ?_⟩) | ((with_reducible refine gate_callee (f := 72) rfl ?_); refine goesL_ (some 125) rfl rfl Try.func72 (by kernel_rfl) rfl #[.int .u64 a0, .int .u64 1] rfl (by (try simp only [List.map_toArray, List.map_cons, List.map_nil]); first | done | rfl | (simp only [List.length_drop, List.length_take]; rfl)) ?_; (with_reducible refine (word_Up_uint64.calls a0 1 t187 t188 _ A32.out).mono ?_); rintro e w' ⟨rfl, ⟨nd, rfl⟩⟩; refine ⟨_, rfl, ?_⟩))
                          go_ret
                          exact ⟨by first | rfl | (simp; done) | (simp [*]; done), by repeat (first | exact Drawn0.refl _ | apply Drawn0.step)⟩
                        · replace c33 := Bool.eq_false_iff.mpr c33
                          subst c33
                          have H1 : (if t185 = 0 then (if t188 = true then (some (t187 == a0)) else (some false)) else (some false)) = some r := by rw [if_neg (show ¬ (false = true) by decide)] at H; exact H
                          clear H
                          have H := H1
                          clear H1
                          by_cases c34 : t185 = 0
                          · rw [if_pos c34] at H
                            have c34b0 : (t185 == 0) = true := beq_iff_eq.mpr c34
                            have c34b1 : (t185 != 0) = false := bne_eq_false_iff_eq.mpr c34
                            clear c34
                            by_cases c35 : t188 = true
                            · subst c35
                              have H1 : (some (t187 == a0)) = some r := by rw [if_pos rfl] at H; exact H
                              clear H
                              have H := H1
                              clear H1
                              obtain rfl := Option.some.inj H
                              go_wp2_with (first | ((with_reducible refine gate_callee (f := 72) rfl ?_); refine goesL_ (some 120) rfl rfl Try.func72 (by kernel_rfl) rfl #[.int .u64 a0, .int .u64 0] rfl (by (try simp only [List.map_toArray, List.map_cons, List.map_nil]); first | done | rfl | (simp only [List.length_drop, List.length_take]; rfl)) ?_; (with_reducible refine (word_Up_uint64.calls a0 0 t185 false _ A31.out).mono ?_); rintro e w' ⟨rfl, ⟨nd, rfl⟩⟩; refine ⟨_, rfl, ?_⟩) | ((with_reducible refine gate_callee (f := 72) rfl ?_); refine goesL_ (some 125) rfl rfl Try.func72 (by kernel_rfl) rfl #[.int .u64 a0, .int .u64 1] rfl (by (try simp only [List.map_toArray, List.map_cons, List.map_nil]); first | done | rfl | (simp only [List.length_drop, List.length_take]; rfl)) ?_; (with_reducible refine (word_Up_uint64.calls a0 1 t187 true _ A32.out).mono ?_); rintro e w' ⟨rfl, ⟨nd, rfl⟩⟩; refine ⟨_, rfl, ?_⟩))
                              go_ret
                              exact ⟨by first | rfl | (simp; done) | (simp [*]; done), by repeat (first | exact Drawn0.refl _ | apply Drawn0.step)⟩
                            · replace c35 := Bool.eq_false_iff.mpr c35
                              subst c35
                              have H1 : (some false) = some r := by rw [if_neg (show ¬ (false = true) by decide)] at H; exact H
                              clear H
                              have H := H1
                              clear H1
                              obtain rfl := Option.some.inj H
                              go_wp2_with (first | ((with_reducible refine gate_callee (f := 72) rfl ?_); refine goesL_ (some 120) rfl rfl Try.func72 (by kernel_rfl) rfl #[.int .u64 a0, .int .u64 0] rfl (by (try simp only [List.map_toArray, List.map_cons, List.map_nil]); first | done | rfl | (simp only [List.length_drop, List.length_take]; rfl)) ?_; (with_reducible refine (word_Up_uint64.calls a0 0 t185 false _ A31.out).mono ?_); rintro e w' ⟨rfl, ⟨nd, rfl⟩⟩; refine ⟨_, rfl, ?_⟩) | ((with_reducible refine gate_callee (f := 72) rfl ?_); refine goesL_ (some 125) rfl rfl Try.func72 (by kernel_rfl) rfl #[.int .u64 a0, .int .u64 1] rfl (by (try simp only [List.map_toArray, List.map_cons, List.map_nil]); first | done | rfl | (simp only [List.length_drop, List.length_take]; rfl)) ?_; (with_reducible refine (word_Up_uint64.calls a0 1 t187 false _ A32.out).mono ?_); rintro e w' ⟨rfl, ⟨nd, rfl⟩⟩; refine ⟨_, rfl, ?_⟩))
                              go_ret
                              exact ⟨by first | rfl | (simp; done) | (simp [*]; done), by repeat (first | exact Drawn0.refl _ | apply Drawn0.step)⟩
                          · rw [if_neg c34] at H
                            have c34b0 : (t185 == 0) = false := beq_eq_false_iff_ne.mpr c34
                            have c34b1 : (t185 != 0) = true := bne_iff_ne.mpr c34
                            obtain rfl := Option.some.inj H
                            go_wp2_with (first | ((with_reducible refine gate_callee (f := 72) rfl ?_); refine goesL_ (some 120) rfl rfl Try.func72 (by kernel_rfl) rfl #[.int .u64 a0, .int .u64 0] rfl (by (try simp only [List.map_toArray, List.map_cons, List.map_nil]); first | done | rfl | (simp only [List.length_drop, List.length_take]; rfl)) ?_; (with_reducible refine (word_Up_uint64.calls a0 0 t185 false _ A31.out).mono ?_); rintro e w' ⟨rfl, ⟨nd, rfl⟩⟩; refine ⟨_, rfl, ?_⟩) | ((with_reducible refine gate_callee (f := 72) rfl ?_); refine goesL_ (some 125) rfl rfl Try.func72 (by kernel_rfl) rfl #[.int .u64 a0, .int .u64 1] rfl (by (try simp only [List.map_toArray, List.map_cons, List.map_nil]); first | done | rfl | (simp only [List.length_drop, List.length_take]; rfl)) ?_; (with_reducible refine (word_Up_uint64.calls a0 1 t187 t188 _ A32.out).mono ?_); rintro e w' ⟨rfl, ⟨nd, rfl⟩⟩; refine ⟨_, rfl, ?_⟩))
                            go_ret
                            exact ⟨by first | rfl | (simp; done) | (simp [*]; done), by repeat (first | exact Drawn0.refl _ | apply Drawn0.step)⟩

/-! ### bulkheadlaw1_Tiny_73: function 73 -/
def bulkheadlaw1_Tiny_73.f (a0 : Int) (a1 : Int) : Option (Int × Bool) := if ((a0 + a1) % 256) ≥ a0 then (some ((a0 + a1) % 256, true)) else (some (0, false))
set_option maxHeartbeats 8000000 in
set_option maxRecDepth 100000 in
theorem bulkheadlaw1_Tiny_73.calls (a0 : Int) (a1 : Int) (r1 : Int) (r2 : Bool) (w : World) (h : bulkheadlaw1_Tiny_73.f a0 a1 = some (r1, r2)) :
    Calls Try.prog 73 #[.int .u8 a0, .int .u8 a1] w fun e w' => e = .returned (.tuple #[.int .u8 r1, .bool r2]) ∧ Drawn0 w w' := by
  have H : (if ((a0 + a1) % 256) ≥ a0 then (some ((a0 + a1) % 256, true)) else (some (0, false))) = some (r1, r2) := h
  clear h
  by_cases c3 : ((a0 + a1) % 256) ≥ a0
  · rw [if_pos c3] at H
    have c3b0 : decide (a0 ≤ ((a0 + a1) % 256)) = true := decide_eq_true c3
    clear c3
    simp only [Option.some.injEq, Prod.mk.injEq] at H
    obtain ⟨rfl, rfl⟩ := H
    go_enter Try.func73, Try.ntmps73
    go_wp2
    go_ret2
    exact ⟨by first | rfl | (simp; done) | (simp [*]; done), by repeat (first | exact Drawn0.refl _ | apply Drawn0.step)⟩
  · rw [if_neg c3] at H
    have c3b0 : decide (a0 ≤ ((a0 + a1) % 256)) = false := decide_eq_false c3
    clear c3
    simp only [Option.some.injEq, Prod.mk.injEq] at H
    obtain ⟨rfl, rfl⟩ := H
    go_enter Try.func73, Try.ntmps73
    go_wp2
    go_ret2
    exact ⟨by first | rfl | (simp; done) | (simp [*]; done), by repeat (first | exact Drawn0.refl _ | apply Drawn0.step)⟩

/-! ### bulkheadlaw1_Tiny_74: function 74 -/
def bulkheadlaw1_Tiny_74.f (a0 : Int) (a1 : Int) : Option (Int × Bool) := if a1 > a0 then (some (0, false)) else (some ((a0 - a1) % 256, true))
set_option maxHeartbeats 8000000 in
set_option maxRecDepth 100000 in
theorem bulkheadlaw1_Tiny_74.calls (a0 : Int) (a1 : Int) (r1 : Int) (r2 : Bool) (w : World) (h : bulkheadlaw1_Tiny_74.f a0 a1 = some (r1, r2)) :
    Calls Try.prog 74 #[.int .u8 a0, .int .u8 a1] w fun e w' => e = .returned (.tuple #[.int .u8 r1, .bool r2]) ∧ Drawn0 w w' := by
  have H : (if a1 > a0 then (some (0, false)) else (some ((a0 - a1) % 256, true))) = some (r1, r2) := h
  clear h
  by_cases c3 : a1 > a0
  · rw [if_pos c3] at H
    have c3b0 : decide (a0 < a1) = true := decide_eq_true c3
    clear c3
    simp only [Option.some.injEq, Prod.mk.injEq] at H
    obtain ⟨rfl, rfl⟩ := H
    go_enter Try.func74, Try.ntmps74
    go_wp2
    go_ret2
    exact ⟨by first | rfl | (simp; done) | (simp [*]; done), by repeat (first | exact Drawn0.refl _ | apply Drawn0.step)⟩
  · rw [if_neg c3] at H
    have c3b0 : decide (a0 < a1) = false := decide_eq_false c3
    clear c3
    simp only [Option.some.injEq, Prod.mk.injEq] at H
    obtain ⟨rfl, rfl⟩ := H
    go_enter Try.func74, Try.ntmps74
    go_wp2
    go_ret2
    exact ⟨by first | rfl | (simp; done) | (simp [*]; done), by repeat (first | exact Drawn0.refl _ | apply Drawn0.step)⟩

/-! ### bulkheadlaw1_Tiny_uint64: function 106 -/
def bulkheadlaw1_Tiny_uint64.f (a0 : Int) : Option (Int × Bool) := if ((a0) % 256) = a0 then (some ((a0) % 256, true)) else (some (0, false))
set_option maxHeartbeats 8000000 in
set_option maxRecDepth 100000 in
theorem bulkheadlaw1_Tiny_uint64.calls (a0 : Int) (r1 : Int) (r2 : Bool) (w : World) (h : bulkheadlaw1_Tiny_uint64.f a0 = some (r1, r2)) :
    Calls Try.prog 106 #[.int .u64 a0] w fun e w' => e = .returned (.tuple #[.int .u8 r1, .bool r2]) ∧ Drawn0 w w' := by
  have H : (if ((a0) % 256) = a0 then (some ((a0) % 256, true)) else (some (0, false))) = some (r1, r2) := h
  clear h
  by_cases c2 : ((a0) % 256) = a0
  · rw [if_pos c2] at H
    have c2b0 : (((a0) % 256) == a0) = true := beq_iff_eq.mpr c2
    have c2b1 : (((a0) % 256) != a0) = false := bne_eq_false_iff_eq.mpr c2
    clear c2
    simp only [Option.some.injEq, Prod.mk.injEq] at H
    obtain ⟨rfl, rfl⟩ := H
    go_enter Try.func106, Try.ntmps106
    go_wp2
    go_ret2
    exact ⟨by first | rfl | (simp; done) | (simp [*]; done), by repeat (first | exact Drawn0.refl _ | apply Drawn0.step)⟩
  · rw [if_neg c2] at H
    have c2b0 : (((a0) % 256) == a0) = false := beq_eq_false_iff_ne.mpr c2
    have c2b1 : (((a0) % 256) != a0) = true := bne_iff_ne.mpr c2
    simp only [Option.some.injEq, Prod.mk.injEq] at H
    obtain ⟨rfl, rfl⟩ := H
    go_enter Try.func106, Try.ntmps106
    go_wp2
    go_ret2
    exact ⟨by first | rfl | (simp; done) | (simp [*]; done), by repeat (first | exact Drawn0.refl _ | apply Drawn0.step)⟩

/-! ### bulkheadlaw1_Tiny_75: function 75 -/
def bulkheadlaw1_Tiny_75.f (a0 : Int) (a1 : Int) : Option (Int × Bool) := (bits_Mul64.f (IntKind.u64.wrap (a0)) (IntKind.u64.wrap (a1))).bind fun bt189 => (if bt189.1 = 0 then ((bulkheadlaw1_Tiny_uint64.f bt189.2).bind fun bt191 => (some (bt191.1, bt191.2))) else (some (0, false)))
set_option maxHeartbeats 8000000 in
set_option maxRecDepth 100000 in
theorem bulkheadlaw1_Tiny_75.calls (a0 : Int) (a1 : Int) (r1 : Int) (r2 : Bool) (w : World) (h : bulkheadlaw1_Tiny_75.f a0 a1 = some (r1, r2)) :
    Calls Try.prog 75 #[.int .u8 a0, .int .u8 a1] w fun e w' => e = .returned (.tuple #[.int .u8 r1, .bool r2]) ∧ Drawn0 w w' := by
  have H : ((bits_Mul64.f (IntKind.u64.wrap (a0)) (IntKind.u64.wrap (a1))).bind fun bt189 => (if bt189.1 = 0 then ((bulkheadlaw1_Tiny_uint64.f bt189.2).bind fun bt191 => (some (bt191.1, bt191.2))) else (some (0, false)))) = some (r1, r2) := h
  clear h
  replace H := Option.bind_eq_some_iff.mp H
  obtain ⟨⟨t189, t190⟩, A30, H⟩ := H
  replace H : (if t189 = 0 then ((bulkheadlaw1_Tiny_uint64.f t190).bind fun bt191 => (some (bt191.1, bt191.2))) else (some (0, false))) = some (r1, r2) := H
  have A3 := Aside0.mk A30
  clear A30
  by_cases c4 : t189 = 0
  · rw [if_pos c4] at H
    have c4b0 : (t189 == 0) = true := beq_iff_eq.mpr c4
    have c4b1 : (t189 != 0) = false := bne_eq_false_iff_eq.mpr c4
    clear c4
    replace H := Option.bind_eq_some_iff.mp H
    obtain ⟨⟨t191, t192⟩, A50, H⟩ := H
    replace H : (some (t191, t192)) = some (r1, r2) := H
    have A5 := Aside0.mk A50
    clear A50
    simp only [Option.some.injEq, Prod.mk.injEq] at H
    obtain ⟨rfl, rfl⟩ := H
    go_enter Try.func75, Try.ntmps75
    go_wp2_with (first | ((with_reducible refine gate_callee (f := 90) rfl ?_); refine goesL_ (some 13) rfl rfl Try.func90 (by kernel_rfl) rfl #[.int .u64 (IntKind.u64.wrap (a0)), .int .u64 (IntKind.u64.wrap (a1))] rfl (by (try simp only [List.map_toArray, List.map_cons, List.map_nil]); first | done | rfl | (simp only [List.length_drop, List.length_take]; rfl)) ?_; (with_reducible refine (bits_Mul64.calls (IntKind.u64.wrap (a0)) (IntKind.u64.wrap (a1)) t189 t190 _ A3.out).mono ?_); rintro e w' ⟨rfl, ⟨nd, rfl⟩⟩; refine ⟨_, rfl, ?_⟩) | ((with_reducible refine gate_callee (f := 106) rfl ?_); refine goesL_ (some 19) rfl rfl Try.func106 (by kernel_rfl) rfl #[.int .u64 t190] rfl (by (try simp only [List.map_toArray, List.map_cons, List.map_nil]); first | done | rfl | (simp only [List.length_drop, List.length_take]; rfl)) ?_; (with_reducible refine (bulkheadlaw1_Tiny_uint64.calls t190 t191 t192 _ A5.out).mono ?_); rintro e w' ⟨rfl, ⟨nd, rfl⟩⟩; refine ⟨_, rfl, ?_⟩))
    go_ret2
    exact ⟨by first | rfl | (simp; done) | (simp [*]; done), by repeat (first | exact Drawn0.refl _ | apply Drawn0.step)⟩
  · rw [if_neg c4] at H
    have c4b0 : (t189 == 0) = false := beq_eq_false_iff_ne.mpr c4
    have c4b1 : (t189 != 0) = true := bne_iff_ne.mpr c4
    simp only [Option.some.injEq, Prod.mk.injEq] at H
    obtain ⟨rfl, rfl⟩ := H
    go_enter Try.func75, Try.ntmps75
    go_wp2_with (first | ((with_reducible refine gate_callee (f := 90) rfl ?_); refine goesL_ (some 13) rfl rfl Try.func90 (by kernel_rfl) rfl #[.int .u64 (IntKind.u64.wrap (a0)), .int .u64 (IntKind.u64.wrap (a1))] rfl (by (try simp only [List.map_toArray, List.map_cons, List.map_nil]); first | done | rfl | (simp only [List.length_drop, List.length_take]; rfl)) ?_; (with_reducible refine (bits_Mul64.calls (IntKind.u64.wrap (a0)) (IntKind.u64.wrap (a1)) t189 t190 _ A3.out).mono ?_); rintro e w' ⟨rfl, ⟨nd, rfl⟩⟩; refine ⟨_, rfl, ?_⟩))
    go_ret2
    exact ⟨by first | rfl | (simp; done) | (simp [*]; done), by repeat (first | exact Drawn0.refl _ | apply Drawn0.step)⟩

/-! ### bulkheadlaw1_Tiny_76: function 76 -/
def bulkheadlaw1_Tiny_76.f (a0 : Int) (a1 : Int) : Option (Int × Bool) := if a1 = 0 then (some (0, false)) else (if (Int.tmod a0 a1) = 0 then (some (a0, true)) else ((bulkheadlaw1_Tiny_73.f ((a0 - (Int.tmod a0 a1)) % 256) a1).bind fun bt193 => (some (bt193.1, bt193.2))))
set_option maxHeartbeats 8000000 in
set_option maxRecDepth 100000 in
theorem bulkheadlaw1_Tiny_76.calls (a0 : Int) (a1 : Int) (r1 : Int) (r2 : Bool) (w : World) (h : bulkheadlaw1_Tiny_76.f a0 a1 = some (r1, r2)) :
    Calls Try.prog 76 #[.int .u8 a0, .int .u8 a1] w fun e w' => e = .returned (.tuple #[.int .u8 r1, .bool r2]) ∧ Drawn0 w w' := by
  have H : (if a1 = 0 then (some (0, false)) else (if (Int.tmod a0 a1) = 0 then (some (a0, true)) else ((bulkheadlaw1_Tiny_73.f ((a0 - (Int.tmod a0 a1)) % 256) a1).bind fun bt193 => (some (bt193.1, bt193.2))))) = some (r1, r2) := h
  clear h
  by_cases c3 : a1 = 0
  · rw [if_pos c3] at H
    have c3b0 : (a1 == 0) = true := beq_iff_eq.mpr c3
    have c3b1 : (a1 != 0) = false := bne_eq_false_iff_eq.mpr c3
    clear c3
    simp only [Option.some.injEq, Prod.mk.injEq] at H
    obtain ⟨rfl, rfl⟩ := H
    go_enter Try.func76, Try.ntmps76
    go_wp2
    go_ret2
    exact ⟨by first | rfl | (simp; done) | (simp [*]; done), by repeat (first | exact Drawn0.refl _ | apply Drawn0.step)⟩
  · rw [if_neg c3] at H
    have c3b0 : (a1 == 0) = false := beq_eq_false_iff_ne.mpr c3
    have c3b1 : (a1 != 0) = true := bne_iff_ne.mpr c3
    by_cases c4 : (Int.tmod a0 a1) = 0
    · rw [if_pos c4] at H
      have c4b0 : ((Int.tmod a0 a1) == 0) = true := beq_iff_eq.mpr c4
      have c4b1 : ((Int.tmod a0 a1) != 0) = false := bne_eq_false_iff_eq.mpr c4
      clear c4
      simp only [Option.some.injEq, Prod.mk.injEq] at H
      obtain ⟨rfl, rfl⟩ := H
      go_enter Try.func76, Try.ntmps76
      go_wp2
      go_ret2
      exact ⟨by first | rfl | (simp; done) | (simp [*]; done), by repeat (first | exact Drawn0.refl _ | apply Drawn0.step)⟩
    · rw [if_neg c4] at H
      have c4b0 : ((Int.tmod a0 a1) == 0) = false := beq_eq_false_iff_ne.mpr c4
      have c4b1 : ((Int.tmod a0 a1) != 0) = true := bne_iff_ne.mpr c4
      replace H := Option.bind_eq_some_iff.mp H
      obtain ⟨⟨t193, t194⟩, A50, H⟩ := H
      replace H : (some (t193, t194)) = some (r1, r2) := H
      have A5 := Aside0.mk A50
      clear A50
      simp only [Option.some.injEq, Prod.mk.injEq] at H
      obtain ⟨rfl, rfl⟩ := H
      go_enter Try.func76, Try.ntmps76
      go_wp2_with (first | ((with_reducible refine gate_callee (f := 73) rfl ?_); refine goesL_ (some 19) rfl rfl Try.func73 (by kernel_rfl) rfl #[.int .u8 ((a0 - (Int.tmod a0 a1)) % 256), .int .u8 a1] rfl (by (try simp only [List.map_toArray, List.map_cons, List.map_nil]); first | done | rfl | (simp only [List.length_drop, List.length_take]; rfl)) ?_; (with_reducible refine (bulkheadlaw1_Tiny_73.calls ((a0 - (Int.tmod a0 a1)) % 256) a1 t193 t194 _ A5.out).mono ?_); rintro e w' ⟨rfl, ⟨nd, rfl⟩⟩; refine ⟨_, rfl, ?_⟩))
      go_ret2
      exact ⟨by first | rfl | (simp; done) | (simp [*]; done), by repeat (first | exact Drawn0.refl _ | apply Drawn0.step)⟩

end Go.Proofs.Ythdjddpomaendaa.PWordKin
