/- The walks of WordKin's functions, turned from what the print wrote (own text; one arm of To at uint64 closed by hand). -/
import Derived.Test.YthdjddpomaendaaPWordKinx0
import Derived.Test.YthdjddpomaendaaPWordKinx1
import Derived.Test.YthdjddpomaendaaPWordKinx2
import Derived.Test.YthdjddpomaendaaKx3
import Derived.Test.YthdjddpomaendaaKx4
import Derived.Test.YthdjddpomaendaaKx5
import Derived.Test.YthdjddpomaendaaKx6
namespace Go.Proofs.Ythdjddpomaendaa.PWordKin
open Go.RowKit Go.Proofs.YthdjddpomaendaaW.PrintWords Go.Proofs.YthdjddpomaendaaW.PrintLast Go.Proofs.YthdjddpomaendaaW.PrintMore
attribute [local go_sem] max2_int min2_int max_two min_two max_three min_three max_four min_four   -- for this text's walks alone
set_option linter.unusedVariables false
set_option linter.unusedSimpArgs false

/-! ### bulkheadlaw1_WordKin: function 4 -/
def bulkheadlaw1_WordKin.j0 : Nat → Int → Int → Bool → Option (Bool)
  | 0, _, _, _ => none
  | k + 1, x0, x1, x29 => if x29 = true then (some false) else ((bulkheadlaw1_kin_uint8.f k ((x0) % 256) ((x1) % 256)).bind fun t237 => (if t237 = true then ((bulkheadlaw1_kin_uint16.f k (IntKind.u16.wrap (x0)) (IntKind.u16.wrap (x1))).bind fun t238 => (if t238 = true then ((bulkheadlaw1_kin_uint32.f k ((x0) % 4294967296) ((x1) % 4294967296)).bind fun t239 => (if t239 = true then ((bulkheadlaw1_kin_uint64.f k x0 x1).bind fun t240 => (if t240 = true then ((bulkheadlaw1_Tiny_24.f k ((x0) % 256) ((x1) % 256)).bind fun t241 => (if t241 = true then ((bulkheadlaw1_Great_25.f k x0 x1).bind fun t242 => (some t242)) else (some false))) else (some false))) else (some false))) else (some false))) else (some false)))
def bulkheadlaw1_WordKin.f (k : Nat) (a0 : Int) (a1 : Int) : Option (Bool) := (word_Add_uint8.f 200 55).bind fun bt233 => ((word_Add_uint8.f 200 56).bind fun bt235 => (if bt233.2 = true then (if bt233.1 = 255 then (if bt235.2 = true then (bulkheadlaw1_WordKin.j0 k a0 a1 true) else (bulkheadlaw1_WordKin.j0 k a0 a1 (bt235.1 != 0))) else (bulkheadlaw1_WordKin.j0 k a0 a1 true)) else (bulkheadlaw1_WordKin.j0 k a0 a1 true)))
theorem bulkheadlaw1_WordKin.mono_l : ∀ k, (∀ y0 y1 y2, LeO (bulkheadlaw1_WordKin.j0 k y0 y1 y2) (bulkheadlaw1_WordKin.j0 (k + 1) y0 y1 y2))
  | 0 => fun _ _ _ r h => by simp [bulkheadlaw1_WordKin.j0] at h
  | k + 1 => by
    have ih0 := bulkheadlaw1_WordKin.mono_l k
    · intro y0 y1 y2
      unfold bulkheadlaw1_WordKin.j0
      repeat' first
      | (with_reducible exact ih0 _ _ _)
      | (with_reducible exact bulkheadlaw1_Great_25.mono _ _ _)
      | (with_reducible exact bulkheadlaw1_Tiny_24.mono _ _ _)
      | (with_reducible exact bulkheadlaw1_kin_uint16.mono _ _ _)
      | (with_reducible exact bulkheadlaw1_kin_uint32.mono _ _ _)
      | (with_reducible exact bulkheadlaw1_kin_uint64.mono _ _ _)
      | (with_reducible exact bulkheadlaw1_kin_uint8.mono _ _ _)
      | (with_reducible exact LeO.refl _)
      | (with_reducible exact LeO.none _)
      | (with_reducible refine LeO.ite ?_ ?_)
      | (with_reducible refine LeO.bind ?_ (fun _ => ?_))
      | exact ih0 _ _ _
      | exact bulkheadlaw1_Great_25.mono _ _ _
      | exact bulkheadlaw1_Tiny_24.mono _ _ _
      | exact bulkheadlaw1_kin_uint16.mono _ _ _
      | exact bulkheadlaw1_kin_uint32.mono _ _ _
      | exact bulkheadlaw1_kin_uint64.mono _ _ _
      | exact bulkheadlaw1_kin_uint8.mono _ _ _
      | exact LeO.none _
      | refine LeO.ite ?_ ?_
      | refine LeO.bind ?_ (fun _ => ?_)
theorem bulkheadlaw1_WordKin.mono : ∀ a0 a1 k, LeO (bulkheadlaw1_WordKin.f k a0 a1) (bulkheadlaw1_WordKin.f (k + 1) a0 a1) := by
  intro a0 a1 k
  have ih0 := bulkheadlaw1_WordKin.mono_l k
  unfold bulkheadlaw1_WordKin.f
  repeat' first
      | (with_reducible exact ih0 _ _ _)
      | (with_reducible exact bulkheadlaw1_Great_25.mono _ _ _)
      | (with_reducible exact bulkheadlaw1_Tiny_24.mono _ _ _)
      | (with_reducible exact bulkheadlaw1_kin_uint16.mono _ _ _)
      | (with_reducible exact bulkheadlaw1_kin_uint32.mono _ _ _)
      | (with_reducible exact bulkheadlaw1_kin_uint64.mono _ _ _)
      | (with_reducible exact bulkheadlaw1_kin_uint8.mono _ _ _)
      | (with_reducible exact LeO.refl _)
      | (with_reducible exact LeO.none _)
      | (with_reducible refine LeO.ite ?_ ?_)
      | (with_reducible refine LeO.bind ?_ (fun _ => ?_))
      | exact ih0 _ _ _
      | exact bulkheadlaw1_Great_25.mono _ _ _
      | exact bulkheadlaw1_Tiny_24.mono _ _ _
      | exact bulkheadlaw1_kin_uint16.mono _ _ _
      | exact bulkheadlaw1_kin_uint32.mono _ _ _
      | exact bulkheadlaw1_kin_uint64.mono _ _ _
      | exact bulkheadlaw1_kin_uint8.mono _ _ _
      | exact LeO.none _
      | refine LeO.ite ?_ ?_
      | refine LeO.bind ?_ (fun _ => ?_)
set_option maxHeartbeats 8000000 in
set_option maxRecDepth 100000 in
theorem bulkheadlaw1_WordKin.calls (k : Nat) (a0 : Int) (a1 : Int) (r : Bool) (w : World) (h : bulkheadlaw1_WordKin.f k a0 a1 = some r) :
    Calls Try.prog 4 #[.int .u64 a0, .int .u64 a1] w fun e w' => e = .returned (.bool r) ∧ Drawn0 w w' := by
  have H : ((word_Add_uint8.f 200 55).bind fun bt233 => ((word_Add_uint8.f 200 56).bind fun bt235 => (if bt233.2 = true then (if bt233.1 = 255 then (if bt235.2 = true then (bulkheadlaw1_WordKin.j0 k a0 a1 true) else (bulkheadlaw1_WordKin.j0 k a0 a1 (bt235.1 != 0))) else (bulkheadlaw1_WordKin.j0 k a0 a1 true)) else (bulkheadlaw1_WordKin.j0 k a0 a1 true)))) = some r := h
  clear h
  replace H := Option.bind_eq_some_iff.mp H
  obtain ⟨⟨t233, t234⟩, A30, H⟩ := H
  replace H : ((word_Add_uint8.f 200 56).bind fun bt235 => (if t234 = true then (if t233 = 255 then (if bt235.2 = true then (bulkheadlaw1_WordKin.j0 k a0 a1 true) else (bulkheadlaw1_WordKin.j0 k a0 a1 (bt235.1 != 0))) else (bulkheadlaw1_WordKin.j0 k a0 a1 true)) else (bulkheadlaw1_WordKin.j0 k a0 a1 true))) = some r := H
  have A3 := Aside0.mk A30
  clear A30
  replace H := Option.bind_eq_some_iff.mp H
  obtain ⟨⟨t235, t236⟩, A40, H⟩ := H
  replace H : (if t234 = true then (if t233 = 255 then (if t236 = true then (bulkheadlaw1_WordKin.j0 k a0 a1 true) else (bulkheadlaw1_WordKin.j0 k a0 a1 (t235 != 0))) else (bulkheadlaw1_WordKin.j0 k a0 a1 true)) else (bulkheadlaw1_WordKin.j0 k a0 a1 true)) = some r := H
  have A4 := Aside0.mk A40
  clear A40
  have HC5 := Aside0.mk H
  clear H
  go_enter Try.func4, Try.ntmps4
  go_upto_region 3 with (first | ((with_reducible refine gate_callee (f := 19) rfl ?_); refine goesL_ (some 10) rfl rfl Try.func19 (by kernel_rfl) rfl #[.int .u8 200, .int .u8 55] rfl (by (try simp only [List.map_toArray, List.map_cons, List.map_nil]); first | done | rfl | (simp only [List.length_drop, List.length_take]; rfl)) ?_; (with_reducible refine (word_Add_uint8.calls 200 55 t233 t234 _ A3.out).mono ?_); rintro e w' ⟨rfl, ⟨nd, rfl⟩⟩; refine ⟨_, rfl, ?_⟩) | ((with_reducible refine gate_callee (f := 19) rfl ?_); refine goesL_ (some 14) rfl rfl Try.func19 (by kernel_rfl) rfl #[.int .u8 200, .int .u8 56] rfl (by (try simp only [List.map_toArray, List.map_cons, List.map_nil]); first | done | rfl | (simp only [List.length_drop, List.length_take]; rfl)) ?_; (with_reducible refine (word_Add_uint8.calls 200 56 t235 t236 _ A4.out).mono ?_); rintro e w' ⟨rfl, ⟨nd, rfl⟩⟩; refine ⟨_, rfl, ?_⟩))
  (try simp only [Act.put, List.setIfInBounds_toArray, List.set_cons_zero, List.set_cons_succ])
  go_cut [29] (fun v29 wc => ∃ (kq : Nat) (x29_4 : Bool), v29 = .bool x29_4 ∧ Aside0 (bulkheadlaw1_WordKin.j0 kq a0 a1 x29_4 = some r) ∧ Aside0 (kq ≤ k) ∧ Drawn0 w wc)
  case first =>
    have H := HC5.out
    clear HC5
    by_cases c6 : t234 = true
    · subst c6
      have H1 : (if t233 = 255 then (if t236 = true then (bulkheadlaw1_WordKin.j0 k a0 a1 true) else (bulkheadlaw1_WordKin.j0 k a0 a1 (t235 != 0))) else (bulkheadlaw1_WordKin.j0 k a0 a1 true)) = some r := by rw [if_pos rfl] at H; exact H
      clear H
      have H := H1
      clear H1
      by_cases c7 : t233 = 255
      · rw [if_pos c7] at H
        have c7b0 : (t233 == 255) = true := beq_iff_eq.mpr c7
        have c7b1 : (t233 != 255) = false := bne_eq_false_iff_eq.mpr c7
        clear c7
        (first | rw [c7b0] | (simp only [i64_w, i32_w]; rw [c7b0]) | skip)
        by_cases c8 : t236 = true
        · subst c8
          have H1 : (bulkheadlaw1_WordKin.j0 k a0 a1 true) = some r := by rw [if_pos rfl] at H; exact H
          clear H
          have H := H1
          clear H1
          have H' := Aside0.mk H
          clear H
          go_wp2
          go_meet
          case rel => exact ⟨_, (true), (by first | rfl | (simp; done) | (simp [*]; done)), H', ⟨by first | omega | exact Nat.le_refl _⟩, by repeat (first | exact Drawn0.refl _ | apply Drawn0.step)⟩
        · replace c8 := Bool.eq_false_iff.mpr c8
          subst c8
          have H1 : (bulkheadlaw1_WordKin.j0 k a0 a1 (t235 != 0)) = some r := by rw [if_neg (show ¬ (false = true) by decide)] at H; exact H
          clear H
          have H := H1
          clear H1
          have H' := Aside0.mk H
          clear H
          go_wp2
          go_meet
          case rel => exact ⟨_, ((t235 != 0)), (by first | rfl | (simp; done) | (simp [*]; done)), H', ⟨by first | omega | exact Nat.le_refl _⟩, by repeat (first | exact Drawn0.refl _ | apply Drawn0.step)⟩
      · rw [if_neg c7] at H
        have c7b0 : (t233 == 255) = false := beq_eq_false_iff_ne.mpr c7
        have c7b1 : (t233 != 255) = true := bne_iff_ne.mpr c7
        (first | rw [c7b0] | (simp only [i64_w, i32_w]; rw [c7b0]) | skip)
        have H' := Aside0.mk H
        clear H
        go_wp2
        go_meet
        case rel => exact ⟨_, (true), (by first | rfl | (simp; done) | (simp [*]; done)), H', ⟨by first | omega | exact Nat.le_refl _⟩, by repeat (first | exact Drawn0.refl _ | apply Drawn0.step)⟩
    · replace c6 := Bool.eq_false_iff.mpr c6
      subst c6
      have H1 : (bulkheadlaw1_WordKin.j0 k a0 a1 true) = some r := by rw [if_neg (show ¬ (false = true) by decide)] at H; exact H
      clear H
      have H := H1
      clear H1
      have H' := Aside0.mk H
      clear H
      go_wp2
      go_meet
      case rel => exact ⟨_, (true), (by first | rfl | (simp; done) | (simp [*]; done)), H', ⟨by first | omega | exact Nat.le_refl _⟩, by repeat (first | exact Drawn0.refl _ | apply Drawn0.step)⟩
  case rest =>
    clear HC5
    try clear c1
    try clear p2
    try clear c4
    try clear c6
    try clear c7
    try clear c7b0
    try clear c7b1
    try clear c8
    obtain ⟨kq, x29_4, rfl, HA, HJ4, ⟨mc4, rfl⟩⟩ := hcut
    cases kq with
    | zero => exact absurd HA.out (by simp [bulkheadlaw1_WordKin.j0])
    | succ kj4 =>
      have H := HA.out
      clear HA
      simp only [bulkheadlaw1_WordKin.j0] at H
      by_cases c9 : x29_4 = true
      · subst c9
        have H1 : (some false) = some r := by rw [if_pos rfl] at H; exact H
        clear H
        have H := H1
        clear H1
        obtain rfl := Option.some.inj H
        go_wp2
        go_ret
        exact ⟨by first | rfl | (simp; done) | (simp [*]; done), by repeat (first | exact Drawn0.refl _ | apply Drawn0.step)⟩
      · replace c9 := Bool.eq_false_iff.mpr c9
        subst c9
        have H1 : ((bulkheadlaw1_kin_uint8.f kj4 ((a0) % 256) ((a1) % 256)).bind fun t237 => (if t237 = true then ((bulkheadlaw1_kin_uint16.f kj4 (IntKind.u16.wrap (a0)) (IntKind.u16.wrap (a1))).bind fun t238 => (if t238 = true then ((bulkheadlaw1_kin_uint32.f kj4 ((a0) % 4294967296) ((a1) % 4294967296)).bind fun t239 => (if t239 = true then ((bulkheadlaw1_kin_uint64.f kj4 a0 a1).bind fun t240 => (if t240 = true then ((bulkheadlaw1_Tiny_24.f kj4 ((a0) % 256) ((a1) % 256)).bind fun t241 => (if t241 = true then ((bulkheadlaw1_Great_25.f kj4 a0 a1).bind fun t242 => (some t242)) else (some false))) else (some false))) else (some false))) else (some false))) else (some false))) = some r := by rw [if_neg (show ¬ (false = true) by decide)] at H; exact H
        clear H
        have H := H1
        clear H1
        replace H := Option.bind_eq_some_iff.mp H
        obtain ⟨t237, A100, H⟩ := H
        replace H : (if t237 = true then ((bulkheadlaw1_kin_uint16.f kj4 (IntKind.u16.wrap (a0)) (IntKind.u16.wrap (a1))).bind fun t238 => (if t238 = true then ((bulkheadlaw1_kin_uint32.f kj4 ((a0) % 4294967296) ((a1) % 4294967296)).bind fun t239 => (if t239 = true then ((bulkheadlaw1_kin_uint64.f kj4 a0 a1).bind fun t240 => (if t240 = true then ((bulkheadlaw1_Tiny_24.f kj4 ((a0) % 256) ((a1) % 256)).bind fun t241 => (if t241 = true then ((bulkheadlaw1_Great_25.f kj4 a0 a1).bind fun t242 => (some t242)) else (some false))) else (some false))) else (some false))) else (some false))) else (some false)) = some r := H
        have A10 := Aside0.mk A100
        clear A100
        by_cases c11 : t237 = true
        · subst c11
          have H1 : ((bulkheadlaw1_kin_uint16.f kj4 (IntKind.u16.wrap (a0)) (IntKind.u16.wrap (a1))).bind fun t238 => (if t238 = true then ((bulkheadlaw1_kin_uint32.f kj4 ((a0) % 4294967296) ((a1) % 4294967296)).bind fun t239 => (if t239 = true then ((bulkheadlaw1_kin_uint64.f kj4 a0 a1).bind fun t240 => (if t240 = true then ((bulkheadlaw1_Tiny_24.f kj4 ((a0) % 256) ((a1) % 256)).bind fun t241 => (if t241 = true then ((bulkheadlaw1_Great_25.f kj4 a0 a1).bind fun t242 => (some t242)) else (some false))) else (some false))) else (some false))) else (some false))) = some r := by rw [if_pos rfl] at H; exact H
          clear H
          have H := H1
          clear H1
          replace H := Option.bind_eq_some_iff.mp H
          obtain ⟨t238, A120, H⟩ := H
          replace H : (if t238 = true then ((bulkheadlaw1_kin_uint32.f kj4 ((a0) % 4294967296) ((a1) % 4294967296)).bind fun t239 => (if t239 = true then ((bulkheadlaw1_kin_uint64.f kj4 a0 a1).bind fun t240 => (if t240 = true then ((bulkheadlaw1_Tiny_24.f kj4 ((a0) % 256) ((a1) % 256)).bind fun t241 => (if t241 = true then ((bulkheadlaw1_Great_25.f kj4 a0 a1).bind fun t242 => (some t242)) else (some false))) else (some false))) else (some false))) else (some false)) = some r := H
          have A12 := Aside0.mk A120
          clear A120
          by_cases c13 : t238 = true
          · subst c13
            have H1 : ((bulkheadlaw1_kin_uint32.f kj4 ((a0) % 4294967296) ((a1) % 4294967296)).bind fun t239 => (if t239 = true then ((bulkheadlaw1_kin_uint64.f kj4 a0 a1).bind fun t240 => (if t240 = true then ((bulkheadlaw1_Tiny_24.f kj4 ((a0) % 256) ((a1) % 256)).bind fun t241 => (if t241 = true then ((bulkheadlaw1_Great_25.f kj4 a0 a1).bind fun t242 => (some t242)) else (some false))) else (some false))) else (some false))) = some r := by rw [if_pos rfl] at H; exact H
            clear H
            have H := H1
            clear H1
            replace H := Option.bind_eq_some_iff.mp H
            obtain ⟨t239, A140, H⟩ := H
            replace H : (if t239 = true then ((bulkheadlaw1_kin_uint64.f kj4 a0 a1).bind fun t240 => (if t240 = true then ((bulkheadlaw1_Tiny_24.f kj4 ((a0) % 256) ((a1) % 256)).bind fun t241 => (if t241 = true then ((bulkheadlaw1_Great_25.f kj4 a0 a1).bind fun t242 => (some t242)) else (some false))) else (some false))) else (some false)) = some r := H
            have A14 := Aside0.mk A140
            clear A140
            by_cases c15 : t239 = true
            · subst c15
              have H1 : ((bulkheadlaw1_kin_uint64.f kj4 a0 a1).bind fun t240 => (if t240 = true then ((bulkheadlaw1_Tiny_24.f kj4 ((a0) % 256) ((a1) % 256)).bind fun t241 => (if t241 = true then ((bulkheadlaw1_Great_25.f kj4 a0 a1).bind fun t242 => (some t242)) else (some false))) else (some false))) = some r := by rw [if_pos rfl] at H; exact H
              clear H
              have H := H1
              clear H1
              replace H := Option.bind_eq_some_iff.mp H
              obtain ⟨t240, A160, H⟩ := H
              replace H : (if t240 = true then ((bulkheadlaw1_Tiny_24.f kj4 ((a0) % 256) ((a1) % 256)).bind fun t241 => (if t241 = true then ((bulkheadlaw1_Great_25.f kj4 a0 a1).bind fun t242 => (some t242)) else (some false))) else (some false)) = some r := H
              have A16 := Aside0.mk A160
              clear A160
              by_cases c17 : t240 = true
              · subst c17
                have H1 : ((bulkheadlaw1_Tiny_24.f kj4 ((a0) % 256) ((a1) % 256)).bind fun t241 => (if t241 = true then ((bulkheadlaw1_Great_25.f kj4 a0 a1).bind fun t242 => (some t242)) else (some false))) = some r := by rw [if_pos rfl] at H; exact H
                clear H
                have H := H1
                clear H1
                replace H := Option.bind_eq_some_iff.mp H
                obtain ⟨t241, A180, H⟩ := H
                replace H : (if t241 = true then ((bulkheadlaw1_Great_25.f kj4 a0 a1).bind fun t242 => (some t242)) else (some false)) = some r := H
                have A18 := Aside0.mk A180
                clear A180
                by_cases c19 : t241 = true
                · subst c19
                  have H1 : ((bulkheadlaw1_Great_25.f kj4 a0 a1).bind fun t242 => (some t242)) = some r := by rw [if_pos rfl] at H; exact H
                  clear H
                  have H := H1
                  clear H1
                  replace H := Option.bind_eq_some_iff.mp H
                  obtain ⟨t242, A200, H⟩ := H
                  replace H : (some t242) = some r := H
                  have A20 := Aside0.mk A200
                  clear A200
                  obtain rfl := Option.some.inj H
                  go_wp2_with (first | ((with_reducible refine gate_callee (f := 20) rfl ?_); refine goesL_ (some 34) rfl rfl Try.func20 (by kernel_rfl) rfl #[.int .u8 ((a0) % 256), .int .u8 ((a1) % 256)] rfl (by (try simp only [List.map_toArray, List.map_cons, List.map_nil]); first | done | rfl | (simp only [List.length_drop, List.length_take]; rfl)) ?_; (with_reducible refine (bulkheadlaw1_kin_uint8.calls kj4 ((a0) % 256) ((a1) % 256) true _ A10.out).mono ?_); rintro e w' ⟨rfl, ⟨nd, rfl⟩⟩; refine ⟨_, rfl, ?_⟩) | (go_at_call 21; (with_reducible refine (bulkheadlaw1_kin_uint16.calls kj4 (IntKind.u16.wrap (a0)) (IntKind.u16.wrap (a1)) true _ A12.out).mono ?_); rintro e w' ⟨rfl, ⟨nd, rfl⟩⟩) | (go_at_call 22; (with_reducible refine (bulkheadlaw1_kin_uint32.calls kj4 ((a0) % 4294967296) ((a1) % 4294967296) true _ A14.out).mono ?_); rintro e w' ⟨rfl, ⟨nd, rfl⟩⟩) | (go_at_call 23; (with_reducible refine (bulkheadlaw1_kin_uint64.calls kj4 a0 a1 true _ A16.out).mono ?_); rintro e w' ⟨rfl, ⟨nd, rfl⟩⟩) | (go_at_call 24; (with_reducible refine (bulkheadlaw1_Tiny_24.calls kj4 ((a0) % 256) ((a1) % 256) true _ A18.out).mono ?_); rintro e w' ⟨rfl, ⟨nd, rfl⟩⟩) | (go_at_call 25; (with_reducible refine (bulkheadlaw1_Great_25.calls kj4 a0 a1 t242 _ A20.out).mono ?_); rintro e w' ⟨rfl, ⟨nd, rfl⟩⟩))
                  go_ret
                  exact ⟨by first | rfl | (simp; done) | (simp [*]; done), by repeat (first | exact Drawn0.refl _ | apply Drawn0.step)⟩
                · replace c19 := Bool.eq_false_iff.mpr c19
                  subst c19
                  have H1 : (some false) = some r := by rw [if_neg (show ¬ (false = true) by decide)] at H; exact H
                  clear H
                  have H := H1
                  clear H1
                  obtain rfl := Option.some.inj H
                  go_wp2_with (first | ((with_reducible refine gate_callee (f := 20) rfl ?_); refine goesL_ (some 34) rfl rfl Try.func20 (by kernel_rfl) rfl #[.int .u8 ((a0) % 256), .int .u8 ((a1) % 256)] rfl (by (try simp only [List.map_toArray, List.map_cons, List.map_nil]); first | done | rfl | (simp only [List.length_drop, List.length_take]; rfl)) ?_; (with_reducible refine (bulkheadlaw1_kin_uint8.calls kj4 ((a0) % 256) ((a1) % 256) true _ A10.out).mono ?_); rintro e w' ⟨rfl, ⟨nd, rfl⟩⟩; refine ⟨_, rfl, ?_⟩) | (go_at_call 21; (with_reducible refine (bulkheadlaw1_kin_uint16.calls kj4 (IntKind.u16.wrap (a0)) (IntKind.u16.wrap (a1)) true _ A12.out).mono ?_); rintro e w' ⟨rfl, ⟨nd, rfl⟩⟩) | (go_at_call 22; (with_reducible refine (bulkheadlaw1_kin_uint32.calls kj4 ((a0) % 4294967296) ((a1) % 4294967296) true _ A14.out).mono ?_); rintro e w' ⟨rfl, ⟨nd, rfl⟩⟩) | (go_at_call 23; (with_reducible refine (bulkheadlaw1_kin_uint64.calls kj4 a0 a1 true _ A16.out).mono ?_); rintro e w' ⟨rfl, ⟨nd, rfl⟩⟩) | (go_at_call 24; (with_reducible refine (bulkheadlaw1_Tiny_24.calls kj4 ((a0) % 256) ((a1) % 256) false _ A18.out).mono ?_); rintro e w' ⟨rfl, ⟨nd, rfl⟩⟩))
                  go_ret
                  exact ⟨by first | rfl | (simp; done) | (simp [*]; done), by repeat (first | exact Drawn0.refl _ | apply Drawn0.step)⟩
              · replace c17 := Bool.eq_false_iff.mpr c17
                subst c17
                have H1 : (some false) = some r := by rw [if_neg (show ¬ (false = true) by decide)] at H; exact H
                clear H
                have H := H1
                clear H1
                obtain rfl := Option.some.inj H
                go_wp2_with (first | ((with_reducible refine gate_callee (f := 20) rfl ?_); refine goesL_ (some 34) rfl rfl Try.func20 (by kernel_rfl) rfl #[.int .u8 ((a0) % 256), .int .u8 ((a1) % 256)] rfl (by (try simp only [List.map_toArray, List.map_cons, List.map_nil]); first | done | rfl | (simp only [List.length_drop, List.length_take]; rfl)) ?_; (with_reducible refine (bulkheadlaw1_kin_uint8.calls kj4 ((a0) % 256) ((a1) % 256) true _ A10.out).mono ?_); rintro e w' ⟨rfl, ⟨nd, rfl⟩⟩; refine ⟨_, rfl, ?_⟩) | (go_at_call 21; (with_reducible refine (bulkheadlaw1_kin_uint16.calls kj4 (IntKind.u16.wrap (a0)) (IntKind.u16.wrap (a1)) true _ A12.out).mono ?_); rintro e w' ⟨rfl, ⟨nd, rfl⟩⟩) | (go_at_call 22; (with_reducible refine (bulkheadlaw1_kin_uint32.calls kj4 ((a0) % 4294967296) ((a1) % 4294967296) true _ A14.out).mono ?_); rintro e w' ⟨rfl, ⟨nd, rfl⟩⟩) | (go_at_call 23; (with_reducible refine (bulkheadlaw1_kin_uint64.calls kj4 a0 a1 false _ A16.out).mono ?_); rintro e w' ⟨rfl, ⟨nd, rfl⟩⟩))
                go_ret
                exact ⟨by first | rfl | (simp; done) | (simp [*]; done), by repeat (first | exact Drawn0.refl _ | apply Drawn0.step)⟩
            · replace c15 := Bool.eq_false_iff.mpr c15
              subst c15
              have H1 : (some false) = some r := by rw [if_neg (show ¬ (false = true) by decide)] at H; exact H
              clear H
              have H := H1
              clear H1
              obtain rfl := Option.some.inj H
              go_wp2_with (first | ((with_reducible refine gate_callee (f := 20) rfl ?_); refine goesL_ (some 34) rfl rfl Try.func20 (by kernel_rfl) rfl #[.int .u8 ((a0) % 256), .int .u8 ((a1) % 256)] rfl (by (try simp only [List.map_toArray, List.map_cons, List.map_nil]); first | done | rfl | (simp only [List.length_drop, List.length_take]; rfl)) ?_; (with_reducible refine (bulkheadlaw1_kin_uint8.calls kj4 ((a0) % 256) ((a1) % 256) true _ A10.out).mono ?_); rintro e w' ⟨rfl, ⟨nd, rfl⟩⟩; refine ⟨_, rfl, ?_⟩) | (go_at_call 21; (with_reducible refine (bulkheadlaw1_kin_uint16.calls kj4 (IntKind.u16.wrap (a0)) (IntKind.u16.wrap (a1)) true _ A12.out).mono ?_); rintro e w' ⟨rfl, ⟨nd, rfl⟩⟩) | (go_at_call 22; (with_reducible refine (bulkheadlaw1_kin_uint32.calls kj4 ((a0) % 4294967296) ((a1) % 4294967296) false _ A14.out).mono ?_); rintro e w' ⟨rfl, ⟨nd, rfl⟩⟩))
              go_ret
              exact ⟨by first | rfl | (simp; done) | (simp [*]; done), by repeat (first | exact Drawn0.refl _ | apply Drawn0.step)⟩
          · replace c13 := Bool.eq_false_iff.mpr c13
            subst c13
            have H1 : (some false) = some r := by rw [if_neg (show ¬ (false = true) by decide)] at H; exact H
            clear H
            have H := H1
            clear H1
            obtain rfl := Option.some.inj H
            go_wp2_with (first | ((with_reducible refine gate_callee (f := 20) rfl ?_); refine goesL_ (some 34) rfl rfl Try.func20 (by kernel_rfl) rfl #[.int .u8 ((a0) % 256), .int .u8 ((a1) % 256)] rfl (by (try simp only [List.map_toArray, List.map_cons, List.map_nil]); first | done | rfl | (simp only [List.length_drop, List.length_take]; rfl)) ?_; (with_reducible refine (bulkheadlaw1_kin_uint8.calls kj4 ((a0) % 256) ((a1) % 256) true _ A10.out).mono ?_); rintro e w' ⟨rfl, ⟨nd, rfl⟩⟩; refine ⟨_, rfl, ?_⟩) | (go_at_call 21; (with_reducible refine (bulkheadlaw1_kin_uint16.calls kj4 (IntKind.u16.wrap (a0)) (IntKind.u16.wrap (a1)) false _ A12.out).mono ?_); rintro e w' ⟨rfl, ⟨nd, rfl⟩⟩))
            go_ret
            exact ⟨by first | rfl | (simp; done) | (simp [*]; done), by repeat (first | exact Drawn0.refl _ | apply Drawn0.step)⟩
        · replace c11 := Bool.eq_false_iff.mpr c11
          subst c11
          have H1 : (some false) = some r := by rw [if_neg (show ¬ (false = true) by decide)] at H; exact H
          clear H
          have H := H1
          clear H1
          obtain rfl := Option.some.inj H
          go_wp2_with (first | ((with_reducible refine gate_callee (f := 20) rfl ?_); refine goesL_ (some 34) rfl rfl Try.func20 (by kernel_rfl) rfl #[.int .u8 ((a0) % 256), .int .u8 ((a1) % 256)] rfl (by (try simp only [List.map_toArray, List.map_cons, List.map_nil]); first | done | rfl | (simp only [List.length_drop, List.length_take]; rfl)) ?_; (with_reducible refine (bulkheadlaw1_kin_uint8.calls kj4 ((a0) % 256) ((a1) % 256) false _ A10.out).mono ?_); rintro e w' ⟨rfl, ⟨nd, rfl⟩⟩; refine ⟨_, rfl, ?_⟩))
          go_ret
          exact ⟨by first | rfl | (simp; done) | (simp [*]; done), by repeat (first | exact Drawn0.refl _ | apply Drawn0.step)⟩

/-- THE ONE PURE STATEMENT of bulkheadlaw1_WordKin: yours. -/
def bulkheadlaw1_WordKin.Pure : Prop := ∀ (a0 : Int) (a1 : Int), (Lit.int .u64 a0).wf = true → (Lit.int .u64 a1).wf = true → ∃ k, bulkheadlaw1_WordKin.f k a0 a1 = some true
theorem bulkheadlaw1_WordKin.walk (P : bulkheadlaw1_WordKin.Pure) (a0 : Int) (a1 : Int) (w : World) (w0 : (Lit.int .u64 a0).wf = true) (w1 : (Lit.int .u64 a1).wf = true) :
    Calls Try.prog 4 #[.int .u64 a0, .int .u64 a1] w fun e w' => e = .returned (.bool true) ∧ Below w.heap.size w w' := by
  obtain ⟨k, h⟩ := P a0 a1 w0 w1
  refine (bulkheadlaw1_WordKin.calls k a0 a1 true w h).mono ?_
  rintro e w' ⟨rfl, hd⟩
  exact ⟨rfl, hd.below⟩

end Go.Proofs.Ythdjddpomaendaa.PWordKin
