/- The reference's Writer. Printed by gen_refw.py. -/
import Derived.Test.YthdjddpomaendaaW4
import Derived.Test.YthdjddpomaendaaHL
namespace Go.Proofs.Ythdjddpomaendaa.B
open Go.RowKit
set_option linter.unusedVariables false
set_option linter.unusedSimpArgs false

/-- The reference's Writer at block g: its bytes, in block vb if there is one; its refusal. -/
def IsV (w : World) (base g : Nat) (vb : Option Nat) (bs : List UInt8) (e : Int) : Prop :=
  ∃ A c, (Value.slice A bs.length c).ownBlock = vb ∧ base ≤ g ∧ Blk w g [.slice A bs.length c, .int .i64 e] 104 ∧ Own w base (.slice A bs.length c) bs
section
variable {w w1 w2 : World} {base g : Nat} {vb vb1 vb2 : Option Nat} {bs : List UInt8} {e : Int} {S : Nat → Prop}
theorem IsV.fr (h : IsV w base g vb bs e) (hf : Fr S w w1) (hg : ¬ S g) (hv : ∀ k, vb = some k → ¬ S k) : IsV w1 base g vb bs e := by
  obtain ⟨A, c, hvb, hb, hk, ho⟩ := h
  exact ⟨A, c, hvb, hb, hk.fr hf hg, ho.fr hf (fun k hk => hv k (hvb ▸ hk))⟩
theorem IsV.lt (h : IsV w base g vb bs e) : g < w.heap.size ∧ base ≤ g ∧ ∀ k, vb = some k → base ≤ k ∧ k < w.heap.size := by
  obtain ⟨A, c, hvb, hb, hk, ho⟩ := h
  exact ⟨hk.lt, hb, fun k hk => ho.base_le k (hvb ▸ hk)⟩
theorem IsV.below (h : IsV w base g vb bs e) (hb : Below w.heap.size w w1) : IsV w1 base g vb bs e := by
  refine h.fr (Fr.of_below hb (fun _ => False)) (fun h => h) (fun _ _ h => h)
end
theorem vclose {w w2 : World} {base g : Nat} {vb : Option Nat} {new : List UInt8} {e : Int} {A2 : Option Addr} {N c2 : Nat} {old : Value} (hbg : base ≤ g) (k2 : Blk w2 g [old, .int .i64 e] 104) (hO2 : Own w2 base (.slice A2 N c2) new) (hN : new.length = N)
    (hfr : Fr (fun k => k = g ∨ vb = some k) w w2) (hat : (Value.slice A2 N c2).ownBlock = vb ∨ ∃ b, (Value.slice A2 N c2).ownBlock = some b ∧ w.heap.size ≤ b) :
    ∃ vb', IsV (w2.setCell ⟨g, 0, none⟩ (.slice A2 N c2)) base g vb' new e ∧ FrW w (w2.setCell ⟨g, 0, none⟩ (.slice A2 N c2)) g vb vb' := by
  subst hN
  have hne := own_ne hO2 k2
  refine ⟨_, ⟨A2, c2, rfl, hbg, k2.set 0 _, ?_⟩, hfr.setCell (.inl (.inl rfl)) _, hat⟩
  exact hO2.fr (S := fun k => k = g) (Fr.setCell (p := ⟨g, 0, none⟩) (Fr.refl (fun k => k = g) w2) (.inl rfl) _) (fun k hk e => hne (by rw [hk, e]))
theorem IsV.set_err {w : World} {base g : Nat} {vb : Option Nat} {bs : List UInt8} {e : Int} (h : IsV w base g vb bs e) (e' : Int) : IsV (w.setCell ⟨g, 1, none⟩ (.int .i64 e')) base g vb bs e' ∧ FrW w (w.setCell ⟨g, 1, none⟩ (.int .i64 e')) g vb vb := by
  obtain ⟨A, c, hvb, hb, hk, ho⟩ := h
  have hne := own_ne ho hk
  refine ⟨⟨A, c, hvb, hb, hk.set 1 _, ?_⟩, (Fr.refl _ w).setCell (.inl (.inl rfl)) _, .inl rfl⟩
  exact ho.fr (S := fun k => k = g) (Fr.setCell (p := ⟨g, 1, none⟩) (Fr.refl (fun k => k = g) w) (.inl rfl) _) (fun k hk e => hne (by rw [hk, e]))

theorem Fr.undrew {S : Nat → Prop} {w w1 : World} (h : Fr S w.drew w1) : Fr S w w1 := ⟨h.os, h.tape, h.output, h.size, h.block⟩
set_option maxHeartbeats 3200000 in
set_option maxRecDepth 100000 in
theorem vNumber (base g : Nat) (vb : Option Nat) (bs : List UInt8) (e : Int) (s x : Nat) (w : World) (hrb : ∀ W : World, Calls Try.prog 127 #[.int .u64 (x : Int), .int .i64 (s : Int)] W fun r w' => ∃ A' c', r = .returned (.slice A' s c') ∧ Own w' W.heap.size (.slice A' s c') (leBytes s x) ∧ Below W.heap.size W w')
    (hW : IsV w base g vb bs e) (hl : bs.length + s ≤ 140737488355328) :
    Calls Try.prog 108 #[.pointer (some ⟨g, 0, none⟩), .int .u64 (x : Int), .int .i64 (s : Int)] w fun r w' => r = .returned (.tuple #[]) ∧ ∃ vb', IsV w' base g vb' (okB e (bs ++ leBytes s x) bs) e ∧ FrW w w' g vb vb' := by
  obtain ⟨A, c, hvb, hbg, hk, ho⟩ := id hW
  have c0 := hk.cell 0 _ rfl
  have c1 := hk.cell 1 _ rfl
  by_cases he : e = 0
  · subst he
    rw [okB_ok]
    have HVB := Lib.hid hvb
    clear hvb
    have hk1 : Blk w.drew g [.slice A bs.length c, .int .i64 0] 104 := hk
    have hO1 : Own w.drew base (.slice A bs.length c) bs := ho
    have hbw : base ≤ w.drew.heap.size := Nat.le_of_lt (Nat.lt_of_le_of_lt hbg hk.lt)
    go_enter Try.func108, Try.ntmps108
    go_wp2_with fail
    refine region_last (S := (fun w' => w'.cell? ⟨g, 0, none⟩ = some (.slice A bs.length c))) (ds := [11]) (by kernel_rfl) ?_ (fun hHeld => ?_)
    · (try dsimp only); go_keep
    refine lk 0 (v := ?_) rfl (by kernel_rfl) (fun _ _ _ h => h) (by kernel_rfl) hHeld ?_ ?_
    rotate_left
    · (intro w0 hSw; (try dsimp only at hSw); go_simp; (try with_reducible rfl))
    (try simp only [Act.put, List.setIfInBounds_toArray, List.set_cons_zero, List.set_cons_succ])
    refine lk 1 (v := ?_) rfl (by kernel_rfl) (fun _ _ _ h => h) (by kernel_rfl) hHeld ?_ ?_
    rotate_left
    · (intro w0 hSw; (try dsimp only at hSw); go_simp; (try with_reducible rfl))
    (try simp only [Act.put, List.setIfInBounds_toArray, List.set_cons_zero, List.set_cons_succ])
    refine lk 2 (v := ?_) rfl (by kernel_rfl) (fun _ _ _ h => h) (by kernel_rfl) hHeld ?_ ?_
    rotate_left
    · (intro w0 hSw; (try dsimp only at hSw); go_simp; (try with_reducible rfl))
    (try simp only [Act.put, List.setIfInBounds_toArray, List.set_cons_zero, List.set_cons_succ])
    refine lk 3 (v := ?_) rfl (by kernel_rfl) (fun _ _ _ h => h) (by kernel_rfl) hHeld ?_ ?_
    rotate_left
    · (intro w0 hSw; (try dsimp only at hSw); go_simp; (try with_reducible rfl))
    (try simp only [Act.put, List.setIfInBounds_toArray, List.set_cons_zero, List.set_cons_succ])
    refine lk 4 (v := ?_) rfl (by kernel_rfl) (fun _ _ _ h => h) (by kernel_rfl) hHeld ?_ ?_
    rotate_left
    · (intro w0 hSw; (try dsimp only at hSw); go_simp; (try with_reducible rfl))
    (try simp only [Act.put, List.setIfInBounds_toArray, List.set_cons_zero, List.set_cons_succ])
    refine lk 5 (v := ?_) rfl (by kernel_rfl) (fun _ _ _ h => h) (by kernel_rfl) hHeld ?_ ?_
    rotate_left
    · (intro w0 hSw; (try dsimp only at hSw); go_simp; (try with_reducible rfl))
    (try simp only [Act.put, List.setIfInBounds_toArray, List.set_cons_zero, List.set_cons_succ])
    refine lk 6 (v := ?_) rfl (by kernel_rfl) (fun _ _ _ h => h) (by kernel_rfl) hHeld ?_ ?_
    rotate_left
    · (intro w0 hSw; (try dsimp only at hSw); go_simp; (try with_reducible rfl))
    (try simp only [Act.put, List.setIfInBounds_toArray, List.set_cons_zero, List.set_cons_succ])
    refine lr 7 rfl (by kernel_rfl) (by decide) (fun K hK => ?_)
    (refine goes Try.func127 (by kernel_rfl) rfl #[.int .u64 (x : Int), .int .i64 (s : Int)] rfl rfl (by simp only [List.map_toArray, List.map_cons, List.map_nil]; rfl) ?_; refine (hrb w.drew).mono ?_; rintro r w2 ⟨A2, c2, rfl, hO2, hb2⟩; refine ⟨_, rfl, ?_⟩; have hO := hO1.below hb2; have hk := hk1.of_eq (hb2.block g hk1.lt); have g0 := hk.cell 0 _ rfl; have HO2 := Lib.hid hO2; have hs2 := hb2.size; clear hO2)
    clear hHeld
    refine hK.out _ _ ?_ (fun hHeld => ?_)
    · (try dsimp only); go_keep
    clear hK K
    (try simp only [Act.put, List.setIfInBounds_toArray, List.set_cons_zero, List.set_cons_succ])
    refine lr 8 rfl (by kernel_rfl) (by decide) (fun K hK => ?_)
    (refine step_app_u8 rfl _ _ rfl base (.slice A bs.length c) bs A2 s c2 (leBytes s x) rfl rfl hO HO2.out.rd_ (Nat.le_trans hbw hs2) (bs.length + s) rfl hl ?_; intro A3 c3 w3 hO3 hg3 hat3; have k3 := hk.of_eq (hg3.block g hk.lt (own_ne hO hk)); have c03 := k3.cell 0 _ rfl; have f03 := k3.free 0)
    clear hHeld
    refine hK.out _ _ ?_ (fun hHeld => ?_)
    · (try dsimp only); go_keep
    clear hK K
    (try simp only [Act.put, List.setIfInBounds_toArray, List.set_cons_zero, List.set_cons_succ])
    refine lk 9 (v := ?_) rfl (by kernel_rfl) (fun _ _ _ h => h) (by kernel_rfl) hHeld ?_ ?_
    rotate_left
    · (intro w0 hSw; (try dsimp only at hSw); go_simp; (try with_reducible rfl))
    (try simp only [Act.put, List.setIfInBounds_toArray, List.set_cons_zero, List.set_cons_succ])
    refine lk 10 (v := ?_) rfl (by kernel_rfl) (fun _ _ _ h => h) (by kernel_rfl) hHeld ?_ ?_
    rotate_left
    · (intro w0 hSw; (try dsimp only at hSw); go_simp; (try with_reducible rfl))
    (try simp only [Act.put, List.setIfInBounds_toArray, List.set_cons_zero, List.set_cons_succ])
    refine ll 11 rfl (by kernel_rfl) (by decide) (fun K hK => ?_)
    go_simp
    (try clear hHeld)
    refine hK.out _ _ ?_
    clear hK K
    (try simp only [Act.put, List.setIfInBounds_toArray, List.set_cons_zero, List.set_cons_succ])
    refine last_done (by kernel_rfl) ?_ _
    go_wp2_with fail
    go_end0
    exact ⟨rfl, vclose hbg k3 hO3 (by rw [List.length_append, leBytes_length]) (Fr.undrew ((Fr.of_below hb2 _).trans (Fr.of_grown hg3 (S := fun k => k = g ∨ vb = some k) (fun k hk => .inl (.inr (by rw [← HVB.out]; exact hk)))) (fun i hi => .inl hi))) (fresh_or HVB.out hs2 hat3)⟩
  · have he0 : (e == 0) = false := beq_eq_false_iff_ne.2 he
    rw [okB_no he]
    go_enter Try.func108, Try.ntmps108
    go_wp2_with fail
    go_end0
    exact ⟨rfl, vb, hW, FrW.refl _ _ _⟩
end Go.Proofs.Ythdjddpomaendaa.B
