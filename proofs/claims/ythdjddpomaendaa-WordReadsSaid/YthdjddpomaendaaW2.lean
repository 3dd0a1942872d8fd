/- The Writer: NewWriter, Len, Err, All, Bytes, Text, Pad, Seal. -/
import Derived.Test.YthdjddpomaendaaW1
import Derived.Test.YthdjddpomaendaaB4
namespace Go.Proofs.Ythdjddpomaendaa.B
open Go.RowKit
set_option linter.unusedVariables false
set_option linter.unusedSimpArgs false

set_option maxHeartbeats 800000 in
set_option maxRecDepth 100000 in
theorem newWriter (w : World) :
    Calls Try.prog 31 #[] w fun r w' => r = .returned (.pointer (some ⟨w.heap.size, 0, none⟩)) ∧ IsW w' w.heap.size w.heap.size none [] 0 ∧ Below w.heap.size w w' := by
  go_enter Try.func31, Try.ntmps31
  go_wp2
  go_ret
  exact ⟨rfl, ⟨none, 0, rfl, Nat.le_refl _, Blk.new w [.slice none 0 0, .int .i64 0] _, Own.nil _ _⟩, below_alloc (Below.refl _ _) _⟩

section
variable (base g : Nat) (vb : Option Nat) (bs : List UInt8) (e : Int) (w : World)
set_option maxHeartbeats 800000 in
set_option maxRecDepth 100000 in
theorem wLen (hW : IsW w base g vb bs e) : Calls Try.prog 48 #[.pointer (some ⟨g, 0, none⟩)] w fun r w' => r = .returned (.int .i64 (bs.length : Int)) ∧ w' = w := by
  obtain ⟨A, c, hvb, hbg, hk, ho⟩ := hW
  have c0 := hk.cell 0 _ rfl
  go_enter Try.func48, Try.ntmps48
  go_wp2
  go_ret
  exact ⟨rfl, rfl⟩
set_option maxHeartbeats 800000 in
set_option maxRecDepth 100000 in
theorem wErr (hW : IsW w base g vb bs e) : Calls Try.prog 35 #[.pointer (some ⟨g, 0, none⟩)] w fun r w' => r = .returned (.int .i64 e) ∧ w' = w := by
  obtain ⟨A, c, hvb, hbg, hk, ho⟩ := hW
  have c1 := hk.cell 1 _ rfl
  go_enter Try.func35, Try.ntmps35
  go_wp2
  go_ret
  exact ⟨rfl, rfl⟩
set_option maxHeartbeats 800000 in
set_option maxRecDepth 100000 in
theorem wAll (hW : IsW w base g vb bs e) (hl : bs.length ≤ 140737488355328) : Calls Try.prog 34 #[.pointer (some ⟨g, 0, none⟩)] w fun r w' => ∃ A' c', r = .returned (.slice A' bs.length c') ∧ Own w' w.heap.size (.slice A' bs.length c') bs ∧ Below w.heap.size w w' := by
  obtain ⟨A, c, hvb, hbg, hk, ho⟩ := hW
  have c0 := hk.cell 0 _ rfl
  go_enter Try.func34, Try.ntmps34
  go_wp2_with fail
  refine (clone_ A bs.length c bs w ho.rd_ hl).mono ?_
  rintro r w' ⟨A', c', rfl, hO, hb⟩
  go_wp2_with fail
  go_ret
  exact ⟨A', c', rfl, hO, hb⟩

set_option maxHeartbeats 800000 in
set_option maxRecDepth 100000 in
theorem wBytes (A2 : Option Addr) (n2 c2 : Nat) (ys : List UInt8) (hy : Rd w A2 n2 (bvs ys)) (hW : IsW w base g vb bs e) (hl : bs.length + n2 ≤ 140737488355328) :
    Calls Try.prog 32 #[.pointer (some ⟨g, 0, none⟩), .slice A2 n2 c2] w fun r w' => r = .returned (.tuple #[]) ∧ ∃ vb', IsW w' base g vb' (okB e (bs ++ ys) bs) e ∧ FrW w w' g vb vb' := by
  obtain ⟨A, c, hvb, hbg, hk, ho⟩ := id hW
  have c0 := hk.cell 0 _ rfl
  have c1 := hk.cell 1 _ rfl
  have f0 := hk.free 0
  by_cases he : e = 0
  · subst he
    rw [okB_ok]
    have HVB := Lib.hid hvb
    clear hvb
    go_enter Try.func32, Try.ntmps32
    go_wp2_with ((with_reducible refine at_builtin_ (b := .append) rfl ?_); go_must (refine app_u8 rfl _ _ rfl base (.slice A bs.length c) bs A2 n2 c2 ys rfl rfl ho hy (Nat.le_of_lt (Nat.lt_of_le_of_lt hbg hk.lt)) (bs.length + n2) rfl hl 0 w (Below.refl _ _) (Nat.zero_le _) ?_); intro A3 cc3 w3 hO3 _ hg3 hat3; have k3 := hk.of_eq (hg3.block g hk.lt (own_ne ho hk)); have c03 := k3.cell 0 _ rfl; have f03 := k3.free 0)
    go_end0
    exact ⟨rfl, wclose hbg k3 hO3 (by simp [hy.len]) (Fr.of_grown hg3 (fun k hk => .inl (.inr (by rw [← HVB.out]; exact hk)))) (fresh_or HVB.out (Nat.le_refl _) hat3)⟩
  · have he0 : (e == 0) = false := beq_eq_false_iff_ne.2 he
    rw [okB_no he]
    go_enter Try.func32, Try.ntmps32
    go_wp2_with fail
    go_end0
    exact ⟨rfl, vb, hW, FrW.refl _ _ _⟩
end
end Go.Proofs.Ythdjddpomaendaa.B
