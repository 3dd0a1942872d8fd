/- The reference's Writer: Bytes, Text, Pad, Seal. -/
import Derived.Test.YthdjddpomaendaaW5
namespace Go.Proofs.Ythdjddpomaendaa.B
open Go.RowKit
set_option linter.unusedVariables false
set_option linter.unusedSimpArgs false

section
variable (base g : Nat) (vb : Option Nat) (bs : List UInt8) (e : Int) (w : World)
set_option maxHeartbeats 800000 in
set_option maxRecDepth 100000 in
theorem vBytes (A2 : Option Addr) (n2 c2 : Nat) (ys : List UInt8) (hy : Rd w A2 n2 (bvs ys)) (hW : IsV w base g vb bs e) (hl : bs.length + n2 ≤ 140737488355328) :
    Calls Try.prog 109 #[.pointer (some ⟨g, 0, none⟩), .slice A2 n2 c2] w fun r w' => r = .returned (.tuple #[]) ∧ ∃ vb', IsV w' base g vb' (okB e (bs ++ ys) bs) e ∧ FrW w w' g vb vb' := by
  obtain ⟨A, c, hvb, hbg, hk, ho⟩ := id hW
  have c0 := hk.cell 0 _ rfl
  have c1 := hk.cell 1 _ rfl
  have f0 := hk.free 0
  by_cases he : e = 0
  · subst he
    rw [okB_ok]
    have HVB := Lib.hid hvb
    clear hvb
    go_enter Try.func109, Try.ntmps109
    go_wp2_with ((with_reducible refine at_builtin_ (b := .append) rfl ?_); go_must (refine app_u8 rfl _ _ rfl base (.slice A bs.length c) bs A2 n2 c2 ys rfl rfl ho hy (Nat.le_of_lt (Nat.lt_of_le_of_lt hbg hk.lt)) (bs.length + n2) rfl hl 0 w (Below.refl _ _) (Nat.zero_le _) ?_); intro A3 cc3 w3 hO3 _ hg3 hat3; have k3 := hk.of_eq (hg3.block g hk.lt (own_ne ho hk)); have c03 := k3.cell 0 _ rfl; have f03 := k3.free 0)
    go_end0
    exact ⟨rfl, vclose hbg k3 hO3 (by simp [hy.len]) (Fr.of_grown hg3 (fun k hk => .inl (.inr (by rw [← HVB.out]; exact hk)))) (fresh_or HVB.out (Nat.le_refl _) hat3)⟩
  · have he0 : (e == 0) = false := beq_eq_false_iff_ne.2 he
    rw [okB_no he]
    go_enter Try.func109, Try.ntmps109
    go_wp2_with fail
    go_end0
    exact ⟨rfl, vb, hW, FrW.refl _ _ _⟩

set_option maxHeartbeats 1600000 in
set_option maxRecDepth 100000 in
theorem vText (s : ByteArray) (hs : s.size ≤ 140737488351232) (hW : IsV w base g vb bs e) (hl : bs.length + 2 + s.size ≤ 140737488351232) :
    Calls Try.prog 110 #[.pointer (some ⟨g, 0, none⟩), .string s] w fun r w' => r = .returned (.tuple #[]) ∧ ∃ vb', IsV w' base g vb' (textB bs e s) (textE e s) ∧ FrW w w' g vb vb' := by
  have kb := conv_bytes s
  have c1 : w.cell? ⟨g, 1, none⟩ = some (.int .i64 e) := by obtain ⟨A, c, hvb, hbg, hk, ho⟩ := hW; exact hk.cell 1 _ rfl
  have f1 : w.frozen? ⟨g, 1, none⟩ = false := by obtain ⟨A, c, hvb, hbg, hk, ho⟩ := hW; exact hk.free 1
  have hgw := hW.lt.1
  have hrb := fun W => refBytes2 s.size W (by omega)
  have HRB := Lib.hid hrb
  clear hrb
  by_cases he : e = 0
  · subst he
    by_cases hbig : 65535 < s.size
    · have t1 : decide (65535 < s.size) = true := decide_eq_true hbig
      obtain ⟨hW1, hF1⟩ := hW.set_err 3
      have HE := Lib.hid (show textB bs 0 s = bs ∧ textE 0 s = 3 from ⟨if_neg (by omega), if_pos ⟨rfl, hbig⟩⟩)
      go_enter Try.func110, Try.ntmps110
      go_wp2_with fail
      refine (vNumber base g vb bs 3 2 s.size _ HRB.out hW1 (by omega)).mono ?_
      rintro r w1 ⟨rfl, vb1, hW2, hF2⟩
      rw [okB_no (by decide)] at hW2
      have hF2' := hF1.trans hF2 (by exact hgw)
      clear hF1 hF2 hW1
      go_wp2_with fail
      refine (vBytes base g vb1 bs 3 _ _ _ _ (sb s) (conv_rd _ s (by omega)) (hW2.below (conv_below (Below.refl _ _) (Nat.le_refl _) s)) (by omega)).mono ?_
      rintro r w2 ⟨rfl, vb2, hW3, hF3⟩
      rw [okB_no (by decide)] at hW3
      go_wp2_with fail
      go_end0
      exact ⟨rfl, vb2, by rw [HE.out.1, HE.out.2]; exact hW3, (hF2'.then_below (conv_below (Below.refl _ _) (Nat.le_refl _) s)).trans hF3 hgw⟩
    · have t1 : decide (65535 < s.size) = false := decide_eq_false hbig
      have HE := Lib.hid (show textB bs 0 s = bs ++ leBytes 2 s.size ++ sb s ∧ textE 0 s = 0 from ⟨by rw [textB, if_pos ⟨rfl, by omega⟩], if_neg (by omega)⟩)
      go_enter Try.func110, Try.ntmps110
      go_wp2_with fail
      refine (vNumber base g vb bs 0 2 s.size _ HRB.out hW (by omega)).mono ?_
      rintro r w1 ⟨rfl, vb1, hW2, hF2⟩
      rw [okB_ok] at hW2
      go_wp2_with fail
      refine (vBytes base g vb1 _ 0 _ _ _ _ (sb s) (conv_rd _ s (by omega)) (hW2.below (conv_below (Below.refl _ _) (Nat.le_refl _) s)) (by simp [leBytes_length]; omega)).mono ?_
      rintro r w2 ⟨rfl, vb2, hW3, hF3⟩
      rw [okB_ok] at hW3
      go_wp2_with fail
      go_end0
      exact ⟨rfl, vb2, by rw [HE.out.1, HE.out.2]; exact hW3, (hF2.then_below (conv_below (Below.refl _ _) (Nat.le_refl _) s)).trans hF3 hgw⟩
  · have he0 : (e == 0) = false := beq_eq_false_iff_ne.2 he
    have HE := Lib.hid (show textB bs e s = bs ∧ textE e s = e from ⟨if_neg (fun h => he h.1), if_neg (fun h => he h.1)⟩)
    go_enter Try.func110, Try.ntmps110
    go_wp2_with fail
    refine (vNumber base g vb bs e 2 s.size _ HRB.out hW (by omega)).mono ?_
    rintro r w1 ⟨rfl, vb1, hW2, hF2⟩
    rw [okB_no he] at hW2
    go_wp2_with fail
    refine (vBytes base g vb1 bs e _ _ _ _ (sb s) (conv_rd _ s (by omega)) (hW2.below (conv_below (Below.refl _ _) (Nat.le_refl _) s)) (by omega)).mono ?_
    rintro r w2 ⟨rfl, vb2, hW3, hF3⟩
    rw [okB_no he] at hW3
    go_wp2_with fail
    go_end0
    exact ⟨rfl, vb2, by rw [HE.out.1, HE.out.2]; exact hW3, (hF2.then_below (conv_below (Below.refl _ _) (Nat.le_refl _) s)).trans hF3 hgw⟩
end
end Go.Proofs.Ythdjddpomaendaa.B
