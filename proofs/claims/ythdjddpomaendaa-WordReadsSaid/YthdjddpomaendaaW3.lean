/- The Writer: Text, Pad, Seal. -/
import Derived.Test.YthdjddpomaendaaW2
namespace Go.Proofs.Ythdjddpomaendaa.B
open Go.RowKit
set_option linter.unusedVariables false
set_option linter.unusedSimpArgs false

def textB (bs : List UInt8) (e : Int) (s : ByteArray) : List UInt8 := if e = 0 ∧ s.size ≤ 65535 then bs ++ leBytes 2 s.size ++ sb s else bs
def textE (e : Int) (s : ByteArray) : Int := if e = 0 ∧ 65535 < s.size then 3 else e
theorem IsW.set_err {w : World} {base g : Nat} {vb : Option Nat} {bs : List UInt8} {e : Int} (h : IsW w base g vb bs e) (e' : Int) : IsW (w.setCell ⟨g, 1, none⟩ (.int .i64 e')) base g vb bs e' ∧ FrW w (w.setCell ⟨g, 1, none⟩ (.int .i64 e')) g vb vb := by
  obtain ⟨A, c, hvb, hb, hk, ho⟩ := h
  have hne := own_ne ho hk
  refine ⟨⟨A, c, hvb, hb, hk.set 1 _, ?_⟩, (Fr.refl _ w).setCell (.inl (.inl rfl)) _, .inl rfl⟩
  exact ho.fr (S := fun k => k = g) (Fr.setCell (p := ⟨g, 1, none⟩) (Fr.refl (fun k => k = g) w) (.inl rfl) _) (fun k hk e => hne (by rw [hk, e]))
theorem FrW.then_below {w w1 w2 : World} {g : Nat} {vb vb1 : Option Nat} (h : FrW w w1 g vb vb1) (hb : Below w1.heap.size w1 w2) : FrW w w2 g vb vb1 :=
  ⟨h.1.trans (Fr.of_below hb (fun _ => False)) (fun _ h => h.elim), h.2⟩

section
variable (base g : Nat) (vb : Option Nat) (bs : List UInt8) (e : Int) (w : World)
set_option maxHeartbeats 1600000 in
set_option maxRecDepth 100000 in
theorem wText (s : ByteArray) (hs : s.size ≤ 140737488351232) (hW : IsW w base g vb bs e) (hl : bs.length + 2 + s.size ≤ 140737488351232) :
    Calls Try.prog 98 #[.pointer (some ⟨g, 0, none⟩), .string s] w fun r w' => r = .returned (.tuple #[]) ∧ ∃ vb', IsW w' base g vb' (textB bs e s) (textE e s) ∧ FrW w w' g vb vb' := by
  have kb := conv_bytes s
  have c1 : w.cell? ⟨g, 1, none⟩ = some (.int .i64 e) := by obtain ⟨A, c, hvb, hbg, hk, ho⟩ := hW; exact hk.cell 1 _ rfl
  have f1 : w.frozen? ⟨g, 1, none⟩ = false := by obtain ⟨A, c, hvb, hbg, hk, ho⟩ := hW; exact hk.free 1
  have hgw := hW.lt.1
  obtain ⟨x, hq, hx, Hx⟩ : ∃ x : Nat, IntKind.u16.wrap (s.size : Int) = (x : Int) ∧ x < 65536 ∧ Hid (x = s.size % 65536) := ⟨s.size % 65536, by rw [IntKind.wrap_u16]; omega, by omega, Lib.hid rfl⟩
  by_cases he : e = 0
  · subst he
    by_cases hbig : 65535 < s.size
    · have t1 : ((x : Int) != (s.size : Int)) = true := by rw [bne_iff_ne]; omega
      obtain ⟨hW1, hF1⟩ := hW.set_err 3
      have HE := Lib.hid (show textB bs 0 s = bs ∧ textE 0 s = 3 from ⟨if_neg (by omega), if_pos ⟨rfl, hbig⟩⟩)
      go_enter Try.func98, Try.ntmps98
      go_wp2_with fail
      refine (lay_uint16 base g vb bs 3 x _ hx hW1 (by omega)).mono ?_
      rintro r w1 ⟨rfl, vb1, hW2, hF2⟩
      rw [okB_no (by decide)] at hW2
      have hF2' := hF1.trans hF2 (by exact hgw)
      clear hF1 hF2 hW1
      go_wp2_with fail
      refine (wBytes base g vb1 bs 3 _ _ _ _ (sb s) (conv_rd _ s (by omega)) (hW2.below (conv_below (Below.refl _ _) (Nat.le_refl _) s)) (by omega)).mono ?_
      rintro r w2 ⟨rfl, vb2, hW3, hF3⟩
      rw [okB_no (by decide)] at hW3
      go_wp2_with fail
      go_end0
      exact ⟨rfl, vb2, by rw [HE.out.1, HE.out.2]; exact hW3, (hF2'.then_below (conv_below (Below.refl _ _) (Nat.le_refl _) s)).trans hF3 hgw⟩
    · have t1 : ((x : Int) != (s.size : Int)) = false := by have := Hx.out; rw [bne_eq_false_iff_eq]; omega
      have HE := Lib.hid (show textB bs 0 s = bs ++ leBytes 2 x ++ sb s ∧ textE 0 s = 0 from ⟨by rw [textB, if_pos ⟨rfl, by omega⟩, show x = s.size by have := Hx.out; omega], if_neg (by omega)⟩)
      go_enter Try.func98, Try.ntmps98
      go_wp2_with fail
      refine (lay_uint16 base g vb bs 0 x _ hx hW (by omega)).mono ?_
      rintro r w1 ⟨rfl, vb1, hW2, hF2⟩
      rw [okB_ok] at hW2
      go_wp2_with fail
      refine (wBytes base g vb1 _ 0 _ _ _ _ (sb s) (conv_rd _ s (by omega)) (hW2.below (conv_below (Below.refl _ _) (Nat.le_refl _) s)) (by simp [leBytes_length]; omega)).mono ?_
      rintro r w2 ⟨rfl, vb2, hW3, hF3⟩
      rw [okB_ok] at hW3
      go_wp2_with fail
      go_end0
      exact ⟨rfl, vb2, by rw [HE.out.1, HE.out.2]; exact hW3, (hF2.then_below (conv_below (Below.refl _ _) (Nat.le_refl _) s)).trans hF3 hgw⟩
  · have he0 : (e == 0) = false := beq_eq_false_iff_ne.2 he
    have HE := Lib.hid (show textB bs e s = bs ∧ textE e s = e from ⟨if_neg (fun h => he h.1), if_neg (fun h => he h.1)⟩)
    go_enter Try.func98, Try.ntmps98
    go_wp2_with fail
    refine (lay_uint16 base g vb bs e x _ hx hW (by omega)).mono ?_
    rintro r w1 ⟨rfl, vb1, hW2, hF2⟩
    rw [okB_no he] at hW2
    go_wp2_with fail
    refine (wBytes base g vb1 bs e _ _ _ _ (sb s) (conv_rd _ s (by omega)) (hW2.below (conv_below (Below.refl _ _) (Nat.le_refl _) s)) (by omega)).mono ?_
    rintro r w2 ⟨rfl, vb2, hW3, hF3⟩
    rw [okB_no he] at hW3
    go_wp2_with fail
    go_end0
    exact ⟨rfl, vb2, by rw [HE.out.1, HE.out.2]; exact hW3, (hF2.then_below (conv_below (Below.refl _ _) (Nat.le_refl _) s)).trans hF3 hgw⟩

def padB (bs : List UInt8) (e al : Int) : List UInt8 := if e = 0 ∧ 1 ≤ al ∧ al ≤ 4096 then bs ++ List.replicate (gapN bs.length al.toNat) 0 else bs
def padE (e al : Int) : Int := if e = 0 ∧ ¬ (1 ≤ al ∧ al ≤ 4096) then 1 else e
set_option maxHeartbeats 1600000 in
set_option maxRecDepth 100000 in
theorem wPad (al : Int) (hW : IsW w base g vb bs e) (hl : bs.length + 4096 ≤ 140737488355328) :
    Calls Try.prog 49 #[.pointer (some ⟨g, 0, none⟩), .int .i64 al] w fun r w' => r = .returned (.tuple #[]) ∧ ∃ vb', IsW w' base g vb' (padB bs e al) (padE e al) ∧ FrW w w' g vb vb' := by
  obtain ⟨A, c, hvb, hbg, hk, ho⟩ := id hW
  have c0 := hk.cell 0 _ rfl
  have c1 := hk.cell 1 _ rfl
  have f0 := hk.free 0
  have f1 := hk.free 1
  by_cases he : e = 0
  · subst he
    by_cases h1 : al < 1
    · have e1 : decide (al < 1) = true := decide_eq_true h1
      obtain ⟨hW1, hF1⟩ := hW.set_err 1
      have HE := Lib.hid (show padB bs 0 al = bs ∧ padE 0 al = 1 from ⟨if_neg (by omega), if_pos ⟨rfl, by omega⟩⟩)
      clear hvb
      go_enter Try.func49, Try.ntmps49
      go_wp2_with fail
      go_end0
      exact ⟨rfl, vb, by rw [HE.out.1, HE.out.2]; exact hW1, hF1⟩
    · have e1 : decide (al < 1) = false := decide_eq_false h1
      by_cases h2 : 4096 < al
      · have e2 : decide (4096 < al) = true := decide_eq_true h2
        obtain ⟨hW1, hF1⟩ := hW.set_err 1
        have HE := Lib.hid (show padB bs 0 al = bs ∧ padE 0 al = 1 from ⟨if_neg (by omega), if_pos ⟨rfl, by omega⟩⟩)
        clear hvb
        go_enter Try.func49, Try.ntmps49
        go_wp2_with fail
        go_end0
        exact ⟨rfl, vb, by rw [HE.out.1, HE.out.2]; exact hW1, hF1⟩
      · have e2 : decide (4096 < al) = false := decide_eq_false h2
        obtain ⟨al, rfl⟩ := Int.eq_ofNat_of_zero_le (show 0 ≤ al by omega)
        have HE := Lib.hid (show padB bs 0 al = bs ++ List.replicate (gapN bs.length al) 0 ∧ padE 0 al = 0 from ⟨by rw [padB, if_pos ⟨rfl, by omega, by omega⟩, Int.toNat_natCast], if_neg (by omega)⟩)
        have hgl := gapN_lt bs.length al (by omega)
        have HVB := Lib.hid hvb
        clear hvb
        go_enter Try.func49, Try.ntmps49
        go_wp2_with fail
        go_region_law (first
          | (refine goes Try.func93 (by kernel_rfl) rfl #[.int .i64 (bs.length : Int), .int .i64 (al : Int)] rfl rfl (by simp only [List.map_toArray, List.map_cons, List.map_nil]; rfl) ?_; refine (gap_ bs.length al (al : Int) _ rfl (by omega) (by omega) (by omega)).mono ?_; rintro e w1 ⟨rfl, hw1⟩; refine ⟨_, rfl, ?_⟩; subst hw1)
          | (refine step_appz_u8 rfl _ _ rfl base (.slice A bs.length c) bs (gapN bs.length al) rfl rfl ho (Nat.le_of_lt (Nat.lt_of_le_of_lt hbg hk.lt)) (bs.length + gapN bs.length al) rfl (by omega) ?_; intro A2 cc2 w2 hO2 hg2 hat2; have k2 := hk.of_eq (hg2.block g hk.lt (own_ne ho hk)); have c02 := k2.cell 0 _ rfl; have f02 := k2.free 0))
        all_goals
          go_wp2
          go_end0
          exact ⟨rfl, by rw [HE.out.1, HE.out.2]; exact wclose hbg k2 hO2 (by simp) (Fr.of_grown (w := w) ⟨hg2.os, hg2.tape, hg2.output, hg2.size, hg2.block⟩ (fun k hk => .inl (.inr (by rw [← HVB.out]; exact hk)))) (fresh_or HVB.out (Nat.le_refl _) hat2)⟩
  · have he0 : (e != 0) = true := bne_iff_ne.2 he
    have HE := Lib.hid (show padB bs e al = bs ∧ padE e al = e from ⟨if_neg (fun h => he h.1), if_neg (fun h => he h.1)⟩)
    go_enter Try.func49, Try.ntmps49
    go_wp2_with fail
    go_end0
    exact ⟨rfl, vb, by rw [HE.out.1, HE.out.2]; exact hW, FrW.refl _ _ _⟩

def sealB (bs : List UInt8) (e from_ : Int) : List UInt8 := if e = 0 ∧ 0 ≤ from_ ∧ from_ ≤ bs.length then bs ++ leBytes 4 (moreC 0 (bs.drop from_.toNat)).toNat else bs
def sealE (bs : List UInt8) (e from_ : Int) : Int := if e = 0 ∧ ¬ (0 ≤ from_ ∧ from_ ≤ bs.length) then 1 else e
set_option maxHeartbeats 1600000 in
set_option maxRecDepth 100000 in
theorem wSeal (fr : Int) (hW : IsW w base g vb bs e) (hl : bs.length + 8 ≤ 140737488355328) :
    Calls Try.prog 33 #[.pointer (some ⟨g, 0, none⟩), .int .i64 fr] w fun r w' => r = .returned (.tuple #[]) ∧ ∃ vb', IsW w' base g vb' (sealB bs e fr) (sealE bs e fr) ∧ FrW w w' g vb vb' := by
  obtain ⟨A, c, hvb, hbg, hk, ho⟩ := id hW
  have c0 := hk.cell 0 _ rfl
  have c1 := hk.cell 1 _ rfl
  have f1 := hk.free 1
  have hlen : bs.length ≤ c := by
    obtain ⟨A', c', e', hc', _⟩ := ho.rd
    injection e' with _ _ e3
    omega
  by_cases he : e = 0
  · subst he
    by_cases h1 : fr < 0
    · have e1 : decide (fr < 0) = true := decide_eq_true h1
      obtain ⟨hW1, hF1⟩ := hW.set_err 1
      have HE := Lib.hid (show sealB bs 0 fr = bs ∧ sealE bs 0 fr = 1 from ⟨if_neg (by omega), if_pos ⟨rfl, by omega⟩⟩)
      clear hvb
      go_enter Try.func33, Try.ntmps33
      go_wp2_with fail
      go_end0
      exact ⟨rfl, vb, by rw [HE.out.1, HE.out.2]; exact hW1, hF1⟩
    · have e1 : decide (fr < 0) = false := decide_eq_false h1
      by_cases h2 : (bs.length : Int) < fr
      · have e2 : decide ((bs.length : Int) < fr) = true := decide_eq_true h2
        obtain ⟨hW1, hF1⟩ := hW.set_err 1
        have HE := Lib.hid (show sealB bs 0 fr = bs ∧ sealE bs 0 fr = 1 from ⟨if_neg (by omega), if_pos ⟨rfl, by omega⟩⟩)
        clear hvb
        go_enter Try.func33, Try.ntmps33
        go_wp2_with fail
        go_end0
        exact ⟨rfl, vb, by rw [HE.out.1, HE.out.2]; exact hW1, hF1⟩
      · have e2 : decide ((bs.length : Int) < fr) = false := decide_eq_false h2
        obtain ⟨A5, hcut, hrd⟩ := cut_lo A bs.length c fr (by omega) (by omega) hlen
        have hr5 := hrd w bs ho.rd_
        have HE := Lib.hid (show sealB bs 0 fr = bs ++ leBytes 4 (moreC 0 (bs.drop fr.toNat)).toNat ∧ sealE bs 0 fr = 0 from ⟨if_pos ⟨rfl, by omega, by omega⟩, if_neg (by omega)⟩)
        have hlt := (moreC 0 (bs.drop fr.toNat)).toNat_lt
        clear hvb hrd
        go_enter Try.func33, Try.ntmps33
        go_wp2_with fail
        refine (crc_ A5 _ _ (bs.drop fr.toNat) w hr5).mono ?_
        rintro r w1 ⟨rfl, hb1⟩
        go_wp2_with fail
        refine (lay_uint32 base g vb bs 0 _ w1 (by omega) (hW.below hb1) hl).mono ?_
        rintro r w2 ⟨rfl, vb2, hW2, hF2⟩
        rw [okB_ok] at hW2
        go_wp2_with fail
        go_end0
        exact ⟨rfl, vb2, by rw [HE.out.1, HE.out.2]; exact hW2, (FrW.then_below (FrW.refl w g vb) hb1).trans hF2 hW.lt.1⟩
  · have he0 : (e != 0) = true := bne_iff_ne.2 he
    have HE := Lib.hid (show sealB bs e fr = bs ∧ sealE bs e fr = e from ⟨if_neg (fun h => he h.1), if_neg (fun h => he h.1)⟩)
    go_enter Try.func33, Try.ntmps33
    go_wp2_with fail
    go_end0
    exact ⟨rfl, vb, by rw [HE.out.1, HE.out.2]; exact hW, FrW.refl _ _ _⟩
end
end Go.Proofs.Ythdjddpomaendaa.B
