/- The reference's Reader: take, back, End, Number, Bytes. Printed by gen_refr.py. -/
import Derived.Test.YthdjddpomaendaaR6
namespace Go.Proofs.Ythdjddpomaendaa.B
open Go.RowKit
set_option linter.unusedVariables false
set_option linter.unusedSimpArgs false

/-- Bytes that are read for good, whatever is written from base on. -/
def Src (w : World) (base : Nat) (A : Option Addr) (bs : List UInt8) : Prop := ∀ W : World, Below base w W → Rd W A bs.length (bvs bs)
theorem Src.rd {w : World} {base : Nat} {A : Option Addr} {bs : List UInt8} (h : Src w base A bs) : Rd w A bs.length (bvs bs) := h w (Below.refl _ _)
theorem Src.go {w w1 : World} {base : Nat} {A : Option Addr} {bs : List UInt8} (h : Src w base A bs) (hb : Below base w w1) : Src w1 base A bs := fun W hW => h W (hb.trans hW)
/-- The reference's Reader at block g: its bytes' slice, its bytes, its place, its refusal. -/
structure IsU (w : World) (base g : Nat) (A : Option Addr) (c : Nat) (bs : List UInt8) (at_ : Nat) (e : Int) : Prop where
  hg : base ≤ g
  hat : at_ ≤ bs.length
  hlen : bs.length ≤ 140737488355328
  cap : bs.length ≤ c ∧ c ≤ 9223372036854775807
  blk : Blk w g [.slice A bs.length c, .int .i64 (at_ : Int), .int .i64 e] 117
  src : Src w base A bs
section
variable {w w1 : World} {base g : Nat} {A : Option Addr} {c : Nat} {bs : List UInt8} {at_ : Nat} {e : Int} {S : Nat → Prop}
theorem IsU.lt (h : IsU w base g A c bs at_ e) : g < w.heap.size := h.blk.lt
theorem IsU.fr (h : IsU w base g A c bs at_ e) (hf : Fr S w w1) (hg : ¬ S g) (hb : ∀ k, S k → base ≤ k) : IsU w1 base g A c bs at_ e :=
  ⟨h.hg, h.hat, h.hlen, h.cap, h.blk.fr hf hg, h.src.go (hf.below hb (by have := h.hg; have := h.lt; omega))⟩
theorem IsU.below (h : IsU w base g A c bs at_ e) (hb : Below w.heap.size w w1) : IsU w1 base g A c bs at_ e := h.fr (Fr.of_below hb (fun _ => False)) (fun h => h) (fun _ h => h.elim)
theorem IsU.set_at (h : IsU w base g A c bs at_ e) (a' : Nat) (ha : a' ≤ bs.length) : IsU (w.setCell ⟨g, 1, none⟩ (.int .i64 (a' : Int))) base g A c bs a' e ∧ Fr (fun k => k = g) w (w.setCell ⟨g, 1, none⟩ (.int .i64 (a' : Int))) := by
  have hf : Fr (fun k => k = g) w (w.setCell ⟨g, 1, none⟩ (.int .i64 (a' : Int))) := Fr.setCell (p := ⟨g, 1, none⟩) (Fr.refl (fun k => k = g) w) (.inl rfl) _
  exact ⟨⟨h.hg, ha, h.hlen, h.cap, h.blk.set 1 _, h.src.go (hf.below (fun k hk => by rw [hk]; exact h.hg) (by have := h.hg; have := h.lt; omega))⟩, hf⟩
theorem IsU.set_err (h : IsU w base g A c bs at_ e) (e' : Int) : IsU (w.setCell ⟨g, 2, none⟩ (.int .i64 e')) base g A c bs at_ e' ∧ Fr (fun k => k = g) w (w.setCell ⟨g, 2, none⟩ (.int .i64 e')) := by
  have hf : Fr (fun k => k = g) w (w.setCell ⟨g, 2, none⟩ (.int .i64 e')) := Fr.setCell (p := ⟨g, 2, none⟩) (Fr.refl (fun k => k = g) w) (.inl rfl) _
  exact ⟨⟨h.hg, h.hat, h.hlen, h.cap, h.blk.set 2 _, h.src.go (hf.below (fun k hk => by rw [hk]; exact h.hg) (by have := h.hg; have := h.lt; omega))⟩, hf⟩
theorem IsU.eq_ {at2 : Nat} {e2 : Int} (h : IsU w base g A c bs at_ e) (h1 : at_ = at2) (h2 : e = e2) : IsU w base g A c bs at2 e2 := h1 ▸ h2 ▸ h
end

/-! ### take, back, End -/
section
variable (base g : Nat) (A : Option Addr) (c : Nat) (bs : List UInt8) (at_ : Nat) (e : Int) (w : World) (hU : IsU w base g A c bs at_ e)
include hU
set_option maxHeartbeats 1600000 in
set_option maxRecDepth 100000 in
theorem utake_no (n : Nat) (x : Int) (hx : x = (n : Int)) (hn : n ≤ 9223372036854775807) (hno : e ≠ 0 ∨ bs.length < at_ + n) :
    Calls Try.prog 130 #[.pointer (some ⟨g, 0, none⟩), .int .i64 x] w fun r w' => r = .returned (.slice none 0 0) ∧ IsU w' base g A c bs at_ (if e = 0 then 10 else e) ∧ Fr (fun k => k = g) w w' := by
  subst hx
  have c0 := hU.blk.cell 0 _ rfl
  have c1 := hU.blk.cell 1 _ rfl
  have c2 := hU.blk.cell 2 _ rfl
  have f2 := hU.blk.free 2
  have ha := hU.hat
  have hl := hU.hlen
  by_cases he : e = 0
  · subst he
    rw [if_pos rfl]
    have hlt : (bs.length : Int) - (at_ : Int) < (n : Int) := by omega
    have t1 : decide ((bs.length : Int) - (at_ : Int) < (n : Int)) = true := decide_eq_true hlt
    obtain ⟨hR1, hF1⟩ := hU.set_err 10
    go_enter Try.func130, Try.ntmps130
    go_wp2_with fail
    go_quiet (fail)
    go_wp2_with fail
    go_ret
    have h := (hU.below (below_drewN (Below.refl _ w) nq)).set_err 10
    exact ⟨rfl, h.1, (Fr.of_below (below_drewN (Below.refl _ w) nq) _).trans_g h.2⟩
  · rw [if_neg he]
    have t1 : (e == 0) = false := beq_eq_false_iff_ne.2 he
    have t2 : (e != 0) = true := bne_iff_ne.2 he
    go_enter Try.func130, Try.ntmps130
    go_wp2_with fail
    go_quiet (fail)
    go_wp2_with fail
    go_ret
    exact ⟨rfl, hU.below (below_drewN (Below.refl _ w) nq), Fr.of_below (below_drewN (Below.refl _ w) nq) _⟩
set_option maxHeartbeats 1600000 in
set_option maxRecDepth 100000 in
theorem uback (a0 : Nat) (ha0 : a0 ≤ bs.length) :
    Calls Try.prog 131 #[.pointer (some ⟨g, 0, none⟩), .int .i64 (a0 : Int)] w fun r w' => r = .returned (.tuple #[]) ∧ IsU w' base g A c bs (if e = 0 then at_ else a0) e ∧ Fr (fun k => k = g) w w' := by
  have c1 := hU.blk.cell 1 _ rfl
  have c2 := hU.blk.cell 2 _ rfl
  have f1 := hU.blk.free 1
  by_cases he : e = 0
  · subst he
    rw [if_pos rfl]
    go_enter Try.func131, Try.ntmps131
    go_wp2_with fail
    go_end0
    exact ⟨rfl, hU, Fr.refl _ _⟩
  · rw [if_neg he]
    have t1 : (e == 0) = false := beq_eq_false_iff_ne.2 he
    have t2 : (e != 0) = true := bne_iff_ne.2 he
    have h := hU.set_at a0 ha0
    go_enter Try.func131, Try.ntmps131
    go_wp2_with fail
    go_end0
    exact ⟨rfl, h.1, h.2⟩
set_option maxHeartbeats 1600000 in
set_option maxRecDepth 100000 in
theorem uEnd : Calls Try.prog 89 #[.pointer (some ⟨g, 0, none⟩)] w fun r w' => r = .returned (.int .i64 (endE bs.length at_ e)) ∧ Drawn w w' := by
  have c0 := hU.blk.cell 0 _ rfl
  have c1 := hU.blk.cell 1 _ rfl
  have c2 := hU.blk.cell 2 _ rfl
  by_cases he : e = 0
  · subst he
    by_cases hlt : at_ < bs.length
    · have t1 : decide (at_ < bs.length) = true := decide_eq_true hlt
      have t2 : decide ((at_ : Int) < (bs.length : Int)) = true := decide_eq_true (by omega)
      have HE := Lib.hid (show endE bs.length at_ 0 = 12 from if_pos ⟨rfl, hlt⟩)
      go_enter Try.func89, Try.ntmps89
      go_wp2_with fail
      go_quiet (fail)
      go_wp2_with fail
      go_ret
      exact ⟨ret_int HE.out.symm, by repeat (first | exact Drawn.refl _ | apply Drawn.step)⟩
    · have t1 : decide (at_ < bs.length) = false := decide_eq_false hlt
      have t2 : decide ((at_ : Int) < (bs.length : Int)) = false := decide_eq_false (by omega)
      have HE := Lib.hid (show endE bs.length at_ 0 = 0 from if_neg (by omega))
      go_enter Try.func89, Try.ntmps89
      go_wp2_with fail
      go_quiet (fail)
      go_wp2_with fail
      go_ret
      exact ⟨ret_int HE.out.symm, by repeat (first | exact Drawn.refl _ | apply Drawn.step)⟩
  · have t1 : (e == 0) = false := beq_eq_false_iff_ne.2 he
    have HE := Lib.hid (show endE bs.length at_ e = e from if_neg (fun h => he h.1))
    go_enter Try.func89, Try.ntmps89
    go_wp2_with fail
    go_quiet (fail)
    go_wp2_with fail
    go_ret
    exact ⟨ret_int HE.out.symm, by repeat (first | exact Drawn.refl _ | apply Drawn.step)⟩
end
section
variable (base g : Nat) (A : Option Addr) (c : Nat) (bs : List UInt8) (at_ : Nat) (w : World) (hU : IsU w base g A c bs at_ 0)
include hU
set_option maxHeartbeats 1600000 in
set_option maxRecDepth 100000 in
theorem utake_ok (n : Nat) (x : Int) (hx : x = (n : Int)) (hok : at_ + n ≤ bs.length) :
    Calls Try.prog 130 #[.pointer (some ⟨g, 0, none⟩), .int .i64 x] w fun r w' => ∃ A' c', r = .returned (.slice A' n c') ∧ n ≤ c' ∧ Src w' base A' ((bs.drop at_).take n) ∧ IsU w' base g A c bs (at_ + n) 0 ∧ Fr (fun k => k = g) w w' := by
  subst hx
  have c0 := hU.blk.cell 0 _ rfl
  have c1 := hU.blk.cell 1 _ rfl
  have c2 := hU.blk.cell 2 _ rfl
  have f1 := hU.blk.free 1
  have ha := hU.hat
  have hl := hU.hlen
  obtain ⟨hc1, hc2⟩ := hU.cap
  obtain ⟨A', hcut, hrd⟩ := cut_lohi A bs.length c at_ n (at_ : Int) ((at_ : Int) + (n : Int)) rfl (by omega) hok hc1 hc2
  have HRD := Lib.hid hrd
  clear hrd
  have u1 : IntKind.i64.wrap ((at_ : Int) + (n : Int) - (n : Int)) = (at_ : Int) := by rw [IntKind.wrap_i64]; omega
  have t1 : decide ((bs.length : Int) - (at_ : Int) < (n : Int)) = false := decide_eq_false (by omega)
  go_enter Try.func130, Try.ntmps130
  go_wp2_with fail
  go_quiet (fail)
  obtain ⟨n1, rfl⟩ : ∃ n1, n1 = nq := ⟨_, rfl⟩
  go_wp2_with fail
  have h := (hU.below (below_drewN (Below.refl _ w) n1)).set_at (at_ + n) hok
  have hf := (Fr.of_below (below_drewN (Below.refl _ w) n1) _).trans_g h.2
  have e0 := h.1.blk.cell 0 _ rfl
  have e1 := h.1.blk.cell 1 _ rfl
  have ek : (((at_ + n : Nat) : Int)) = (at_ : Int) + (n : Int) := by omega
  rw [ek] at e0 e1 h hf
  have H := Lib.hid (And.intro h.1 hf)
  clear h hf ek c0 c1 c2 f1
  go_quiet (fail)
  go_wp2_with fail
  go_ret
  have hb := below_drewN (Below.refl base ((w.drewN n1).setCell ⟨g, 1, none⟩ (.int .i64 ((at_ : Int) + (n : Int))))) nq
  have hlen : ((bs.drop at_).take n).length = n := by simp; omega
  refine ⟨A', _, rfl, by omega, fun W hW => ?_, H.out.1.below (below_drewN (Below.refl _ _) _), H.out.2.then_b (below_drewN (Below.refl _ _) _)⟩
  rw [hlen]
  exact HRD.out W bs (H.out.1.src W (hb.trans hW))
end
theorem Src.nil (w : World) (base : Nat) (A : Option Addr) : Src w base A [] := fun W _ => Rd.nil W A

/-! ### Number -/
set_option maxHeartbeats 3200000 in
set_option maxRecDepth 100000 in
theorem refNum1 (A : Option Addr) (c : Nat) (b0 : UInt8) (w : World) (hr : Rd w A 1 (bvs [b0])) :
    Calls Try.prog 129 #[.slice A 1 c, .int .i64 1] w fun r w' => r = .returned (.tuple #[.int .u64 ((leNum [b0] : Nat) : Int), .bool true]) ∧ w' = w := by
  obtain ⟨ad, rfl, h0⟩ := hr.split 0 b0 rfl
  replace h0 : w.cell? ad = some (.int .u8 (b0.toNat : Int)) := h0
  have u0 := b0.toNat_lt
  have HL := Lib.hid (show ((leNum [b0] : Nat) : Int) = (b0.toNat : Int) by simp only [leNum]; omega)
  clear hr
  go_enter Try.func129, Try.ntmps129
  go_wp2_with fail
  refine wp_loop_rounds 2 ?_
  rw [rounds_succ]
  go_wp2_with fail
  rw [rounds_succ]
  go_wp2_with fail
  go_ret2
  exact ⟨ret_pair (by rw [HL.out]), rfl⟩
set_option maxHeartbeats 3200000 in
set_option maxRecDepth 100000 in
theorem refNum2 (A : Option Addr) (c : Nat) (b0 b1 : UInt8) (w : World) (hr : Rd w A 2 (bvs [b0, b1])) :
    Calls Try.prog 129 #[.slice A 2 c, .int .i64 2] w fun r w' => r = .returned (.tuple #[.int .u64 ((leNum [b0, b1] : Nat) : Int), .bool true]) ∧ w' = w := by
  obtain ⟨ad, rfl, h0⟩ := hr.split 0 b0 rfl
  replace h0 : w.cell? ad = some (.int .u8 (b0.toNat : Int)) := h0
  obtain ⟨ad1, e1, h1⟩ := hr.split 1 b1 rfl
  injection e1 with e1
  subst e1
  replace h1 : w.cell? ⟨ad.block, ad.off + 1, none⟩ = some (.int .u8 (b1.toNat : Int)) := h1
  have u0 := b0.toNat_lt
  have u1 := b1.toNat_lt
  have HL := Lib.hid (show ((leNum [b0, b1] : Nat) : Int) = ((b1.toNat : Int) * 256 + (b0.toNat : Int)) by simp only [leNum]; omega)
  clear hr
  go_enter Try.func129, Try.ntmps129
  go_wp2_with fail
  refine wp_loop_rounds 3 ?_
  rw [rounds_succ]
  go_wp2_with fail
  rw [rounds_succ]
  go_wp2_with fail
  rw [rounds_succ]
  go_wp2_with fail
  go_ret2
  exact ⟨ret_pair (by rw [HL.out]), rfl⟩
set_option maxHeartbeats 3200000 in
set_option maxRecDepth 100000 in
theorem refNum4 (A : Option Addr) (c : Nat) (b0 b1 b2 b3 : UInt8) (w : World) (hr : Rd w A 4 (bvs [b0, b1, b2, b3])) :
    Calls Try.prog 129 #[.slice A 4 c, .int .i64 4] w fun r w' => r = .returned (.tuple #[.int .u64 ((leNum [b0, b1, b2, b3] : Nat) : Int), .bool true]) ∧ w' = w := by
  obtain ⟨ad, rfl, h0⟩ := hr.split 0 b0 rfl
  replace h0 : w.cell? ad = some (.int .u8 (b0.toNat : Int)) := h0
  obtain ⟨ad1, e1, h1⟩ := hr.split 1 b1 rfl
  injection e1 with e1
  subst e1
  replace h1 : w.cell? ⟨ad.block, ad.off + 1, none⟩ = some (.int .u8 (b1.toNat : Int)) := h1
  obtain ⟨ad2, e2, h2⟩ := hr.split 2 b2 rfl
  injection e2 with e2
  subst e2
  replace h2 : w.cell? ⟨ad.block, ad.off + 2, none⟩ = some (.int .u8 (b2.toNat : Int)) := h2
  obtain ⟨ad3, e3, h3⟩ := hr.split 3 b3 rfl
  injection e3 with e3
  subst e3
  replace h3 : w.cell? ⟨ad.block, ad.off + 3, none⟩ = some (.int .u8 (b3.toNat : Int)) := h3
  have u0 := b0.toNat_lt
  have u1 := b1.toNat_lt
  have u2 := b2.toNat_lt
  have u3 := b3.toNat_lt
  have HL := Lib.hid (show ((leNum [b0, b1, b2, b3] : Nat) : Int) = ((((b3.toNat : Int) * 256 + (b2.toNat : Int)) * 256 + (b1.toNat : Int)) * 256 + (b0.toNat : Int)) by simp only [leNum]; omega)
  clear hr
  go_enter Try.func129, Try.ntmps129
  go_wp2_with fail
  refine wp_loop_rounds 5 ?_
  rw [rounds_succ]
  go_wp2_with fail
  rw [rounds_succ]
  go_wp2_with fail
  rw [rounds_succ]
  go_wp2_with fail
  rw [rounds_succ]
  go_wp2_with fail
  rw [rounds_succ]
  go_wp2_with fail
  go_ret2
  exact ⟨ret_pair (by rw [HL.out]), rfl⟩
set_option maxHeartbeats 3200000 in
set_option maxRecDepth 100000 in
theorem refNum8 (A : Option Addr) (c : Nat) (b0 b1 b2 b3 b4 b5 b6 b7 : UInt8) (w : World) (hr : Rd w A 8 (bvs [b0, b1, b2, b3, b4, b5, b6, b7])) :
    Calls Try.prog 129 #[.slice A 8 c, .int .i64 8] w fun r w' => r = .returned (.tuple #[.int .u64 ((leNum [b0, b1, b2, b3, b4, b5, b6, b7] : Nat) : Int), .bool true]) ∧ w' = w := by
  obtain ⟨ad, rfl, h0⟩ := hr.split 0 b0 rfl
  replace h0 : w.cell? ad = some (.int .u8 (b0.toNat : Int)) := h0
  obtain ⟨ad1, e1, h1⟩ := hr.split 1 b1 rfl
  injection e1 with e1
  subst e1
  replace h1 : w.cell? ⟨ad.block, ad.off + 1, none⟩ = some (.int .u8 (b1.toNat : Int)) := h1
  obtain ⟨ad2, e2, h2⟩ := hr.split 2 b2 rfl
  injection e2 with e2
  subst e2
  replace h2 : w.cell? ⟨ad.block, ad.off + 2, none⟩ = some (.int .u8 (b2.toNat : Int)) := h2
  obtain ⟨ad3, e3, h3⟩ := hr.split 3 b3 rfl
  injection e3 with e3
  subst e3
  replace h3 : w.cell? ⟨ad.block, ad.off + 3, none⟩ = some (.int .u8 (b3.toNat : Int)) := h3
  obtain ⟨ad4, e4, h4⟩ := hr.split 4 b4 rfl
  injection e4 with e4
  subst e4
  replace h4 : w.cell? ⟨ad.block, ad.off + 4, none⟩ = some (.int .u8 (b4.toNat : Int)) := h4
  obtain ⟨ad5, e5, h5⟩ := hr.split 5 b5 rfl
  injection e5 with e5
  subst e5
  replace h5 : w.cell? ⟨ad.block, ad.off + 5, none⟩ = some (.int .u8 (b5.toNat : Int)) := h5
  obtain ⟨ad6, e6, h6⟩ := hr.split 6 b6 rfl
  injection e6 with e6
  subst e6
  replace h6 : w.cell? ⟨ad.block, ad.off + 6, none⟩ = some (.int .u8 (b6.toNat : Int)) := h6
  obtain ⟨ad7, e7, h7⟩ := hr.split 7 b7 rfl
  injection e7 with e7
  subst e7
  replace h7 : w.cell? ⟨ad.block, ad.off + 7, none⟩ = some (.int .u8 (b7.toNat : Int)) := h7
  have u0 := b0.toNat_lt
  have u1 := b1.toNat_lt
  have u2 := b2.toNat_lt
  have u3 := b3.toNat_lt
  have u4 := b4.toNat_lt
  have u5 := b5.toNat_lt
  have u6 := b6.toNat_lt
  have u7 := b7.toNat_lt
  have HL := Lib.hid (show ((leNum [b0, b1, b2, b3, b4, b5, b6, b7] : Nat) : Int) = ((((((((b7.toNat : Int) * 256 + (b6.toNat : Int)) * 256 + (b5.toNat : Int)) * 256 + (b4.toNat : Int)) * 256 + (b3.toNat : Int)) * 256 + (b2.toNat : Int)) * 256 + (b1.toNat : Int)) * 256 + (b0.toNat : Int)) by simp only [leNum]; omega)
  clear hr
  go_enter Try.func129, Try.ntmps129
  go_wp2_with fail
  refine wp_loop_rounds 9 ?_
  rw [rounds_succ]
  go_wp2_with fail
  rw [rounds_succ]
  go_wp2_with fail
  rw [rounds_succ]
  go_wp2_with fail
  rw [rounds_succ]
  go_wp2_with fail
  rw [rounds_succ]
  go_wp2_with fail
  rw [rounds_succ]
  go_wp2_with fail
  rw [rounds_succ]
  go_wp2_with fail
  rw [rounds_succ]
  go_wp2_with fail
  rw [rounds_succ]
  go_wp2_with fail
  go_ret2
  exact ⟨ret_pair (by rw [HL.out]), rfl⟩
end Go.Proofs.Ythdjddpomaendaa.B
