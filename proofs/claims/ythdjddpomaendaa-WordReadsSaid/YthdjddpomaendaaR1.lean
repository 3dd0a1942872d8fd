/- The Reader. -/
import Derived.Test.YthdjddpomaendaaW1
import Derived.Test.YthdjddpomaendaaB4
namespace Go.Proofs.Ythdjddpomaendaa.B
open Go.RowKit
set_option linter.unusedVariables false
set_option linter.unusedSimpArgs false

/-- 's[l:h]' of a slice of bytes. -/
theorem cut_lohi (A : Option Addr) (n c l k : Nat) (x y : Int) (hx : x = (l : Int)) (hy : y = ((l + k : Nat) : Int)) (hm : l + k ≤ n) (hc : n ≤ c) (hmx : c ≤ 9223372036854775807) :
    ∃ A' : Option Addr, (∀ W : World, (Instr.slice 22 (.slice A n c) (some (.int .i64 x)) (some (.int .i64 y)) none).run Try.prog W = .ok (.slice A' k (c - l)) W) ∧
      ∀ (w : World) (xs : List UInt8), Rd w A n (bvs xs) → Rd w A' k (bvs ((xs.drop l).take k)) := by
  subst hx hy
  obtain ⟨i0, hi, hzz⟩ := Option.map_eq_some_iff.1 info5
  simp only [Prod.mk.injEq] at hzz
  obtain ⟨hz0, hz1, hz2⟩ := hzz
  refine ⟨if c = l then A else A.map (·.add l), fun W => ?_, fun w xs h => ?_⟩
  · have ht := Try.underlying22
    have hel : Try.prog.elem 22 = 5 := by simp [Program.elem, ht]
    have hu : Try.prog.underlying 22 = some (.slice (Try.prog.elem 22)) := by rw [hel]; exact ht
    rw [run_slice_lh W 22 A n c hu .i64 .i64 (l : Int) ((l + k : Nat) : Int) (Int.natCast_nonneg _) (by omega) (by omega), hel]
    simp [sizeOf, typeInfo, hi, hz1, sliced, Result.andThen]
    omega
  · have hd := h.drop l (by omega) hc
    rw [bvs_take, bvs_drop]
    exact hd.take k (by omega)

/-- A Reader at block g: its bytes' slice, its bytes, its place, its refusal. -/
structure IsR (w : World) (base g : Nat) (A : Option Addr) (c : Nat) (bs : List UInt8) (at_ : Nat) (e : Int) : Prop where
  hg : base ≤ g
  hat : at_ ≤ bs.length
  hlen : bs.length ≤ 140737488355328
  blk : Blk w g [.slice A bs.length c, .int .i64 (at_ : Int), .int .i64 e] 112
  own : Own w base (.slice A bs.length c) bs
def rOwn (A : Option Addr) (c : Nat) : Option Nat := (Value.slice A 0 c).ownBlock
theorem rOwn_eq (A : Option Addr) (n c : Nat) : (Value.slice A n c).ownBlock = rOwn A c := by cases A <;> rfl
section
variable {w w1 : World} {base g : Nat} {A : Option Addr} {c : Nat} {bs : List UInt8} {at_ : Nat} {e : Int} {S : Nat → Prop}
theorem IsR.fr (h : IsR w base g A c bs at_ e) (hf : Fr S w w1) (hg : ¬ S g) (hv : ∀ k, rOwn A c = some k → ¬ S k) : IsR w1 base g A c bs at_ e :=
  ⟨h.hg, h.hat, h.hlen, h.blk.fr hf hg, h.own.fr hf (fun k hk => hv k (by rw [← rOwn_eq A bs.length c]; exact hk))⟩
theorem IsR.lt (h : IsR w base g A c bs at_ e) : g < w.heap.size := h.blk.lt
theorem IsR.own_lt (h : IsR w base g A c bs at_ e) : ∀ k, rOwn A c = some k → base ≤ k ∧ k < w.heap.size := fun k hk => h.own.base_le k (by rw [rOwn_eq]; exact hk)
theorem IsR.below (h : IsR w base g A c bs at_ e) (hb : Below w.heap.size w w1) : IsR w1 base g A c bs at_ e := h.fr (Fr.of_below hb (fun _ => False)) (fun h => h) (fun _ _ h => h)
theorem IsR.own_ne (h : IsR w base g A c bs at_ e) : ∀ k, rOwn A c = some k → k ≠ g := fun k hk e => B.own_ne h.own h.blk (by decide) (by rw [rOwn_eq, hk, e])
theorem IsR.cap (h : IsR w base g A c bs at_ e) : bs.length ≤ c ∧ c ≤ 9223372036854775807 := by
  rcases h.own.2 with ⟨h1, h2⟩ | ⟨g', cap, cur, h1, _, _, h2, h3, _⟩
  · injection h1 with _ _ h1
    omega
  · injection h1 with _ _ h1
    simp only [maxLen] at h3
    omega
/-- The place and the refusal, written. -/
theorem IsR.set_at (h : IsR w base g A c bs at_ e) (a' : Nat) (ha : a' ≤ bs.length) : IsR (w.setCell ⟨g, 1, none⟩ (.int .i64 (a' : Int))) base g A c bs a' e ∧ Fr (fun k => k = g) w (w.setCell ⟨g, 1, none⟩ (.int .i64 (a' : Int))) := by
  have hf : Fr (fun k => k = g) w (w.setCell ⟨g, 1, none⟩ (.int .i64 (a' : Int))) := Fr.setCell (p := ⟨g, 1, none⟩) (Fr.refl (fun k => k = g) w) (.inl rfl) _
  exact ⟨⟨h.hg, ha, h.hlen, h.blk.set 1 _, h.own.fr hf (fun k hk e => h.own_ne k (by rw [← rOwn_eq A bs.length c]; exact hk) e)⟩, hf⟩
theorem IsR.set_err (h : IsR w base g A c bs at_ e) (e' : Int) : IsR (w.setCell ⟨g, 2, none⟩ (.int .i64 e')) base g A c bs at_ e' ∧ Fr (fun k => k = g) w (w.setCell ⟨g, 2, none⟩ (.int .i64 e')) := by
  have hf : Fr (fun k => k = g) w (w.setCell ⟨g, 2, none⟩ (.int .i64 e')) := Fr.setCell (p := ⟨g, 2, none⟩) (Fr.refl (fun k => k = g) w) (.inl rfl) _
  exact ⟨⟨h.hg, h.hat, h.hlen, h.blk.set 2 _, h.own.fr hf (fun k hk e => h.own_ne k (by rw [← rOwn_eq A bs.length c]; exact hk) e)⟩, hf⟩
theorem Fr.trans_g (h : Fr (fun k => k = g) w w1) {w2 : World} (k : Fr (fun k => k = g) w1 w2) : Fr (fun k => k = g) w w2 := h.trans k (fun _ h => .inl h)
theorem Fr.then_b (h : Fr S w w1) {w2 : World} (hb : Below w1.heap.size w1 w2) : Fr S w w2 := h.trans (Fr.of_below hb (fun _ => False)) (fun _ h => h.elim)
theorem Fr.of_drawn (h : Drawn w w1) : Fr S w w1 := Fr.of_below (h.below _) S
end

set_option maxHeartbeats 800000 in
set_option maxRecDepth 100000 in
theorem newReader (A : Option Addr) (n c : Nat) (bs : List UInt8) (w : World) (hr : Rd w A n (bvs bs)) (hn : n ≤ 140737488355328) :
    Calls Try.prog 36 #[.slice A n c] w fun r w' => ∃ g A' c', r = .returned (.pointer (some ⟨g, 0, none⟩)) ∧ IsR w' w.heap.size g A' c' bs 0 0 ∧ Below w.heap.size w w' := by
  have hl := hr.len
  go_enter Try.func36, Try.ntmps36
  go_wp2_with fail
  refine (clone_ A n c bs w hr hn).mono ?_
  rintro r w1 ⟨A', c', rfl, hO, hb⟩
  have HL := Lib.hid hl
  clear hl
  go_wp2_with fail
  go_ret
  refine ⟨_, A', c', rfl, ⟨hb.size, Nat.zero_le _, by rw [HL.out]; exact hn, ?_, ?_⟩, hb.alloc hb.size _⟩
  · rw [HL.out]; exact Blk.new w1 [.slice A' n c', .int .i64 0, .int .i64 0] _
  · rw [HL.out]; exact hO.below (below_alloc (Below.refl _ _) _)

section
variable (base g : Nat) (A : Option Addr) (c : Nat) (bs : List UInt8) (at_ : Nat) (e : Int) (w : World) (hR : IsR w base g A c bs at_ e)
include hR
set_option maxHeartbeats 800000 in
set_option maxRecDepth 100000 in
theorem rAt : Calls Try.prog 42 #[.pointer (some ⟨g, 0, none⟩)] w fun r w' => r = .returned (.int .i64 (at_ : Int)) ∧ w' = w := by
  have c1 := hR.blk.cell 1 _ rfl
  go_enter Try.func42, Try.ntmps42
  go_wp2
  go_ret
  exact ⟨rfl, rfl⟩
set_option maxHeartbeats 800000 in
set_option maxRecDepth 100000 in
theorem rErr : Calls Try.prog 41 #[.pointer (some ⟨g, 0, none⟩)] w fun r w' => r = .returned (.int .i64 e) ∧ w' = w := by
  have c1 := hR.blk.cell 2 _ rfl
  go_enter Try.func41, Try.ntmps41
  go_wp2
  go_ret
  exact ⟨rfl, rfl⟩
set_option maxHeartbeats 800000 in
set_option maxRecDepth 100000 in
theorem rLeft : Calls Try.prog 53 #[.pointer (some ⟨g, 0, none⟩)] w fun r w' => r = .returned (.int .i64 ((bs.length - at_ : Nat) : Int)) ∧ Drawn w w' := by
  have c0 := hR.blk.cell 0 _ rfl
  have c1 := hR.blk.cell 1 _ rfl
  have ha := hR.hat
  have hl := hR.hlen
  go_enter Try.func53, Try.ntmps53
  go_wp2
  go_quiet (fail)
  go_wp2
  go_ret
  exact ⟨ret_int (by omega), by repeat (first | exact Drawn.refl _ | apply Drawn.step)⟩
/-- Behind all: ErrTail, if bytes are left. -/
def endE (n at_ : Nat) (e : Int) : Int := if e = 0 ∧ at_ < n then 12 else e
set_option maxHeartbeats 800000 in
set_option maxRecDepth 100000 in
theorem rEnd : Calls Try.prog 40 #[.pointer (some ⟨g, 0, none⟩)] w fun r w' => r = .returned (.int .i64 (endE bs.length at_ e)) ∧ Drawn w w' := by
  have c2 := hR.blk.cell 2 _ rfl
  by_cases he : e = 0
  · subst he
    by_cases hlt : at_ < bs.length
    · have t1 : decide (0 < bs.length - at_) = true := decide_eq_true (by omega)
      have HE := Lib.hid (show endE bs.length at_ 0 = 12 from if_pos ⟨rfl, hlt⟩)
      generalize hq : bs.length - at_ = q at *
      have HQ := Lib.hid hq; clear hq
      go_enter Try.func40, Try.ntmps40
      go_wp2_with fail
      refine (rLeft base g A c bs at_ 0 w hR).mono ?_
      rintro r w' ⟨rfl, ⟨nd, rfl⟩⟩
      rw [HQ.out]
      go_wp2_with fail
      go_ret
      exact ⟨ret_int HE.out.symm, by repeat (first | exact Drawn.refl _ | apply Drawn.step)⟩
    · have t1 : decide (0 < bs.length - at_) = false := decide_eq_false (by omega)
      have HE := Lib.hid (show endE bs.length at_ 0 = 0 from if_neg (by omega))
      generalize hq : bs.length - at_ = q at *
      have HQ := Lib.hid hq; clear hq
      go_enter Try.func40, Try.ntmps40
      go_wp2_with fail
      refine (rLeft base g A c bs at_ 0 w hR).mono ?_
      rintro r w' ⟨rfl, ⟨nd, rfl⟩⟩
      rw [HQ.out]
      go_wp2_with fail
      go_ret
      exact ⟨ret_int HE.out.symm, by repeat (first | exact Drawn.refl _ | apply Drawn.step)⟩
  · have t1 : (e == 0) = false := beq_eq_false_iff_ne.2 he
    have HE := Lib.hid (show endE bs.length at_ e = e from if_neg (fun h => he h.1))
    go_enter Try.func40, Try.ntmps40
    go_wp2_with fail
    go_ret
    exact ⟨ret_int HE.out.symm, by repeat (first | exact Drawn.refl _ | apply Drawn.step)⟩
end

/-! ### next: bytes that lie ahead -/
section
variable (base g : Nat) (A : Option Addr) (c : Nat) (bs : List UInt8) (at_ : Nat) (e : Int) (w : World) (hR : IsR w base g A c bs at_ e)
include hR
set_option maxHeartbeats 1600000 in
set_option maxRecDepth 100000 in
/-- Refused before, or not so many bytes there. -/
theorem next_no (k n : Nat) (x y : Int) (hx : x = (k : Int)) (hy : y = (n : Int)) (hk : k ≤ 2) (hn : n ≤ 9223372036854775807) (hno : e ≠ 0 ∨ bs.length < at_ + k + n) :
    Calls Try.prog 86 #[.pointer (some ⟨g, 0, none⟩), .int .i64 x, .int .i64 y] w fun r w' => r = .returned (.tuple #[.slice none 0 0, .bool false]) ∧ IsR w' base g A c bs at_ (if e = 0 then 10 else e) ∧ Fr (fun k => k = g) w w' := by
  subst hx hy
  have c0 := hR.blk.cell 0 _ rfl
  have c1 := hR.blk.cell 1 _ rfl
  have c2 := hR.blk.cell 2 _ rfl
  have f2 := hR.blk.free 2
  have ha := hR.hat
  have hl := hR.hlen
  by_cases he : e = 0
  · subst he
    rw [if_pos rfl]
    have hlt : (bs.length : Int) - (at_ : Int) - (k : Int) < (n : Int) := by omega
    have t1 : decide ((bs.length : Int) - (at_ : Int) - (k : Int) < (n : Int)) = true := decide_eq_true hlt
    obtain ⟨hR1, hF1⟩ := hR.set_err 10
    go_enter Try.func86, Try.ntmps86
    go_wp2_with fail
    go_quiet (fail)
    go_wp2_with fail
    go_ret2
    have h := (hR.below (below_drewN (Below.refl _ w) nq)).set_err 10
    exact ⟨rfl, h.1, (Fr.of_below (below_drewN (Below.refl _ w) nq) _).trans_g h.2⟩
  · rw [if_neg he]
    have t1 : (e == 0) = false := beq_eq_false_iff_ne.2 he
    have t2 : (e != 0) = true := bne_iff_ne.2 he
    go_enter Try.func86, Try.ntmps86
    go_wp2_with fail
    go_quiet (fail)
    go_wp2_with fail
    go_ret2
    exact ⟨rfl, hR.below (below_drewN (Below.refl _ w) nq), Fr.of_below (below_drewN (Below.refl _ w) nq) _⟩
end
section
variable (base g : Nat) (A : Option Addr) (c : Nat) (bs : List UInt8) (at_ : Nat) (w : World) (hR : IsR w base g A c bs at_ 0)
include hR
set_option maxHeartbeats 1600000 in
set_option maxRecDepth 100000 in
/-- They are there. -/
theorem next_ok (k n : Nat) (x y : Int) (hx : x = (k : Int)) (hy : y = (n : Int)) (hk : k ≤ 2) (hok : at_ + k + n ≤ bs.length) :
    Calls Try.prog 86 #[.pointer (some ⟨g, 0, none⟩), .int .i64 x, .int .i64 y] w fun r w' => ∃ A' c', r = .returned (.tuple #[.slice A' n c', .bool true]) ∧ n ≤ c' ∧
      (∀ W, Own W base (.slice A bs.length c) bs → Rd W A' n (bvs ((bs.drop (at_ + k)).take n))) ∧ Drawn w w' := by
  subst hx hy
  have c0 := hR.blk.cell 0 _ rfl
  have c1 := hR.blk.cell 1 _ rfl
  have c2 := hR.blk.cell 2 _ rfl
  have ha := hR.hat
  have hl := hR.hlen
  obtain ⟨hc1, hc2⟩ := hR.cap
  obtain ⟨A', hcut, hrd⟩ := cut_lohi A bs.length c (at_ + k) n ((at_ : Int) + (k : Int)) ((at_ : Int) + (k : Int) + (n : Int)) (by omega) (by omega) (by omega) hc1 hc2
  have HRD := Lib.hid hrd
  clear hrd
  have t1 : decide ((bs.length : Int) - (at_ : Int) - (k : Int) < (n : Int)) = false := decide_eq_false (by omega)
  go_enter Try.func86, Try.ntmps86
  go_wp2_with fail
  go_quiet (fail)
  go_wp2_with fail
  go_quiet (fail)
  go_wp2_with fail
  go_ret2
  exact ⟨A', _, rfl, by omega, fun W hO => HRD.out W bs hO.rd_, by repeat (first | exact Drawn.refl _ | apply Drawn.step)⟩
end
end Go.Proofs.Ythdjddpomaendaa.B
