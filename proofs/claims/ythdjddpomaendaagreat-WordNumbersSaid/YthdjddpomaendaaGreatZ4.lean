/- Words for the law's numbers. Printed by gen_numbers.py. -/
import Derived.Test.YthdjddpomaendaaGreatZ3
import Derived.Test.YthdjddpomaendaaGreatK2
import Derived.Test.YthdjddpomaendaaGreatK6
namespace Go.Proofs.YthdjddpomaendaaGreat.B
open Go.RowKit
set_option linter.unusedVariables false
set_option linter.unusedSimpArgs false

set_option maxHeartbeats 3200000 in
set_option maxRecDepth 100000 in
theorem refBytes1 (x : Nat) (w : World) (hx : x < 18446744073709551616) : Calls Tryz.prog 22 #[.int .u64 (x : Int), .int .i64 1] w fun r w' => ∃ A' c', r = .returned (.slice A' 1 c') ∧ Own w' w.heap.size (.slice A' 1 c') (leBytes 1 x) ∧ Below w.heap.size w w' := by
  have hb1 : Below w.heap.size w w := Below.refl _ _
  have hO : Own w w.heap.size (.slice none 0 0) [] := Own.nil _ _
  go_enter Tryz.func22, Tryz.ntmps22
  go_wp2_with fail
  refine wp_loop_rounds 2 ?_
  rw [rounds_succ]
  go_wp2_with ((with_reducible refine at_builtin_ (b := .append) rfl ?_); go_must (refine app1_u8 rfl _ _ rfl w.heap.size _ _ _ ?_ ?_ ?_ ?_ hO hb1.size 1 ?_ ?_ w.heap.size w hb1 (Nat.le_refl _) ?_; rfl; rfl; omega; omega; (first | rfl | (simp; done) | (simp <;> omega)); omega); clear hO hb1; intro A0 c0 w0 hO hb1 _ _)
  rw [rounds_succ]
  go_wp2
  go_ret
  exact ⟨_, _, rfl, Own.eq_ hO (by simp only [leBytes_succ, leBytes_zero, List.append_assoc, List.cons_append, List.nil_append]; simp only [List.cons.injEq, and_true]; (repeat' refine And.intro ?_ ?_) <;> (refine u8_of ?_; omega)), hb1⟩

set_option maxHeartbeats 3200000 in
set_option maxRecDepth 100000 in
theorem refBytes2 (x : Nat) (w : World) (hx : x < 18446744073709551616) : Calls Tryz.prog 22 #[.int .u64 (x : Int), .int .i64 2] w fun r w' => ∃ A' c', r = .returned (.slice A' 2 c') ∧ Own w' w.heap.size (.slice A' 2 c') (leBytes 2 x) ∧ Below w.heap.size w w' := by
  have hb1 : Below w.heap.size w w := Below.refl _ _
  have hO : Own w w.heap.size (.slice none 0 0) [] := Own.nil _ _
  go_enter Tryz.func22, Tryz.ntmps22
  go_wp2_with fail
  refine wp_loop_rounds 3 ?_
  rw [rounds_succ]
  go_wp2_with ((with_reducible refine at_builtin_ (b := .append) rfl ?_); go_must (refine app1_u8 rfl _ _ rfl w.heap.size _ _ _ ?_ ?_ ?_ ?_ hO hb1.size 1 ?_ ?_ w.heap.size w hb1 (Nat.le_refl _) ?_; rfl; rfl; omega; omega; (first | rfl | (simp; done) | (simp <;> omega)); omega); clear hO hb1; intro A0 c0 w0 hO hb1 _ _)
  rw [rounds_succ]
  go_wp2_with ((with_reducible refine at_builtin_ (b := .append) rfl ?_); go_must (refine app1_u8 rfl _ _ rfl w.heap.size _ _ _ ?_ ?_ ?_ ?_ hO hb1.size 2 ?_ ?_ w.heap.size w hb1 (Nat.le_refl _) ?_; rfl; rfl; omega; omega; (first | rfl | (simp; done) | (simp <;> omega)); omega); clear hO hb1; intro A1 c1 w1 hO hb1 _ _)
  rw [rounds_succ]
  go_wp2
  go_ret
  exact ⟨_, _, rfl, Own.eq_ hO (by simp only [leBytes_succ, leBytes_zero, List.append_assoc, List.cons_append, List.nil_append]; simp only [List.cons.injEq, and_true]; (repeat' refine And.intro ?_ ?_) <;> (refine u8_of ?_; omega)), hb1⟩

set_option maxHeartbeats 3200000 in
set_option maxRecDepth 100000 in
theorem refBytes4 (x : Nat) (w : World) (hx : x < 18446744073709551616) : Calls Tryz.prog 22 #[.int .u64 (x : Int), .int .i64 4] w fun r w' => ∃ A' c', r = .returned (.slice A' 4 c') ∧ Own w' w.heap.size (.slice A' 4 c') (leBytes 4 x) ∧ Below w.heap.size w w' := by
  have hb1 : Below w.heap.size w w := Below.refl _ _
  have hO : Own w w.heap.size (.slice none 0 0) [] := Own.nil _ _
  go_enter Tryz.func22, Tryz.ntmps22
  go_wp2_with fail
  refine wp_loop_rounds 5 ?_
  rw [rounds_succ]
  go_wp2_with ((with_reducible refine at_builtin_ (b := .append) rfl ?_); go_must (refine app1_u8 rfl _ _ rfl w.heap.size _ _ _ ?_ ?_ ?_ ?_ hO hb1.size 1 ?_ ?_ w.heap.size w hb1 (Nat.le_refl _) ?_; rfl; rfl; omega; omega; (first | rfl | (simp; done) | (simp <;> omega)); omega); clear hO hb1; intro A0 c0 w0 hO hb1 _ _)
  rw [rounds_succ]
  go_wp2_with ((with_reducible refine at_builtin_ (b := .append) rfl ?_); go_must (refine app1_u8 rfl _ _ rfl w.heap.size _ _ _ ?_ ?_ ?_ ?_ hO hb1.size 2 ?_ ?_ w.heap.size w hb1 (Nat.le_refl _) ?_; rfl; rfl; omega; omega; (first | rfl | (simp; done) | (simp <;> omega)); omega); clear hO hb1; intro A1 c1 w1 hO hb1 _ _)
  rw [rounds_succ]
  go_wp2_with ((with_reducible refine at_builtin_ (b := .append) rfl ?_); go_must (refine app1_u8 rfl _ _ rfl w.heap.size _ _ _ ?_ ?_ ?_ ?_ hO hb1.size 3 ?_ ?_ w.heap.size w hb1 (Nat.le_refl _) ?_; rfl; rfl; omega; omega; (first | rfl | (simp; done) | (simp <;> omega)); omega); clear hO hb1; intro A2 c2 w2 hO hb1 _ _)
  rw [rounds_succ]
  go_wp2_with ((with_reducible refine at_builtin_ (b := .append) rfl ?_); go_must (refine app1_u8 rfl _ _ rfl w.heap.size _ _ _ ?_ ?_ ?_ ?_ hO hb1.size 4 ?_ ?_ w.heap.size w hb1 (Nat.le_refl _) ?_; rfl; rfl; omega; omega; (first | rfl | (simp; done) | (simp <;> omega)); omega); clear hO hb1; intro A3 c3 w3 hO hb1 _ _)
  rw [rounds_succ]
  go_wp2
  go_ret
  exact ⟨_, _, rfl, Own.eq_ hO (by simp only [leBytes_succ, leBytes_zero, List.append_assoc, List.cons_append, List.nil_append]; simp only [List.cons.injEq, and_true]; (repeat' refine And.intro ?_ ?_) <;> (refine u8_of ?_; omega)), hb1⟩

set_option maxHeartbeats 3200000 in
set_option maxRecDepth 100000 in
theorem refBytes8 (x : Nat) (w : World) (hx : x < 18446744073709551616) : Calls Tryz.prog 22 #[.int .u64 (x : Int), .int .i64 8] w fun r w' => ∃ A' c', r = .returned (.slice A' 8 c') ∧ Own w' w.heap.size (.slice A' 8 c') (leBytes 8 x) ∧ Below w.heap.size w w' := by
  have hb1 : Below w.heap.size w w := Below.refl _ _
  have hO : Own w w.heap.size (.slice none 0 0) [] := Own.nil _ _
  go_enter Tryz.func22, Tryz.ntmps22
  go_wp2_with fail
  refine wp_loop_rounds 9 ?_
  rw [rounds_succ]
  go_wp2_with ((with_reducible refine at_builtin_ (b := .append) rfl ?_); go_must (refine app1_u8 rfl _ _ rfl w.heap.size _ _ _ ?_ ?_ ?_ ?_ hO hb1.size 1 ?_ ?_ w.heap.size w hb1 (Nat.le_refl _) ?_; rfl; rfl; omega; omega; (first | rfl | (simp; done) | (simp <;> omega)); omega); clear hO hb1; intro A0 c0 w0 hO hb1 _ _)
  rw [rounds_succ]
  go_wp2_with ((with_reducible refine at_builtin_ (b := .append) rfl ?_); go_must (refine app1_u8 rfl _ _ rfl w.heap.size _ _ _ ?_ ?_ ?_ ?_ hO hb1.size 2 ?_ ?_ w.heap.size w hb1 (Nat.le_refl _) ?_; rfl; rfl; omega; omega; (first | rfl | (simp; done) | (simp <;> omega)); omega); clear hO hb1; intro A1 c1 w1 hO hb1 _ _)
  rw [rounds_succ]
  go_wp2_with ((with_reducible refine at_builtin_ (b := .append) rfl ?_); go_must (refine app1_u8 rfl _ _ rfl w.heap.size _ _ _ ?_ ?_ ?_ ?_ hO hb1.size 3 ?_ ?_ w.heap.size w hb1 (Nat.le_refl _) ?_; rfl; rfl; omega; omega; (first | rfl | (simp; done) | (simp <;> omega)); omega); clear hO hb1; intro A2 c2 w2 hO hb1 _ _)
  rw [rounds_succ]
  go_wp2_with ((with_reducible refine at_builtin_ (b := .append) rfl ?_); go_must (refine app1_u8 rfl _ _ rfl w.heap.size _ _ _ ?_ ?_ ?_ ?_ hO hb1.size 4 ?_ ?_ w.heap.size w hb1 (Nat.le_refl _) ?_; rfl; rfl; omega; omega; (first | rfl | (simp; done) | (simp <;> omega)); omega); clear hO hb1; intro A3 c3 w3 hO hb1 _ _)
  rw [rounds_succ]
  go_wp2_with ((with_reducible refine at_builtin_ (b := .append) rfl ?_); go_must (refine app1_u8 rfl _ _ rfl w.heap.size _ _ _ ?_ ?_ ?_ ?_ hO hb1.size 5 ?_ ?_ w.heap.size w hb1 (Nat.le_refl _) ?_; rfl; rfl; omega; omega; (first | rfl | (simp; done) | (simp <;> omega)); omega); clear hO hb1; intro A4 c4 w4 hO hb1 _ _)
  rw [rounds_succ]
  go_wp2_with ((with_reducible refine at_builtin_ (b := .append) rfl ?_); go_must (refine app1_u8 rfl _ _ rfl w.heap.size _ _ _ ?_ ?_ ?_ ?_ hO hb1.size 6 ?_ ?_ w.heap.size w hb1 (Nat.le_refl _) ?_; rfl; rfl; omega; omega; (first | rfl | (simp; done) | (simp <;> omega)); omega); clear hO hb1; intro A5 c5 w5 hO hb1 _ _)
  rw [rounds_succ]
  go_wp2_with ((with_reducible refine at_builtin_ (b := .append) rfl ?_); go_must (refine app1_u8 rfl _ _ rfl w.heap.size _ _ _ ?_ ?_ ?_ ?_ hO hb1.size 7 ?_ ?_ w.heap.size w hb1 (Nat.le_refl _) ?_; rfl; rfl; omega; omega; (first | rfl | (simp; done) | (simp <;> omega)); omega); clear hO hb1; intro A6 c6 w6 hO hb1 _ _)
  rw [rounds_succ]
  go_wp2_with ((with_reducible refine at_builtin_ (b := .append) rfl ?_); go_must (refine app1_u8 rfl _ _ rfl w.heap.size _ _ _ ?_ ?_ ?_ ?_ hO hb1.size 8 ?_ ?_ w.heap.size w hb1 (Nat.le_refl _) ?_; rfl; rfl; omega; omega; (first | rfl | (simp; done) | (simp <;> omega)); omega); clear hO hb1; intro A7 c7 w7 hO hb1 _ _)
  rw [rounds_succ]
  go_wp2
  go_ret
  exact ⟨_, _, rfl, Own.eq_ hO (by simp only [leBytes_succ, leBytes_zero, List.append_assoc, List.cons_append, List.nil_append]; simp only [List.cons.injEq, and_true]; (repeat' refine And.intro ?_ ?_) <;> (refine u8_of ?_; omega)), hb1⟩
theorem roomyG (A : Option Addr) (n c : Nat) (xs : List UInt8) (m : UInt8) (w : World) (hr : Rd w A n (bvs xs)) (hlen : n ≤ 140737488351232) :
    Calls Tryz.prog 21 #[.slice A n c, bv m] w fun e w' => ∃ F, w.heap.size ≤ F ∧ e = .returned (.slice (some ⟨F, 0, none⟩) (n + 80) (n + 80)) ∧ Blk w' F (bvs (xs ++ List.replicate 80 m)) 5 ∧ Below w.heap.size w w' :=
  (roomy A n c xs m w hr hlen).mono fun _ _ h => ⟨_, Nat.le_refl _, h.1, h.2.1, h.2.2⟩
/-- Bytes that are read for good, whatever is written from base on. -/
def Src (w : World) (base : Nat) (A : Option Addr) (bs : List UInt8) : Prop := ∀ W : World, Below base w W → Rd W A bs.length (bvs bs)
theorem Src.rd {w : World} {base : Nat} {A : Option Addr} {bs : List UInt8} (h : Src w base A bs) : Rd w A bs.length (bvs bs) := h w (Below.refl _ _)
theorem Src.go {w w1 : World} {base : Nat} {A : Option Addr} {bs : List UInt8} (h : Src w base A bs) (hb : Below base w w1) : Src w1 base A bs := fun W hW => h W (hb.trans hW)
def getV (z : Nat) (l : List UInt8) : Nat := if z ≤ l.length then leNum (l.take z) else 0
def getO (z : Nat) (l : List UInt8) : Bool := decide (z ≤ l.length)
theorem leNum_ltG (l : List UInt8) : leNum l < 256 ^ l.length := by
  induction l with
  | nil => decide
  | cons b t ih =>
    have := b.toNat_lt
    simp only [leNum, List.length_cons, Nat.pow_succ]
    omega
theorem getV_lt (z : Nat) (l : List UInt8) : getV z l < 256 ^ z := by
  unfold getV
  split
  · have h := leNum_ltG (l.take z)
    rwa [List.length_take, Nat.min_eq_left (by assumption)] at h
  · exact Nat.pow_pos (by decide)
theorem leNum_leBytesG (size x : Nat) : leNum (leBytes size x) = x % 256 ^ size := by
  induction size generalizing x with
  | zero => simp [leBytes_zero, leNum, Nat.mod_one]
  | succ size ih =>
    rw [leBytes_succ, leNum, ih, Nat.pow_succ', Nat.mod_mul]
    simp
theorem getV_le (z x : Nat) (hx : x < 256 ^ z) : getV z (leBytes z x) = x ∧ getO z (leBytes z x) = true := by
  have hl := leBytes_length z x
  unfold getV getO
  rw [hl, if_pos (Nat.le_refl _), List.take_of_length_le (by omega), leNum_leBytesG, Nat.mod_eq_of_lt hx]
  exact ⟨rfl, decide_eq_true (Nat.le_refl _)⟩
/-- A byte turned over. -/
def inv8 (b : UInt8) : UInt8 := b ^^^ 255
theorem xor_parts (x y u v : Nat) (hx : x < 256) (hu : u < 256) : (x + 256 * y) ^^^ (u + 256 * v) = (x ^^^ u) + 256 * (y ^^^ v) := by
  have h1 : ((x + 256 * y) ^^^ (u + 256 * v)) % 2 ^ 8 = ((x + 256 * y) % 2 ^ 8) ^^^ ((u + 256 * v) % 2 ^ 8) := Nat.xor_mod_two_pow
  have h2 : ((x + 256 * y) ^^^ (u + 256 * v)) / 2 ^ 8 = ((x + 256 * y) / 2 ^ 8) ^^^ ((u + 256 * v) / 2 ^ 8) := Nat.xor_div_two_pow
  rw [show (x + 256 * y) % 2 ^ 8 = x by omega, show (u + 256 * v) % 2 ^ 8 = u by omega] at h1
  rw [show (x + 256 * y) / 2 ^ 8 = y by omega, show (u + 256 * v) / 2 ^ 8 = v by omega] at h2
  have h3 := Nat.div_add_mod ((x + 256 * y) ^^^ (u + 256 * v)) (2 ^ 8)
  rw [h1, h2] at h3
  omega
theorem leNum_inv (l : List UInt8) : leNum (l.map inv8) = leNum l ^^^ (256 ^ l.length - 1) := by
  induction l with
  | nil => rfl
  | cons b t ih =>
    have hp : 0 < 256 ^ t.length := Nat.pow_pos (by decide)
    rw [List.map_cons, leNum, ih, leNum, List.length_cons, Nat.pow_succ, show 256 ^ t.length * 256 - 1 = 255 + 256 * (256 ^ t.length - 1) by omega, xor_parts _ _ _ _ b.toNat_lt (by decide)]
    congr 1
theorem getV_inv (z : Nat) (l : List UInt8) : (getO z l = true → getV z (l.map inv8) = getV z l ^^^ (256 ^ z - 1)) ∧ (getO z l = false → getV z (l.map inv8) = 0) ∧ getO z (l.map inv8) = getO z l := by
  unfold getO getV
  rw [List.length_map]
  refine ⟨fun h => ?_, fun h => ?_, rfl⟩
  · have h := of_decide_eq_true h
    rw [if_pos h, if_pos h, ← List.map_take, leNum_inv, List.length_take, Nat.min_eq_left h]
  · rw [if_neg (of_decide_eq_false h)]
theorem x8G (a b : UInt8) : bits .xor .u8 (a.toNat : Int) (b.toNat : Int) = ((a ^^^ b).toNat : Int) := by rw [u8_xor_nat _ _ a.toNat_lt b.toNat_lt, UInt8.toNat_xor]
theorem turn_set (p : List UInt8) (k : Nat) (h : k < p.length) (m : UInt8) : (bvs ((p.take k).map inv8 ++ p.drop k ++ List.replicate 80 m)).set k (bv (inv8 p[k])) = bvs ((p.take (k + 1)).map inv8 ++ p.drop (k + 1) ++ List.replicate 80 m) := by
  rw [bvs_set]
  congr 1
  have hl : ((p.take k).map inv8).length = k := by simp; omega
  rw [List.append_assoc, List.set_append_right _ _ (by omega), hl, Nat.sub_self, List.take_succ_eq_append_getElem h, List.map_append, List.map_cons, List.map_nil, List.drop_eq_getElem_cons h]
  simp only [List.cons_append, List.set_cons_zero, List.append_assoc, List.nil_append]
/-- The book, whole. -/
structure NBk (w : World) (base gb : Nat) (vl vw : Value) (n : Int) (I : List Kp) : Prop where
  book : BookC w base gb 0 28 [] [] vl vw (lsc I) (wsc I) n
  hn : I64 n
  kps : KpsOk w base I
  sz : I.length ≤ 4000
theorem NBk.below {w w1 : World} {base gb : Nat} {vl vw : Value} {n : Int} {I : List Kp} (h : NBk w base gb vl vw n I) (hb : Below w.heap.size w w1) : NBk w1 base gb vl vw n I := ⟨h.book.below hb, h.hn, h.kps.below hb, h.sz⟩
theorem NBk.lt {w : World} {base gb : Nat} {vl vw : Value} {n : Int} {I : List Kp} (h : NBk w base gb vl vw n I) : base ≤ gb ∧ gb < w.heap.size := ⟨h.book.hg, h.book.lt⟩
theorem NBk.I_lt {w : World} {base gb : Nat} {vl vw : Value} {n : Int} {I : List Kp} (h : NBk w base gb vl vw n I) : ∀ i ∈ I, ∀ k, (i.l.ownBlock = some k ∨ i.was.ownBlock = some k) → k < w.heap.size := fun i hi k hk => by
  obtain ⟨cells, hc⟩ := h.kps.typed i hi k hk
  exact (Array.getElem?_eq_some_iff.1 hc).1
/-- A room of the call's own is written. -/
theorem NBk.room {w w1 : World} {base gb F : Nat} {vl vw : Value} {n : Int} {I : List Kp} {l : List Value} (h : NBk w base gb vl vw n I) (hf : Fr (fun k => k = F) w w1) (hk : Blk w F l 5) (hI : ∀ i ∈ I, ∀ k, (i.l.ownBlock = some k ∨ i.was.ownBlock = some k) → k ≠ F) : NBk w1 base gb vl vw n I :=
  ⟨h.book.fr hf (fun e => typed_ne h.book.blk hk h.book.t2 e) (fun b hb e => by obtain ⟨_, _, cells, hc⟩ := h.book.rl.typed b hb; exact typed_ne hc hk (by decide) e) (fun b hb e => by obtain ⟨_, _, cells, hc⟩ := h.book.rw_.typed b hb; exact typed_ne hc hk (by decide) e), h.hn, h.kps.fr hf (fun i hi b hb => hI i hi b hb), h.sz⟩
theorem blk_book {w : World} {base gb F : Nat} {vl vw : Value} {n : Int} {I : List Kp} {l : List Value} (h : NBk w base gb vl vw n I) (hk : Blk w F l 5) : ¬ bookS w base gb F := by
  rintro (rfl | ⟨_, cells, hc⟩)
  · exact typed_ne h.book.blk hk h.book.t2 rfl
  · exact typed_ne hc hk (by decide) rfl
theorem book_base {w : World} {base gb : Nat} {vl vw : Value} {n : Int} {I : List Kp} (h : NBk w base gb vl vw n I) : ∀ k, bookS w base gb k → base ≤ k := fun k hk => by
  rcases hk with rfl | hk
  · exact h.lt.1
  · exact hk.1
set_option maxHeartbeats 3200000 in
set_option maxRecDepth 100000 in
theorem refNum1 (A : Option Addr) (n c : Nat) (bs : List UInt8) (w : World) (hr : Rd w A n (bvs bs)) :
    Calls Tryz.prog 28 #[.slice A n c, .int .i64 1] w fun r w' => r = .returned (.tuple #[.int .u64 ((getV 1 bs : Nat) : Int), .bool (getO 1 bs)]) ∧ w' = w := by
  have hl := hr.len
  by_cases hn : 1 ≤ n
  · have HE := Lib.hid (show getV 1 bs = leNum (bs.take 1) ∧ getO 1 bs = true from ⟨if_pos (by omega), decide_eq_true (by omega)⟩)
    obtain ⟨b0, r, rfl⟩ : ∃ b0 r, bs = b0 :: r := by
      match bs, hl with
      | b0 :: r, _ => exact ⟨b0, r, rfl⟩
      | [], h => simp at h; omega
    obtain ⟨ad, rfl, h0⟩ := hr.split 0 b0 rfl
    replace h0 : w.cell? ad = some (.int .u8 (b0.toNat : Int)) := h0
    have u0 := b0.toNat_lt
    have HL := Lib.hid (show ((leNum (List.take 1 (b0 :: r)) : Nat) : Int) = (b0.toNat : Int) by simp [leNum]; try omega)
    have hmx := hr.2.1
    have t0 : decide ((n : Int) < 1) = false := decide_eq_false (by omega)
    have t0' : decide (n < 1) = false := decide_eq_false (by omega)
    clear hr hl
    go_enter Tryz.func28, Tryz.ntmps28
    go_wp2_with fail
    refine wp_loop_rounds 2 ?_
    rw [rounds_succ]
    go_wp2_with fail
    rw [rounds_succ]
    go_wp2_with fail
    go_ret2
    exact ⟨ret_two (by rw [HE.out.1, HL.out]) HE.out.2.symm, rfl⟩
  · have HE := Lib.hid (show getV 1 bs = 0 ∧ getO 1 bs = false from ⟨if_neg (by omega), decide_eq_false (by omega)⟩)
    have t0 : decide ((n : Int) < 1) = true := decide_eq_true (by omega)
    have t0' : decide (n < 1) = true := decide_eq_true (by omega)
    clear hl
    go_enter Tryz.func28, Tryz.ntmps28
    go_wp2_with fail
    go_ret2
    exact ⟨ret_two (by rw [HE.out.1]; rfl) HE.out.2.symm, rfl⟩
set_option maxHeartbeats 3200000 in
set_option maxRecDepth 100000 in
theorem refNum2 (A : Option Addr) (n c : Nat) (bs : List UInt8) (w : World) (hr : Rd w A n (bvs bs)) :
    Calls Tryz.prog 28 #[.slice A n c, .int .i64 2] w fun r w' => r = .returned (.tuple #[.int .u64 ((getV 2 bs : Nat) : Int), .bool (getO 2 bs)]) ∧ w' = w := by
  have hl := hr.len
  by_cases hn : 2 ≤ n
  · have HE := Lib.hid (show getV 2 bs = leNum (bs.take 2) ∧ getO 2 bs = true from ⟨if_pos (by omega), decide_eq_true (by omega)⟩)
    obtain ⟨b0, b1, r, rfl⟩ : ∃ b0 b1 r, bs = b0 :: b1 :: r := by
      match bs, hl with
      | b0 :: b1 :: r, _ => exact ⟨b0, b1, r, rfl⟩
      | [], h => simp at h; omega
      | [_], h => simp at h; omega
    obtain ⟨ad, rfl, h0⟩ := hr.split 0 b0 rfl
    replace h0 : w.cell? ad = some (.int .u8 (b0.toNat : Int)) := h0
    obtain ⟨ad1, e1, h1⟩ := hr.split 1 b1 rfl
    injection e1 with e1
    subst e1
    replace h1 : w.cell? ⟨ad.block, ad.off + 1, none⟩ = some (.int .u8 (b1.toNat : Int)) := h1
    have u0 := b0.toNat_lt
    have u1 := b1.toNat_lt
    have HL := Lib.hid (show ((leNum (List.take 2 (b0 :: b1 :: r)) : Nat) : Int) = ((b1.toNat : Int) * 256 + (b0.toNat : Int)) by simp [leNum]; try omega)
    have hmx := hr.2.1
    have t0 : decide ((n : Int) < 2) = false := decide_eq_false (by omega)
    have t0' : decide (n < 2) = false := decide_eq_false (by omega)
    clear hr hl
    go_enter Tryz.func28, Tryz.ntmps28
    go_wp2_with fail
    refine wp_loop_rounds 3 ?_
    rw [rounds_succ]
    go_wp2_with fail
    rw [rounds_succ]
    go_wp2_with fail
    rw [rounds_succ]
    go_wp2_with fail
    go_ret2
    exact ⟨ret_two (by rw [HE.out.1, HL.out]) HE.out.2.symm, rfl⟩
  · have HE := Lib.hid (show getV 2 bs = 0 ∧ getO 2 bs = false from ⟨if_neg (by omega), decide_eq_false (by omega)⟩)
    have t0 : decide ((n : Int) < 2) = true := decide_eq_true (by omega)
    have t0' : decide (n < 2) = true := decide_eq_true (by omega)
    clear hl
    go_enter Tryz.func28, Tryz.ntmps28
    go_wp2_with fail
    go_ret2
    exact ⟨ret_two (by rw [HE.out.1]; rfl) HE.out.2.symm, rfl⟩
set_option maxHeartbeats 3200000 in
set_option maxRecDepth 100000 in
theorem refNum4 (A : Option Addr) (n c : Nat) (bs : List UInt8) (w : World) (hr : Rd w A n (bvs bs)) :
    Calls Tryz.prog 28 #[.slice A n c, .int .i64 4] w fun r w' => r = .returned (.tuple #[.int .u64 ((getV 4 bs : Nat) : Int), .bool (getO 4 bs)]) ∧ w' = w := by
  have hl := hr.len
  by_cases hn : 4 ≤ n
  · have HE := Lib.hid (show getV 4 bs = leNum (bs.take 4) ∧ getO 4 bs = true from ⟨if_pos (by omega), decide_eq_true (by omega)⟩)
    obtain ⟨b0, b1, b2, b3, r, rfl⟩ : ∃ b0 b1 b2 b3 r, bs = b0 :: b1 :: b2 :: b3 :: r := by
      match bs, hl with
      | b0 :: b1 :: b2 :: b3 :: r, _ => exact ⟨b0, b1, b2, b3, r, rfl⟩
      | [], h => simp at h; omega
      | [_], h => simp at h; omega
      | [_, _], h => simp at h; omega
      | [_, _, _], h => simp at h; omega
    obtain ⟨ad, rfl, h0⟩ := hr.split 0 b0 rfl
    replace h0 : w.cell? ad = some (.int .u8 (b0.toNat : Int)) := h0
    obtain ⟨ad1, e1, h1⟩ := hr.split 1 b1 rfl
    injection e1 with e1
    subst e1
    replace h1 : w.cell? ⟨ad.block, ad.off + 1, none⟩ = some (.int .u8 (b1.toNat : Int)) := h1
    obtain ⟨ad2, e2, h2⟩ := hr.split 2 b2 rfl
    injection e2 with e2
    subst e2
    replace h2 : w.cell? ⟨ad.block, ad.off + 2, none⟩ = some (.int .u8 (b2.toNat : Int)) := h2
    obtain ⟨ad3, e3, h3⟩ := hr.split 3 b3 rfl
    injection e3 with e3
    subst e3
    replace h3 : w.cell? ⟨ad.block, ad.off + 3, none⟩ = some (.int .u8 (b3.toNat : Int)) := h3
    have u0 := b0.toNat_lt
    have u1 := b1.toNat_lt
    have u2 := b2.toNat_lt
    have u3 := b3.toNat_lt
    have HL := Lib.hid (show ((leNum (List.take 4 (b0 :: b1 :: b2 :: b3 :: r)) : Nat) : Int) = ((((b3.toNat : Int) * 256 + (b2.toNat : Int)) * 256 + (b1.toNat : Int)) * 256 + (b0.toNat : Int)) by simp [leNum]; try omega)
    have hmx := hr.2.1
    have t0 : decide ((n : Int) < 4) = false := decide_eq_false (by omega)
    have t0' : decide (n < 4) = false := decide_eq_false (by omega)
    clear hr hl
    go_enter Tryz.func28, Tryz.ntmps28
    go_wp2_with fail
    refine wp_loop_rounds 5 ?_
    rw [rounds_succ]
    go_wp2_with fail
    rw [rounds_succ]
    go_wp2_with fail
    rw [rounds_succ]
    go_wp2_with fail
    rw [rounds_succ]
    go_wp2_with fail
    rw [rounds_succ]
    go_wp2_with fail
    go_ret2
    exact ⟨ret_two (by rw [HE.out.1, HL.out]) HE.out.2.symm, rfl⟩
  · have HE := Lib.hid (show getV 4 bs = 0 ∧ getO 4 bs = false from ⟨if_neg (by omega), decide_eq_false (by omega)⟩)
    have t0 : decide ((n : Int) < 4) = true := decide_eq_true (by omega)
    have t0' : decide (n < 4) = true := decide_eq_true (by omega)
    clear hl
    go_enter Tryz.func28, Tryz.ntmps28
    go_wp2_with fail
    go_ret2
    exact ⟨ret_two (by rw [HE.out.1]; rfl) HE.out.2.symm, rfl⟩
set_option maxHeartbeats 3200000 in
set_option maxRecDepth 100000 in
theorem refNum8 (A : Option Addr) (n c : Nat) (bs : List UInt8) (w : World) (hr : Rd w A n (bvs bs)) :
    Calls Tryz.prog 28 #[.slice A n c, .int .i64 8] w fun r w' => r = .returned (.tuple #[.int .u64 ((getV 8 bs : Nat) : Int), .bool (getO 8 bs)]) ∧ w' = w := by
  have hl := hr.len
  by_cases hn : 8 ≤ n
  · have HE := Lib.hid (show getV 8 bs = leNum (bs.take 8) ∧ getO 8 bs = true from ⟨if_pos (by omega), decide_eq_true (by omega)⟩)
    obtain ⟨b0, b1, b2, b3, b4, b5, b6, b7, r, rfl⟩ : ∃ b0 b1 b2 b3 b4 b5 b6 b7 r, bs = b0 :: b1 :: b2 :: b3 :: b4 :: b5 :: b6 :: b7 :: r := by
      match bs, hl with
      | b0 :: b1 :: b2 :: b3 :: b4 :: b5 :: b6 :: b7 :: r, _ => exact ⟨b0, b1, b2, b3, b4, b5, b6, b7, r, rfl⟩
      | [], h => simp at h; omega
      | [_], h => simp at h; omega
      | [_, _], h => simp at h; omega
      | [_, _, _], h => simp at h; omega
      | [_, _, _, _], h => simp at h; omega
      | [_, _, _, _, _], h => simp at h; omega
      | [_, _, _, _, _, _], h => simp at h; omega
      | [_, _, _, _, _, _, _], h => simp at h; omega
    obtain ⟨ad, rfl, h0⟩ := hr.split 0 b0 rfl
    replace h0 : w.cell? ad = some (.int .u8 (b0.toNat : Int)) := h0
    obtain ⟨ad1, e1, h1⟩ := hr.split 1 b1 rfl
    injection e1 with e1
    subst e1
    replace h1 : w.cell? ⟨ad.block, ad.off + 1, none⟩ = some (.int .u8 (b1.toNat : Int)) := h1
    obtain ⟨ad2, e2, h2⟩ := hr.split 2 b2 rfl
    injection e2 with e2
    subst e2
    replace h2 : w.cell? ⟨ad.block, ad.off + 2, none⟩ = some (.int .u8 (b2.toNat : Int)) := h2
    obtain ⟨ad3, e3, h3⟩ := hr.split 3 b3 rfl
    injection e3 with e3
    subst e3
    replace h3 : w.cell? ⟨ad.block, ad.off + 3, none⟩ = some (.int .u8 (b3.toNat : Int)) := h3
    obtain ⟨ad4, e4, h4⟩ := hr.split 4 b4 rfl
    injection e4 with e4
    subst e4
    replace h4 : w.cell? ⟨ad.block, ad.off + 4, none⟩ = some (.int .u8 (b4.toNat : Int)) := h4
    obtain ⟨ad5, e5, h5⟩ := hr.split 5 b5 rfl
    injection e5 with e5
    subst e5
    replace h5 : w.cell? ⟨ad.block, ad.off + 5, none⟩ = some (.int .u8 (b5.toNat : Int)) := h5
    obtain ⟨ad6, e6, h6⟩ := hr.split 6 b6 rfl
    injection e6 with e6
    subst e6
    replace h6 : w.cell? ⟨ad.block, ad.off + 6, none⟩ = some (.int .u8 (b6.toNat : Int)) := h6
    obtain ⟨ad7, e7, h7⟩ := hr.split 7 b7 rfl
    injection e7 with e7
    subst e7
    replace h7 : w.cell? ⟨ad.block, ad.off + 7, none⟩ = some (.int .u8 (b7.toNat : Int)) := h7
    have u0 := b0.toNat_lt
    have u1 := b1.toNat_lt
    have u2 := b2.toNat_lt
    have u3 := b3.toNat_lt
    have u4 := b4.toNat_lt
    have u5 := b5.toNat_lt
    have u6 := b6.toNat_lt
    have u7 := b7.toNat_lt
    have HL := Lib.hid (show ((leNum (List.take 8 (b0 :: b1 :: b2 :: b3 :: b4 :: b5 :: b6 :: b7 :: r)) : Nat) : Int) = ((((((((b7.toNat : Int) * 256 + (b6.toNat : Int)) * 256 + (b5.toNat : Int)) * 256 + (b4.toNat : Int)) * 256 + (b3.toNat : Int)) * 256 + (b2.toNat : Int)) * 256 + (b1.toNat : Int)) * 256 + (b0.toNat : Int)) by simp [leNum]; try omega)
    have hmx := hr.2.1
    have t0 : decide ((n : Int) < 8) = false := decide_eq_false (by omega)
    have t0' : decide (n < 8) = false := decide_eq_false (by omega)
    clear hr hl
    go_enter Tryz.func28, Tryz.ntmps28
    go_wp2_with fail
    refine wp_loop_rounds 9 ?_
    rw [rounds_succ]
    go_wp2_with fail
    rw [rounds_succ]
    go_wp2_with fail
    rw [rounds_succ]
    go_wp2_with fail
    rw [rounds_succ]
    go_wp2_with fail
    rw [rounds_succ]
    go_wp2_with fail
    rw [rounds_succ]
    go_wp2_with fail
    rw [rounds_succ]
    go_wp2_with fail
    rw [rounds_succ]
    go_wp2_with fail
    rw [rounds_succ]
    go_wp2_with fail
    go_ret2
    exact ⟨ret_two (by rw [HE.out.1, HL.out]) HE.out.2.symm, rfl⟩
  · have HE := Lib.hid (show getV 8 bs = 0 ∧ getO 8 bs = false from ⟨if_neg (by omega), decide_eq_false (by omega)⟩)
    have t0 : decide ((n : Int) < 8) = true := decide_eq_true (by omega)
    have t0' : decide (n < 8) = true := decide_eq_true (by omega)
    clear hl
    go_enter Tryz.func28, Tryz.ntmps28
    go_wp2_with fail
    go_ret2
    exact ⟨ret_two (by rw [HE.out.1]; rfl) HE.out.2.symm, rfl⟩
theorem getm_uint8 (A : Option Addr) (n c : Nat) (bs : List UInt8) (w : World) (hr : Rd w A n (bvs bs)) (hc : n ≤ c) :
    Calls Tryz.prog 27 #[.slice A n c] w fun e w' => e = .returned (.tuple #[.int .u8 ((getV 1 bs : Nat) : Int), .bool (getO 1 bs)]) ∧ Drawn w w' := by
  have hl := hr.len
  by_cases hn : 1 ≤ n
  · rw [show getV 1 bs = leNum (bs.take 1) from if_pos (by omega), show getO 1 bs = true from decide_eq_true (by omega)]
    exact get_uint8 A n c bs w hr hc hn
  · rw [show getV 1 bs = 0 from if_neg (by omega), show getO 1 bs = false from decide_eq_false (by omega)]
    exact getno_uint8 A n c w (by omega)
theorem getm_uint16 (A : Option Addr) (n c : Nat) (bs : List UInt8) (w : World) (hr : Rd w A n (bvs bs)) (hc : n ≤ c) :
    Calls Tryz.prog 32 #[.slice A n c] w fun e w' => e = .returned (.tuple #[.int .u16 ((getV 2 bs : Nat) : Int), .bool (getO 2 bs)]) ∧ Drawn w w' := by
  have hl := hr.len
  by_cases hn : 2 ≤ n
  · rw [show getV 2 bs = leNum (bs.take 2) from if_pos (by omega), show getO 2 bs = true from decide_eq_true (by omega)]
    exact get_uint16 A n c bs w hr hc hn
  · rw [show getV 2 bs = 0 from if_neg (by omega), show getO 2 bs = false from decide_eq_false (by omega)]
    exact getno_uint16 A n c w (by omega)
theorem getm_uint32 (A : Option Addr) (n c : Nat) (bs : List UInt8) (w : World) (hr : Rd w A n (bvs bs)) (hc : n ≤ c) :
    Calls Tryz.prog 35 #[.slice A n c] w fun e w' => e = .returned (.tuple #[.int .u32 ((getV 4 bs : Nat) : Int), .bool (getO 4 bs)]) ∧ Drawn w w' := by
  have hl := hr.len
  by_cases hn : 4 ≤ n
  · rw [show getV 4 bs = leNum (bs.take 4) from if_pos (by omega), show getO 4 bs = true from decide_eq_true (by omega)]
    exact get_uint32 A n c bs w hr hc hn
  · rw [show getV 4 bs = 0 from if_neg (by omega), show getO 4 bs = false from decide_eq_false (by omega)]
    exact getno_uint32 A n c w (by omega)
theorem getm_uint64 (A : Option Addr) (n c : Nat) (bs : List UInt8) (w : World) (hr : Rd w A n (bvs bs)) (hc : n ≤ c) :
    Calls Tryz.prog 38 #[.slice A n c] w fun e w' => e = .returned (.tuple #[.int .u64 ((getV 8 bs : Nat) : Int), .bool (getO 8 bs)]) ∧ Drawn w w' := by
  have hl := hr.len
  by_cases hn : 8 ≤ n
  · rw [show getV 8 bs = leNum (bs.take 8) from if_pos (by omega), show getO 8 bs = true from decide_eq_true (by omega)]
    exact get_uint64 A n c bs w hr hc hn
  · rw [show getV 8 bs = 0 from if_neg (by omega), show getO 8 bs = false from decide_eq_false (by omega)]
    exact getno_uint64 A n c w (by omega)
theorem getm_Tiny (A : Option Addr) (n c : Nat) (bs : List UInt8) (w : World) (hr : Rd w A n (bvs bs)) (hc : n ≤ c) :
    Calls Tryz.prog 41 #[.slice A n c] w fun e w' => e = .returned (.tuple #[.int .u8 ((getV 1 bs : Nat) : Int), .bool (getO 1 bs)]) ∧ Drawn w w' := by
  have hl := hr.len
  by_cases hn : 1 ≤ n
  · rw [show getV 1 bs = leNum (bs.take 1) from if_pos (by omega), show getO 1 bs = true from decide_eq_true (by omega)]
    exact get_Tiny A n c bs w hr hc hn
  · rw [show getV 1 bs = 0 from if_neg (by omega), show getO 1 bs = false from decide_eq_false (by omega)]
    exact getno_Tiny A n c w (by omega)
theorem getm_Small (A : Option Addr) (n c : Nat) (bs : List UInt8) (w : World) (hr : Rd w A n (bvs bs)) (hc : n ≤ c) :
    Calls Tryz.prog 44 #[.slice A n c] w fun e w' => e = .returned (.tuple #[.int .u16 ((getV 2 bs : Nat) : Int), .bool (getO 2 bs)]) ∧ Drawn w w' := by
  have hl := hr.len
  by_cases hn : 2 ≤ n
  · rw [show getV 2 bs = leNum (bs.take 2) from if_pos (by omega), show getO 2 bs = true from decide_eq_true (by omega)]
    exact get_Small A n c bs w hr hc hn
  · rw [show getV 2 bs = 0 from if_neg (by omega), show getO 2 bs = false from decide_eq_false (by omega)]
    exact getno_Small A n c w (by omega)
theorem getm_Plain (A : Option Addr) (n c : Nat) (bs : List UInt8) (w : World) (hr : Rd w A n (bvs bs)) (hc : n ≤ c) :
    Calls Tryz.prog 47 #[.slice A n c] w fun e w' => e = .returned (.tuple #[.int .u32 ((getV 4 bs : Nat) : Int), .bool (getO 4 bs)]) ∧ Drawn w w' := by
  have hl := hr.len
  by_cases hn : 4 ≤ n
  · rw [show getV 4 bs = leNum (bs.take 4) from if_pos (by omega), show getO 4 bs = true from decide_eq_true (by omega)]
    exact get_Plain A n c bs w hr hc hn
  · rw [show getV 4 bs = 0 from if_neg (by omega), show getO 4 bs = false from decide_eq_false (by omega)]
    exact getno_Plain A n c w (by omega)
theorem getm_Great (A : Option Addr) (n c : Nat) (bs : List UInt8) (w : World) (hr : Rd w A n (bvs bs)) (hc : n ≤ c) :
    Calls Tryz.prog 50 #[.slice A n c] w fun e w' => e = .returned (.tuple #[.int .u64 ((getV 8 bs : Nat) : Int), .bool (getO 8 bs)]) ∧ Drawn w w' := by
  have hl := hr.len
  by_cases hn : 8 ≤ n
  · rw [show getV 8 bs = leNum (bs.take 8) from if_pos (by omega), show getO 8 bs = true from decide_eq_true (by omega)]
    exact get_Great A n c bs w hr hc hn
  · rw [show getV 8 bs = 0 from if_neg (by omega), show getO 8 bs = false from decide_eq_false (by omega)]
    exact getno_Great A n c w (by omega)
end Go.Proofs.YthdjddpomaendaaGreat.B
