/- Numbers as bytes: width, Put, Get, of each type of numbers. -/
import Derived.Test.YthdjddpomaendaaGreatB3
import Derived.Handy
namespace Go.Proofs.YthdjddpomaendaaGreat.B
open Go.RowKit
set_option linter.unusedVariables false
set_option linter.unusedSimpArgs false

set_option maxHeartbeats 800000 in
set_option maxRecDepth 100000 in
theorem width_uint8 (w : World) : Calls Tryz.prog 84 #[] w fun e w' => e = .returned (.int .i64 1) ∧ w' = w := by
  go_enter Tryz.func84, Tryz.ntmps84
  go_wp2
  go_rounds 3
  go_ret
  exact ⟨rfl, rfl⟩

set_option maxHeartbeats 1600000 in
set_option maxRecDepth 100000 in
theorem put_uint8 (A : Option Addr) (n c : Nat) (xs : List UInt8) (x : Nat) (w : World) (hx : x < 256) (hr : Rd w A n (bvs xs)) (hn : n ≤ 140737488351232) :
    Calls Tryz.prog 23 #[.slice A n c, .int .u8 (x : Int)] w fun e w' => ∃ A' c', e = .returned (.slice A' (n + 1) c') ∧ Own w' w.heap.size (.slice A' (n + 1) c') (xs ++ leBytes 1 x) ∧ Below w.heap.size w w' := by
  have hl := hr.len
  subst hl
  have hmk := makecap_u8 xs.length (xs.length + 8) (by omega) (by omega) (xs.length : Int) ((xs.length : Int) + 8) rfl (by omega)
  go_enter Tryz.func23, Tryz.ntmps23
  go_wp2_with ((with_reducible refine at_builtin_ (b := .copy) rfl ?_); go_must (refine copy_u8 rfl _ _ rfl w.heap.size xs.length (xs.length + 8) A xs.length c xs (List.replicate (xs.length + 8) 0) rfl rfl (Blk.new w _ 5) (by omega) (by simp) (hr.alloc _) w.heap.size w (below_alloc (Below.refl _ w) _) (Nat.le_refl _) ?_; intro w1 hw1 hb1))
  have hO := Own.made (W := w1) (k := 8) (by simpa using hw1) w.heap.size (Nat.le_refl _) rfl (by omega)
  clear hmk
  go_wp2_with fail
  refine (width_uint8 _).mono ?_
  rintro e w' ⟨rfl, rfl⟩
  clear hw1
  go_wp2_with fail
  refine wp_loop_rounds 2 ?_
  rw [rounds_succ]
  go_wp2_with ((with_reducible refine at_builtin_ (b := .append) rfl ?_); go_must (refine app1_u8 rfl _ _ rfl w.heap.size _ _ _ ?_ ?_ ?_ ?_ hO hb1.size (xs.length + 1) ?_ ?_ w.heap.size w hb1 (Nat.le_refl _) ?_; rfl; rfl; omega; omega; (first | (simp; done) | (simp <;> omega)); omega); clear hO hb1; intro A1 c1 w1 hO hb1 _ _)
  rw [rounds_succ]
  go_wp2
  go_ret
  exact ⟨_, _, rfl, Own.eq_ hO (by simp only [leBytes_succ, leBytes_zero, List.append_assoc, List.cons_append, List.nil_append]; refine congrArg (xs ++ ·) ?_; simp only [List.cons.injEq, and_true]; (repeat' refine And.intro ?_ ?_) <;> (refine u8_of ?_; omega)), hb1⟩

def Euint8 (b0 : UInt8) : Int := (bits .or .u64 0 (b0.toNat : Int)) % 256

set_option maxHeartbeats 1600000 in
set_option maxRecDepth 100000 in
theorem get_uint8 (A : Option Addr) (n c : Nat) (bs : List UInt8) (w : World) (hr : Rd w A n (bvs bs)) (hc : n ≤ c) (hn : 1 ≤ n) :
    Calls Tryz.prog 27 #[.slice A n c] w fun e w' => e = .returned (.tuple #[.int .u8 ((leNum (bs.take 1) : Nat) : Int), .bool true]) ∧ Drawn w w' := by
  have hl := hr.len
  have hmx := hr.2.1
  obtain ⟨b0, r, rfl⟩ : ∃ b0 r, bs = b0 :: r := by
    match bs, hl with
    | b0 :: r, _ => exact ⟨b0, r, rfl⟩
    | [], h => simp at h; omega
  obtain ⟨ad, rfl, h0⟩ := hr.split 0 b0 rfl
  replace h0 : w.cell? ad = some (.int .u8 (b0.toNat : Int)) := h0
  have u0 := b0.toNat_lt
  have hcc : 1 ≤ c := by omega
  have HQ := Lib.hid (show Euint8 b0  = ((leNum (List.take 1 (b0 :: r)) : Nat) : Int) by
    unfold Euint8
    have q0 := or_zero64 (b0.toNat : Int) (by omega) (by omega)
    rw [q0]
    simp [leNum]
    try omega)
  clear hl hr 
  go_enter Tryz.func27, Tryz.ntmps27
  go_wp2_with fail
  refine (width_uint8 _).mono ?_
  rintro e w' ⟨rfl, rfl⟩
  go_wp2_with fail
  go_rounds 2
  go_ret2
  exact ⟨ret_pair (by rw [← HQ.out]; rfl), Drawn.refl _⟩
set_option maxHeartbeats 800000 in
set_option maxRecDepth 100000 in
theorem getno_uint8 (A : Option Addr) (n c : Nat) (w : World) (hn : n < 1) :
    Calls Tryz.prog 27 #[.slice A n c] w fun e w' => e = .returned (.tuple #[.int .u8 0, .bool false]) ∧ Drawn w w' := by
  go_enter Tryz.func27, Tryz.ntmps27
  go_wp2_with fail
  refine (width_uint8 _).mono ?_
  rintro e w' ⟨rfl, rfl⟩
  go_wp2_with fail
  go_ret2
  exact ⟨rfl, Drawn.refl _⟩

set_option maxHeartbeats 800000 in
set_option maxRecDepth 100000 in
theorem width_uint16 (w : World) : Calls Tryz.prog 93 #[] w fun e w' => e = .returned (.int .i64 2) ∧ w' = w := by
  go_enter Tryz.func93, Tryz.ntmps93
  go_wp2
  go_rounds 4
  go_ret
  exact ⟨rfl, rfl⟩

set_option maxHeartbeats 1600000 in
set_option maxRecDepth 100000 in
theorem put_uint16 (A : Option Addr) (n c : Nat) (xs : List UInt8) (x : Nat) (w : World) (hx : x < 65536) (hr : Rd w A n (bvs xs)) (hn : n ≤ 140737488351232) :
    Calls Tryz.prog 31 #[.slice A n c, .int .u16 (x : Int)] w fun e w' => ∃ A' c', e = .returned (.slice A' (n + 2) c') ∧ Own w' w.heap.size (.slice A' (n + 2) c') (xs ++ leBytes 2 x) ∧ Below w.heap.size w w' := by
  have hl := hr.len
  subst hl
  have hmk := makecap_u8 xs.length (xs.length + 8) (by omega) (by omega) (xs.length : Int) ((xs.length : Int) + 8) rfl (by omega)
  go_enter Tryz.func31, Tryz.ntmps31
  go_wp2_with ((with_reducible refine at_builtin_ (b := .copy) rfl ?_); go_must (refine copy_u8 rfl _ _ rfl w.heap.size xs.length (xs.length + 8) A xs.length c xs (List.replicate (xs.length + 8) 0) rfl rfl (Blk.new w _ 5) (by omega) (by simp) (hr.alloc _) w.heap.size w (below_alloc (Below.refl _ w) _) (Nat.le_refl _) ?_; intro w1 hw1 hb1))
  have hO := Own.made (W := w1) (k := 8) (by simpa using hw1) w.heap.size (Nat.le_refl _) rfl (by omega)
  clear hmk
  go_wp2_with fail
  refine (width_uint16 _).mono ?_
  rintro e w' ⟨rfl, rfl⟩
  clear hw1
  go_wp2_with fail
  refine wp_loop_rounds 3 ?_
  rw [rounds_succ]
  go_wp2_with ((with_reducible refine at_builtin_ (b := .append) rfl ?_); go_must (refine app1_u8 rfl _ _ rfl w.heap.size _ _ _ ?_ ?_ ?_ ?_ hO hb1.size (xs.length + 1) ?_ ?_ w.heap.size w hb1 (Nat.le_refl _) ?_; rfl; rfl; omega; omega; (first | (simp; done) | (simp <;> omega)); omega); clear hO hb1; intro A1 c1 w1 hO hb1 _ _)
  rw [rounds_succ]
  go_wp2_with ((with_reducible refine at_builtin_ (b := .append) rfl ?_); go_must (refine app1_u8 rfl _ _ rfl w.heap.size _ _ _ ?_ ?_ ?_ ?_ hO hb1.size (xs.length + 2) ?_ ?_ w.heap.size w hb1 (Nat.le_refl _) ?_; rfl; rfl; omega; omega; (first | (simp; done) | (simp <;> omega)); omega); clear hO hb1; intro A1 c1 w1 hO hb1 _ _)
  rw [rounds_succ]
  go_wp2
  go_ret
  exact ⟨_, _, rfl, Own.eq_ hO (by simp only [leBytes_succ, leBytes_zero, List.append_assoc, List.cons_append, List.nil_append]; refine congrArg (xs ++ ·) ?_; simp only [List.cons.injEq, and_true]; (repeat' refine And.intro ?_ ?_) <;> (refine u8_of ?_; omega)), hb1⟩

def Euint16 (b0 b1 : UInt8) : Int := (bits .or .u64 (bits .or .u64 0 (b0.toNat : Int)) ((b1.toNat : Int) * 256)) % 65536

set_option maxHeartbeats 1600000 in
set_option maxRecDepth 100000 in
theorem get_uint16 (A : Option Addr) (n c : Nat) (bs : List UInt8) (w : World) (hr : Rd w A n (bvs bs)) (hc : n ≤ c) (hn : 2 ≤ n) :
    Calls Tryz.prog 32 #[.slice A n c] w fun e w' => e = .returned (.tuple #[.int .u16 ((leNum (bs.take 2) : Nat) : Int), .bool true]) ∧ Drawn w w' := by
  have hl := hr.len
  have hmx := hr.2.1
  obtain ⟨b0, b1, r, rfl⟩ : ∃ b0 b1 r, bs = b0 :: b1 :: r := by
    match bs, hl with
    | b0 :: b1 :: r, _ => exact ⟨b0, b1, r, rfl⟩
    | [], h => simp at h; omega
    | [_], h => simp at h; omega
  obtain ⟨ad, rfl, h0⟩ := hr.split 0 b0 rfl
  obtain ⟨_, e1, h1⟩ := hr.split 1 b1 rfl
  obtain rfl := Option.some.inj e1
  replace h0 : w.cell? ad = some (.int .u8 (b0.toNat : Int)) := h0
  replace h1 : w.cell? ⟨ad.block, ad.off + 1, none⟩ = some (.int .u8 (b1.toNat : Int)) := h1
  have u0 := b0.toNat_lt
  have u1 := b1.toNat_lt
  have hcc : 2 ≤ c := by omega
  have HQ := Lib.hid (show Euint16 b0 b1 = ((leNum (List.take 2 (b0 :: b1 :: r)) : Nat) : Int) by
    unfold Euint16
    have q0 := or_zero64 (b0.toNat : Int) (by omega) (by omega)
    have q1 := or_addm 8 256 ((b0.toNat : Int)) (b1.toNat : Int) (by decide) (by omega) (by omega) (by omega) (by omega) (by omega)
    rw [q0, q1]
    simp [leNum]
    try omega)
  clear hl hr e1
  go_enter Tryz.func32, Tryz.ntmps32
  go_wp2_with fail
  refine (width_uint16 _).mono ?_
  rintro e w' ⟨rfl, rfl⟩
  go_wp2_with fail
  go_rounds 3
  go_ret2
  exact ⟨ret_pair (by rw [← HQ.out]; rfl), Drawn.refl _⟩
set_option maxHeartbeats 800000 in
set_option maxRecDepth 100000 in
theorem getno_uint16 (A : Option Addr) (n c : Nat) (w : World) (hn : n < 2) :
    Calls Tryz.prog 32 #[.slice A n c] w fun e w' => e = .returned (.tuple #[.int .u16 0, .bool false]) ∧ Drawn w w' := by
  go_enter Tryz.func32, Tryz.ntmps32
  go_wp2_with fail
  refine (width_uint16 _).mono ?_
  rintro e w' ⟨rfl, rfl⟩
  go_wp2_with fail
  go_ret2
  exact ⟨rfl, Drawn.refl _⟩

set_option maxHeartbeats 800000 in
set_option maxRecDepth 100000 in
theorem width_uint32 (w : World) : Calls Tryz.prog 98 #[] w fun e w' => e = .returned (.int .i64 4) ∧ w' = w := by
  go_enter Tryz.func98, Tryz.ntmps98
  go_wp2
  go_rounds 6
  go_ret
  exact ⟨rfl, rfl⟩

set_option maxHeartbeats 1600000 in
set_option maxRecDepth 100000 in
theorem put_uint32 (A : Option Addr) (n c : Nat) (xs : List UInt8) (x : Nat) (w : World) (hx : x < 4294967296) (hr : Rd w A n (bvs xs)) (hn : n ≤ 140737488351232) :
    Calls Tryz.prog 34 #[.slice A n c, .int .u32 (x : Int)] w fun e w' => ∃ A' c', e = .returned (.slice A' (n + 4) c') ∧ Own w' w.heap.size (.slice A' (n + 4) c') (xs ++ leBytes 4 x) ∧ Below w.heap.size w w' := by
  have hl := hr.len
  subst hl
  have hmk := makecap_u8 xs.length (xs.length + 8) (by omega) (by omega) (xs.length : Int) ((xs.length : Int) + 8) rfl (by omega)
  go_enter Tryz.func34, Tryz.ntmps34
  go_wp2_with ((with_reducible refine at_builtin_ (b := .copy) rfl ?_); go_must (refine copy_u8 rfl _ _ rfl w.heap.size xs.length (xs.length + 8) A xs.length c xs (List.replicate (xs.length + 8) 0) rfl rfl (Blk.new w _ 5) (by omega) (by simp) (hr.alloc _) w.heap.size w (below_alloc (Below.refl _ w) _) (Nat.le_refl _) ?_; intro w1 hw1 hb1))
  have hO := Own.made (W := w1) (k := 8) (by simpa using hw1) w.heap.size (Nat.le_refl _) rfl (by omega)
  clear hmk
  go_wp2_with fail
  refine (width_uint32 _).mono ?_
  rintro e w' ⟨rfl, rfl⟩
  clear hw1
  go_wp2_with fail
  refine wp_loop_rounds 5 ?_
  rw [rounds_succ]
  go_wp2_with ((with_reducible refine at_builtin_ (b := .append) rfl ?_); go_must (refine app1_u8 rfl _ _ rfl w.heap.size _ _ _ ?_ ?_ ?_ ?_ hO hb1.size (xs.length + 1) ?_ ?_ w.heap.size w hb1 (Nat.le_refl _) ?_; rfl; rfl; omega; omega; (first | (simp; done) | (simp <;> omega)); omega); clear hO hb1; intro A1 c1 w1 hO hb1 _ _)
  rw [rounds_succ]
  go_wp2_with ((with_reducible refine at_builtin_ (b := .append) rfl ?_); go_must (refine app1_u8 rfl _ _ rfl w.heap.size _ _ _ ?_ ?_ ?_ ?_ hO hb1.size (xs.length + 2) ?_ ?_ w.heap.size w hb1 (Nat.le_refl _) ?_; rfl; rfl; omega; omega; (first | (simp; done) | (simp <;> omega)); omega); clear hO hb1; intro A1 c1 w1 hO hb1 _ _)
  rw [rounds_succ]
  go_wp2_with ((with_reducible refine at_builtin_ (b := .append) rfl ?_); go_must (refine app1_u8 rfl _ _ rfl w.heap.size _ _ _ ?_ ?_ ?_ ?_ hO hb1.size (xs.length + 3) ?_ ?_ w.heap.size w hb1 (Nat.le_refl _) ?_; rfl; rfl; omega; omega; (first | (simp; done) | (simp <;> omega)); omega); clear hO hb1; intro A1 c1 w1 hO hb1 _ _)
  rw [rounds_succ]
  go_wp2_with ((with_reducible refine at_builtin_ (b := .append) rfl ?_); go_must (refine app1_u8 rfl _ _ rfl w.heap.size _ _ _ ?_ ?_ ?_ ?_ hO hb1.size (xs.length + 4) ?_ ?_ w.heap.size w hb1 (Nat.le_refl _) ?_; rfl; rfl; omega; omega; (first | (simp; done) | (simp <;> omega)); omega); clear hO hb1; intro A1 c1 w1 hO hb1 _ _)
  rw [rounds_succ]
  go_wp2
  go_ret
  exact ⟨_, _, rfl, Own.eq_ hO (by simp only [leBytes_succ, leBytes_zero, List.append_assoc, List.cons_append, List.nil_append]; refine congrArg (xs ++ ·) ?_; simp only [List.cons.injEq, and_true]; (repeat' refine And.intro ?_ ?_) <;> (refine u8_of ?_; omega)), hb1⟩

def Euint32 (b0 b1 b2 b3 : UInt8) : Int := (bits .or .u64 (bits .or .u64 (bits .or .u64 (bits .or .u64 0 (b0.toNat : Int)) ((b1.toNat : Int) * 256)) ((b2.toNat : Int) * 65536)) ((b3.toNat : Int) * 16777216)) % 4294967296

set_option maxHeartbeats 1600000 in
set_option maxRecDepth 100000 in
theorem get_uint32 (A : Option Addr) (n c : Nat) (bs : List UInt8) (w : World) (hr : Rd w A n (bvs bs)) (hc : n ≤ c) (hn : 4 ≤ n) :
    Calls Tryz.prog 35 #[.slice A n c] w fun e w' => e = .returned (.tuple #[.int .u32 ((leNum (bs.take 4) : Nat) : Int), .bool true]) ∧ Drawn w w' := by
  have hl := hr.len
  have hmx := hr.2.1
  obtain ⟨b0, b1, b2, b3, r, rfl⟩ : ∃ b0 b1 b2 b3 r, bs = b0 :: b1 :: b2 :: b3 :: r := by
    match bs, hl with
    | b0 :: b1 :: b2 :: b3 :: r, _ => exact ⟨b0, b1, b2, b3, r, rfl⟩
    | [], h => simp at h; omega
    | [_], h => simp at h; omega
    | [_, _], h => simp at h; omega
    | [_, _, _], h => simp at h; omega
  obtain ⟨ad, rfl, h0⟩ := hr.split 0 b0 rfl
  obtain ⟨_, e1, h1⟩ := hr.split 1 b1 rfl
  obtain rfl := Option.some.inj e1
  obtain ⟨_, e2, h2⟩ := hr.split 2 b2 rfl
  obtain rfl := Option.some.inj e2
  obtain ⟨_, e3, h3⟩ := hr.split 3 b3 rfl
  obtain rfl := Option.some.inj e3
  replace h0 : w.cell? ad = some (.int .u8 (b0.toNat : Int)) := h0
  replace h1 : w.cell? ⟨ad.block, ad.off + 1, none⟩ = some (.int .u8 (b1.toNat : Int)) := h1
  replace h2 : w.cell? ⟨ad.block, ad.off + 2, none⟩ = some (.int .u8 (b2.toNat : Int)) := h2
  replace h3 : w.cell? ⟨ad.block, ad.off + 3, none⟩ = some (.int .u8 (b3.toNat : Int)) := h3
  have u0 := b0.toNat_lt
  have u1 := b1.toNat_lt
  have u2 := b2.toNat_lt
  have u3 := b3.toNat_lt
  have hcc : 4 ≤ c := by omega
  have HQ := Lib.hid (show Euint32 b0 b1 b2 b3 = ((leNum (List.take 4 (b0 :: b1 :: b2 :: b3 :: r)) : Nat) : Int) by
    unfold Euint32
    have q0 := or_zero64 (b0.toNat : Int) (by omega) (by omega)
    have q1 := or_addm 8 256 ((b0.toNat : Int)) (b1.toNat : Int) (by decide) (by omega) (by omega) (by omega) (by omega) (by omega)
    have q2 := or_addm 16 65536 ((b0.toNat : Int) + (b1.toNat : Int) * 256) (b2.toNat : Int) (by decide) (by omega) (by omega) (by omega) (by omega) (by omega)
    have q3 := or_addm 24 16777216 ((b0.toNat : Int) + (b1.toNat : Int) * 256 + (b2.toNat : Int) * 65536) (b3.toNat : Int) (by decide) (by omega) (by omega) (by omega) (by omega) (by omega)
    rw [q0, q1, q2, q3]
    simp [leNum]
    try omega)
  clear hl hr e1 e2 e3
  go_enter Tryz.func35, Tryz.ntmps35
  go_wp2_with fail
  refine (width_uint32 _).mono ?_
  rintro e w' ⟨rfl, rfl⟩
  go_wp2_with fail
  go_rounds 5
  go_ret2
  exact ⟨ret_pair (by rw [← HQ.out]; rfl), Drawn.refl _⟩
set_option maxHeartbeats 800000 in
set_option maxRecDepth 100000 in
theorem getno_uint32 (A : Option Addr) (n c : Nat) (w : World) (hn : n < 4) :
    Calls Tryz.prog 35 #[.slice A n c] w fun e w' => e = .returned (.tuple #[.int .u32 0, .bool false]) ∧ Drawn w w' := by
  go_enter Tryz.func35, Tryz.ntmps35
  go_wp2_with fail
  refine (width_uint32 _).mono ?_
  rintro e w' ⟨rfl, rfl⟩
  go_wp2_with fail
  go_ret2
  exact ⟨rfl, Drawn.refl _⟩

set_option maxHeartbeats 800000 in
set_option maxRecDepth 100000 in
theorem width_uint64 (w : World) : Calls Tryz.prog 103 #[] w fun e w' => e = .returned (.int .i64 8) ∧ w' = w := by
  go_enter Tryz.func103, Tryz.ntmps103
  go_wp2
  go_rounds 10
  go_ret
  exact ⟨rfl, rfl⟩

set_option maxHeartbeats 1600000 in
set_option maxRecDepth 100000 in
theorem put_uint64 (A : Option Addr) (n c : Nat) (xs : List UInt8) (x : Nat) (w : World) (hx : x < 18446744073709551616) (hr : Rd w A n (bvs xs)) (hn : n ≤ 140737488351232) :
    Calls Tryz.prog 37 #[.slice A n c, .int .u64 (x : Int)] w fun e w' => ∃ A' c', e = .returned (.slice A' (n + 8) c') ∧ Own w' w.heap.size (.slice A' (n + 8) c') (xs ++ leBytes 8 x) ∧ Below w.heap.size w w' := by
  have hl := hr.len
  subst hl
  have hmk := makecap_u8 xs.length (xs.length + 8) (by omega) (by omega) (xs.length : Int) ((xs.length : Int) + 8) rfl (by omega)
  go_enter Tryz.func37, Tryz.ntmps37
  go_wp2_with ((with_reducible refine at_builtin_ (b := .copy) rfl ?_); go_must (refine copy_u8 rfl _ _ rfl w.heap.size xs.length (xs.length + 8) A xs.length c xs (List.replicate (xs.length + 8) 0) rfl rfl (Blk.new w _ 5) (by omega) (by simp) (hr.alloc _) w.heap.size w (below_alloc (Below.refl _ w) _) (Nat.le_refl _) ?_; intro w1 hw1 hb1))
  have hO := Own.made (W := w1) (k := 8) (by simpa using hw1) w.heap.size (Nat.le_refl _) rfl (by omega)
  clear hmk
  go_wp2_with fail
  refine (width_uint64 _).mono ?_
  rintro e w' ⟨rfl, rfl⟩
  clear hw1
  go_wp2_with fail
  refine wp_loop_rounds 9 ?_
  rw [rounds_succ]
  go_wp2_with ((with_reducible refine at_builtin_ (b := .append) rfl ?_); go_must (refine app1_u8 rfl _ _ rfl w.heap.size _ _ _ ?_ ?_ ?_ ?_ hO hb1.size (xs.length + 1) ?_ ?_ w.heap.size w hb1 (Nat.le_refl _) ?_; rfl; rfl; omega; omega; (first | (simp; done) | (simp <;> omega)); omega); clear hO hb1; intro A1 c1 w1 hO hb1 _ _)
  rw [rounds_succ]
  go_wp2_with ((with_reducible refine at_builtin_ (b := .append) rfl ?_); go_must (refine app1_u8 rfl _ _ rfl w.heap.size _ _ _ ?_ ?_ ?_ ?_ hO hb1.size (xs.length + 2) ?_ ?_ w.heap.size w hb1 (Nat.le_refl _) ?_; rfl; rfl; omega; omega; (first | (simp; done) | (simp <;> omega)); omega); clear hO hb1; intro A1 c1 w1 hO hb1 _ _)
  rw [rounds_succ]
  go_wp2_with ((with_reducible refine at_builtin_ (b := .append) rfl ?_); go_must (refine app1_u8 rfl _ _ rfl w.heap.size _ _ _ ?_ ?_ ?_ ?_ hO hb1.size (xs.length + 3) ?_ ?_ w.heap.size w hb1 (Nat.le_refl _) ?_; rfl; rfl; omega; omega; (first | (simp; done) | (simp <;> omega)); omega); clear hO hb1; intro A1 c1 w1 hO hb1 _ _)
  rw [rounds_succ]
  go_wp2_with ((with_reducible refine at_builtin_ (b := .append) rfl ?_); go_must (refine app1_u8 rfl _ _ rfl w.heap.size _ _ _ ?_ ?_ ?_ ?_ hO hb1.size (xs.length + 4) ?_ ?_ w.heap.size w hb1 (Nat.le_refl _) ?_; rfl; rfl; omega; omega; (first | (simp; done) | (simp <;> omega)); omega); clear hO hb1; intro A1 c1 w1 hO hb1 _ _)
  rw [rounds_succ]
  go_wp2_with ((with_reducible refine at_builtin_ (b := .append) rfl ?_); go_must (refine app1_u8 rfl _ _ rfl w.heap.size _ _ _ ?_ ?_ ?_ ?_ hO hb1.size (xs.length + 5) ?_ ?_ w.heap.size w hb1 (Nat.le_refl _) ?_; rfl; rfl; omega; omega; (first | (simp; done) | (simp <;> omega)); omega); clear hO hb1; intro A1 c1 w1 hO hb1 _ _)
  rw [rounds_succ]
  go_wp2_with ((with_reducible refine at_builtin_ (b := .append) rfl ?_); go_must (refine app1_u8 rfl _ _ rfl w.heap.size _ _ _ ?_ ?_ ?_ ?_ hO hb1.size (xs.length + 6) ?_ ?_ w.heap.size w hb1 (Nat.le_refl _) ?_; rfl; rfl; omega; omega; (first | (simp; done) | (simp <;> omega)); omega); clear hO hb1; intro A1 c1 w1 hO hb1 _ _)
  rw [rounds_succ]
  go_wp2_with ((with_reducible refine at_builtin_ (b := .append) rfl ?_); go_must (refine app1_u8 rfl _ _ rfl w.heap.size _ _ _ ?_ ?_ ?_ ?_ hO hb1.size (xs.length + 7) ?_ ?_ w.heap.size w hb1 (Nat.le_refl _) ?_; rfl; rfl; omega; omega; (first | (simp; done) | (simp <;> omega)); omega); clear hO hb1; intro A1 c1 w1 hO hb1 _ _)
  rw [rounds_succ]
  go_wp2_with ((with_reducible refine at_builtin_ (b := .append) rfl ?_); go_must (refine app1_u8 rfl _ _ rfl w.heap.size _ _ _ ?_ ?_ ?_ ?_ hO hb1.size (xs.length + 8) ?_ ?_ w.heap.size w hb1 (Nat.le_refl _) ?_; rfl; rfl; omega; omega; (first | (simp; done) | (simp <;> omega)); omega); clear hO hb1; intro A1 c1 w1 hO hb1 _ _)
  rw [rounds_succ]
  go_wp2
  go_ret
  exact ⟨_, _, rfl, Own.eq_ hO (by simp only [leBytes_succ, leBytes_zero, List.append_assoc, List.cons_append, List.nil_append]; refine congrArg (xs ++ ·) ?_; simp only [List.cons.injEq, and_true]; (repeat' refine And.intro ?_ ?_) <;> (refine u8_of ?_; omega)), hb1⟩

def Euint64 (b0 b1 b2 b3 b4 b5 b6 b7 : UInt8) : Int := bits .or .u64 (bits .or .u64 (bits .or .u64 (bits .or .u64 (bits .or .u64 (bits .or .u64 (bits .or .u64 (bits .or .u64 0 (b0.toNat : Int)) ((b1.toNat : Int) * 256)) ((b2.toNat : Int) * 65536)) ((b3.toNat : Int) * 16777216)) ((b4.toNat : Int) * 4294967296)) ((b5.toNat : Int) * 1099511627776)) ((b6.toNat : Int) * 281474976710656)) ((b7.toNat : Int) * 72057594037927936)

set_option maxHeartbeats 1600000 in
set_option maxRecDepth 100000 in
theorem get_uint64 (A : Option Addr) (n c : Nat) (bs : List UInt8) (w : World) (hr : Rd w A n (bvs bs)) (hc : n ≤ c) (hn : 8 ≤ n) :
    Calls Tryz.prog 38 #[.slice A n c] w fun e w' => e = .returned (.tuple #[.int .u64 ((leNum (bs.take 8) : Nat) : Int), .bool true]) ∧ Drawn w w' := by
  have hl := hr.len
  have hmx := hr.2.1
  obtain ⟨b0, b1, b2, b3, b4, b5, b6, b7, r, rfl⟩ : ∃ b0 b1 b2 b3 b4 b5 b6 b7 r, bs = b0 :: b1 :: b2 :: b3 :: b4 :: b5 :: b6 :: b7 :: r := by
    match bs, hl with
    | b0 :: b1 :: b2 :: b3 :: b4 :: b5 :: b6 :: b7 :: r, _ => exact ⟨b0, b1, b2, b3, b4, b5, b6, b7, r, rfl⟩
    | [], h => simp at h; omega
    | [_], h => simp at h; omega
    | [_, _], h => simp at h; omega
    | [_, _, _], h => simp at h; omega
    | [_, _, _, _], h => simp at h; omega
    | [_, _, _, _, _], h => simp at h; omega
    | [_, _, _, _, _, _], h => simp at h; omega
    | [_, _, _, _, _, _, _], h => simp at h; omega
  obtain ⟨ad, rfl, h0⟩ := hr.split 0 b0 rfl
  obtain ⟨_, e1, h1⟩ := hr.split 1 b1 rfl
  obtain rfl := Option.some.inj e1
  obtain ⟨_, e2, h2⟩ := hr.split 2 b2 rfl
  obtain rfl := Option.some.inj e2
  obtain ⟨_, e3, h3⟩ := hr.split 3 b3 rfl
  obtain rfl := Option.some.inj e3
  obtain ⟨_, e4, h4⟩ := hr.split 4 b4 rfl
  obtain rfl := Option.some.inj e4
  obtain ⟨_, e5, h5⟩ := hr.split 5 b5 rfl
  obtain rfl := Option.some.inj e5
  obtain ⟨_, e6, h6⟩ := hr.split 6 b6 rfl
  obtain rfl := Option.some.inj e6
  obtain ⟨_, e7, h7⟩ := hr.split 7 b7 rfl
  obtain rfl := Option.some.inj e7
  replace h0 : w.cell? ad = some (.int .u8 (b0.toNat : Int)) := h0
  replace h1 : w.cell? ⟨ad.block, ad.off + 1, none⟩ = some (.int .u8 (b1.toNat : Int)) := h1
  replace h2 : w.cell? ⟨ad.block, ad.off + 2, none⟩ = some (.int .u8 (b2.toNat : Int)) := h2
  replace h3 : w.cell? ⟨ad.block, ad.off + 3, none⟩ = some (.int .u8 (b3.toNat : Int)) := h3
  replace h4 : w.cell? ⟨ad.block, ad.off + 4, none⟩ = some (.int .u8 (b4.toNat : Int)) := h4
  replace h5 : w.cell? ⟨ad.block, ad.off + 5, none⟩ = some (.int .u8 (b5.toNat : Int)) := h5
  replace h6 : w.cell? ⟨ad.block, ad.off + 6, none⟩ = some (.int .u8 (b6.toNat : Int)) := h6
  replace h7 : w.cell? ⟨ad.block, ad.off + 7, none⟩ = some (.int .u8 (b7.toNat : Int)) := h7
  have u0 := b0.toNat_lt
  have u1 := b1.toNat_lt
  have u2 := b2.toNat_lt
  have u3 := b3.toNat_lt
  have u4 := b4.toNat_lt
  have u5 := b5.toNat_lt
  have u6 := b6.toNat_lt
  have u7 := b7.toNat_lt
  have hcc : 8 ≤ c := by omega
  have HQ := Lib.hid (show Euint64 b0 b1 b2 b3 b4 b5 b6 b7 = ((leNum (List.take 8 (b0 :: b1 :: b2 :: b3 :: b4 :: b5 :: b6 :: b7 :: r)) : Nat) : Int) by
    unfold Euint64
    have q0 := or_zero64 (b0.toNat : Int) (by omega) (by omega)
    have q1 := or_addm 8 256 ((b0.toNat : Int)) (b1.toNat : Int) (by decide) (by omega) (by omega) (by omega) (by omega) (by omega)
    have q2 := or_addm 16 65536 ((b0.toNat : Int) + (b1.toNat : Int) * 256) (b2.toNat : Int) (by decide) (by omega) (by omega) (by omega) (by omega) (by omega)
    have q3 := or_addm 24 16777216 ((b0.toNat : Int) + (b1.toNat : Int) * 256 + (b2.toNat : Int) * 65536) (b3.toNat : Int) (by decide) (by omega) (by omega) (by omega) (by omega) (by omega)
    have q4 := or_addm 32 4294967296 ((b0.toNat : Int) + (b1.toNat : Int) * 256 + (b2.toNat : Int) * 65536 + (b3.toNat : Int) * 16777216) (b4.toNat : Int) (by decide) (by omega) (by omega) (by omega) (by omega) (by omega)
    have q5 := or_addm 40 1099511627776 ((b0.toNat : Int) + (b1.toNat : Int) * 256 + (b2.toNat : Int) * 65536 + (b3.toNat : Int) * 16777216 + (b4.toNat : Int) * 4294967296) (b5.toNat : Int) (by decide) (by omega) (by omega) (by omega) (by omega) (by omega)
    have q6 := or_addm 48 281474976710656 ((b0.toNat : Int) + (b1.toNat : Int) * 256 + (b2.toNat : Int) * 65536 + (b3.toNat : Int) * 16777216 + (b4.toNat : Int) * 4294967296 + (b5.toNat : Int) * 1099511627776) (b6.toNat : Int) (by decide) (by omega) (by omega) (by omega) (by omega) (by omega)
    have q7 := or_addm 56 72057594037927936 ((b0.toNat : Int) + (b1.toNat : Int) * 256 + (b2.toNat : Int) * 65536 + (b3.toNat : Int) * 16777216 + (b4.toNat : Int) * 4294967296 + (b5.toNat : Int) * 1099511627776 + (b6.toNat : Int) * 281474976710656) (b7.toNat : Int) (by decide) (by omega) (by omega) (by omega) (by omega) (by omega)
    rw [q0, q1, q2, q3, q4, q5, q6, q7]
    simp [leNum]
    try omega)
  clear hl hr e1 e2 e3 e4 e5 e6 e7
  go_enter Tryz.func38, Tryz.ntmps38
  go_wp2_with fail
  refine (width_uint64 _).mono ?_
  rintro e w' ⟨rfl, rfl⟩
  go_wp2_with fail
  go_rounds 9
  go_ret2
  exact ⟨ret_pair (by rw [← HQ.out]; rfl), Drawn.refl _⟩
set_option maxHeartbeats 800000 in
set_option maxRecDepth 100000 in
theorem getno_uint64 (A : Option Addr) (n c : Nat) (w : World) (hn : n < 8) :
    Calls Tryz.prog 38 #[.slice A n c] w fun e w' => e = .returned (.tuple #[.int .u64 0, .bool false]) ∧ Drawn w w' := by
  go_enter Tryz.func38, Tryz.ntmps38
  go_wp2_with fail
  refine (width_uint64 _).mono ?_
  rintro e w' ⟨rfl, rfl⟩
  go_wp2_with fail
  go_ret2
  exact ⟨rfl, Drawn.refl _⟩

set_option maxHeartbeats 800000 in
set_option maxRecDepth 100000 in
theorem width_Tiny (w : World) : Calls Tryz.prog 108 #[] w fun e w' => e = .returned (.int .i64 1) ∧ w' = w := by
  go_enter Tryz.func108, Tryz.ntmps108
  go_wp2
  go_rounds 3
  go_ret
  exact ⟨rfl, rfl⟩

set_option maxHeartbeats 1600000 in
set_option maxRecDepth 100000 in
theorem put_Tiny (A : Option Addr) (n c : Nat) (xs : List UInt8) (x : Nat) (w : World) (hx : x < 256) (hr : Rd w A n (bvs xs)) (hn : n ≤ 140737488351232) :
    Calls Tryz.prog 40 #[.slice A n c, .int .u8 (x : Int)] w fun e w' => ∃ A' c', e = .returned (.slice A' (n + 1) c') ∧ Own w' w.heap.size (.slice A' (n + 1) c') (xs ++ leBytes 1 x) ∧ Below w.heap.size w w' := by
  have hl := hr.len
  subst hl
  have hmk := makecap_u8 xs.length (xs.length + 8) (by omega) (by omega) (xs.length : Int) ((xs.length : Int) + 8) rfl (by omega)
  go_enter Tryz.func40, Tryz.ntmps40
  go_wp2_with ((with_reducible refine at_builtin_ (b := .copy) rfl ?_); go_must (refine copy_u8 rfl _ _ rfl w.heap.size xs.length (xs.length + 8) A xs.length c xs (List.replicate (xs.length + 8) 0) rfl rfl (Blk.new w _ 5) (by omega) (by simp) (hr.alloc _) w.heap.size w (below_alloc (Below.refl _ w) _) (Nat.le_refl _) ?_; intro w1 hw1 hb1))
  have hO := Own.made (W := w1) (k := 8) (by simpa using hw1) w.heap.size (Nat.le_refl _) rfl (by omega)
  clear hmk
  go_wp2_with fail
  refine (width_Tiny _).mono ?_
  rintro e w' ⟨rfl, rfl⟩
  clear hw1
  go_wp2_with fail
  refine wp_loop_rounds 2 ?_
  rw [rounds_succ]
  go_wp2_with ((with_reducible refine at_builtin_ (b := .append) rfl ?_); go_must (refine app1_u8 rfl _ _ rfl w.heap.size _ _ _ ?_ ?_ ?_ ?_ hO hb1.size (xs.length + 1) ?_ ?_ w.heap.size w hb1 (Nat.le_refl _) ?_; rfl; rfl; omega; omega; (first | (simp; done) | (simp <;> omega)); omega); clear hO hb1; intro A1 c1 w1 hO hb1 _ _)
  rw [rounds_succ]
  go_wp2
  go_ret
  exact ⟨_, _, rfl, Own.eq_ hO (by simp only [leBytes_succ, leBytes_zero, List.append_assoc, List.cons_append, List.nil_append]; refine congrArg (xs ++ ·) ?_; simp only [List.cons.injEq, and_true]; (repeat' refine And.intro ?_ ?_) <;> (refine u8_of ?_; omega)), hb1⟩

def ETiny (b0 : UInt8) : Int := (bits .or .u64 0 (b0.toNat : Int)) % 256

set_option maxHeartbeats 1600000 in
set_option maxRecDepth 100000 in
theorem get_Tiny (A : Option Addr) (n c : Nat) (bs : List UInt8) (w : World) (hr : Rd w A n (bvs bs)) (hc : n ≤ c) (hn : 1 ≤ n) :
    Calls Tryz.prog 41 #[.slice A n c] w fun e w' => e = .returned (.tuple #[.int .u8 ((leNum (bs.take 1) : Nat) : Int), .bool true]) ∧ Drawn w w' := by
  have hl := hr.len
  have hmx := hr.2.1
  obtain ⟨b0, r, rfl⟩ : ∃ b0 r, bs = b0 :: r := by
    match bs, hl with
    | b0 :: r, _ => exact ⟨b0, r, rfl⟩
    | [], h => simp at h; omega
  obtain ⟨ad, rfl, h0⟩ := hr.split 0 b0 rfl
  replace h0 : w.cell? ad = some (.int .u8 (b0.toNat : Int)) := h0
  have u0 := b0.toNat_lt
  have hcc : 1 ≤ c := by omega
  have HQ := Lib.hid (show ETiny b0  = ((leNum (List.take 1 (b0 :: r)) : Nat) : Int) by
    unfold ETiny
    have q0 := or_zero64 (b0.toNat : Int) (by omega) (by omega)
    rw [q0]
    simp [leNum]
    try omega)
  clear hl hr 
  go_enter Tryz.func41, Tryz.ntmps41
  go_wp2_with fail
  refine (width_Tiny _).mono ?_
  rintro e w' ⟨rfl, rfl⟩
  go_wp2_with fail
  go_rounds 2
  go_ret2
  exact ⟨ret_pair (by rw [← HQ.out]; rfl), Drawn.refl _⟩
set_option maxHeartbeats 800000 in
set_option maxRecDepth 100000 in
theorem getno_Tiny (A : Option Addr) (n c : Nat) (w : World) (hn : n < 1) :
    Calls Tryz.prog 41 #[.slice A n c] w fun e w' => e = .returned (.tuple #[.int .u8 0, .bool false]) ∧ Drawn w w' := by
  go_enter Tryz.func41, Tryz.ntmps41
  go_wp2_with fail
  refine (width_Tiny _).mono ?_
  rintro e w' ⟨rfl, rfl⟩
  go_wp2_with fail
  go_ret2
  exact ⟨rfl, Drawn.refl _⟩

set_option maxHeartbeats 800000 in
set_option maxRecDepth 100000 in
theorem width_Small (w : World) : Calls Tryz.prog 113 #[] w fun e w' => e = .returned (.int .i64 2) ∧ w' = w := by
  go_enter Tryz.func113, Tryz.ntmps113
  go_wp2
  go_rounds 4
  go_ret
  exact ⟨rfl, rfl⟩

set_option maxHeartbeats 1600000 in
set_option maxRecDepth 100000 in
theorem put_Small (A : Option Addr) (n c : Nat) (xs : List UInt8) (x : Nat) (w : World) (hx : x < 65536) (hr : Rd w A n (bvs xs)) (hn : n ≤ 140737488351232) :
    Calls Tryz.prog 43 #[.slice A n c, .int .u16 (x : Int)] w fun e w' => ∃ A' c', e = .returned (.slice A' (n + 2) c') ∧ Own w' w.heap.size (.slice A' (n + 2) c') (xs ++ leBytes 2 x) ∧ Below w.heap.size w w' := by
  have hl := hr.len
  subst hl
  have hmk := makecap_u8 xs.length (xs.length + 8) (by omega) (by omega) (xs.length : Int) ((xs.length : Int) + 8) rfl (by omega)
  go_enter Tryz.func43, Tryz.ntmps43
  go_wp2_with ((with_reducible refine at_builtin_ (b := .copy) rfl ?_); go_must (refine copy_u8 rfl _ _ rfl w.heap.size xs.length (xs.length + 8) A xs.length c xs (List.replicate (xs.length + 8) 0) rfl rfl (Blk.new w _ 5) (by omega) (by simp) (hr.alloc _) w.heap.size w (below_alloc (Below.refl _ w) _) (Nat.le_refl _) ?_; intro w1 hw1 hb1))
  have hO := Own.made (W := w1) (k := 8) (by simpa using hw1) w.heap.size (Nat.le_refl _) rfl (by omega)
  clear hmk
  go_wp2_with fail
  refine (width_Small _).mono ?_
  rintro e w' ⟨rfl, rfl⟩
  clear hw1
  go_wp2_with fail
  refine wp_loop_rounds 3 ?_
  rw [rounds_succ]
  go_wp2_with ((with_reducible refine at_builtin_ (b := .append) rfl ?_); go_must (refine app1_u8 rfl _ _ rfl w.heap.size _ _ _ ?_ ?_ ?_ ?_ hO hb1.size (xs.length + 1) ?_ ?_ w.heap.size w hb1 (Nat.le_refl _) ?_; rfl; rfl; omega; omega; (first | (simp; done) | (simp <;> omega)); omega); clear hO hb1; intro A1 c1 w1 hO hb1 _ _)
  rw [rounds_succ]
  go_wp2_with ((with_reducible refine at_builtin_ (b := .append) rfl ?_); go_must (refine app1_u8 rfl _ _ rfl w.heap.size _ _ _ ?_ ?_ ?_ ?_ hO hb1.size (xs.length + 2) ?_ ?_ w.heap.size w hb1 (Nat.le_refl _) ?_; rfl; rfl; omega; omega; (first | (simp; done) | (simp <;> omega)); omega); clear hO hb1; intro A1 c1 w1 hO hb1 _ _)
  rw [rounds_succ]
  go_wp2
  go_ret
  exact ⟨_, _, rfl, Own.eq_ hO (by simp only [leBytes_succ, leBytes_zero, List.append_assoc, List.cons_append, List.nil_append]; refine congrArg (xs ++ ·) ?_; simp only [List.cons.injEq, and_true]; (repeat' refine And.intro ?_ ?_) <;> (refine u8_of ?_; omega)), hb1⟩

def ESmall (b0 b1 : UInt8) : Int := (bits .or .u64 (bits .or .u64 0 (b0.toNat : Int)) ((b1.toNat : Int) * 256)) % 65536

set_option maxHeartbeats 1600000 in
set_option maxRecDepth 100000 in
theorem get_Small (A : Option Addr) (n c : Nat) (bs : List UInt8) (w : World) (hr : Rd w A n (bvs bs)) (hc : n ≤ c) (hn : 2 ≤ n) :
    Calls Tryz.prog 44 #[.slice A n c] w fun e w' => e = .returned (.tuple #[.int .u16 ((leNum (bs.take 2) : Nat) : Int), .bool true]) ∧ Drawn w w' := by
  have hl := hr.len
  have hmx := hr.2.1
  obtain ⟨b0, b1, r, rfl⟩ : ∃ b0 b1 r, bs = b0 :: b1 :: r := by
    match bs, hl with
    | b0 :: b1 :: r, _ => exact ⟨b0, b1, r, rfl⟩
    | [], h => simp at h; omega
    | [_], h => simp at h; omega
  obtain ⟨ad, rfl, h0⟩ := hr.split 0 b0 rfl
  obtain ⟨_, e1, h1⟩ := hr.split 1 b1 rfl
  obtain rfl := Option.some.inj e1
  replace h0 : w.cell? ad = some (.int .u8 (b0.toNat : Int)) := h0
  replace h1 : w.cell? ⟨ad.block, ad.off + 1, none⟩ = some (.int .u8 (b1.toNat : Int)) := h1
  have u0 := b0.toNat_lt
  have u1 := b1.toNat_lt
  have hcc : 2 ≤ c := by omega
  have HQ := Lib.hid (show ESmall b0 b1 = ((leNum (List.take 2 (b0 :: b1 :: r)) : Nat) : Int) by
    unfold ESmall
    have q0 := or_zero64 (b0.toNat : Int) (by omega) (by omega)
    have q1 := or_addm 8 256 ((b0.toNat : Int)) (b1.toNat : Int) (by decide) (by omega) (by omega) (by omega) (by omega) (by omega)
    rw [q0, q1]
    simp [leNum]
    try omega)
  clear hl hr e1
  go_enter Tryz.func44, Tryz.ntmps44
  go_wp2_with fail
  refine (width_Small _).mono ?_
  rintro e w' ⟨rfl, rfl⟩
  go_wp2_with fail
  go_rounds 3
  go_ret2
  exact ⟨ret_pair (by rw [← HQ.out]; rfl), Drawn.refl _⟩
set_option maxHeartbeats 800000 in
set_option maxRecDepth 100000 in
theorem getno_Small (A : Option Addr) (n c : Nat) (w : World) (hn : n < 2) :
    Calls Tryz.prog 44 #[.slice A n c] w fun e w' => e = .returned (.tuple #[.int .u16 0, .bool false]) ∧ Drawn w w' := by
  go_enter Tryz.func44, Tryz.ntmps44
  go_wp2_with fail
  refine (width_Small _).mono ?_
  rintro e w' ⟨rfl, rfl⟩
  go_wp2_with fail
  go_ret2
  exact ⟨rfl, Drawn.refl _⟩

set_option maxHeartbeats 800000 in
set_option maxRecDepth 100000 in
theorem width_Plain (w : World) : Calls Tryz.prog 118 #[] w fun e w' => e = .returned (.int .i64 4) ∧ w' = w := by
  go_enter Tryz.func118, Tryz.ntmps118
  go_wp2
  go_rounds 6
  go_ret
  exact ⟨rfl, rfl⟩

set_option maxHeartbeats 1600000 in
set_option maxRecDepth 100000 in
theorem put_Plain (A : Option Addr) (n c : Nat) (xs : List UInt8) (x : Nat) (w : World) (hx : x < 4294967296) (hr : Rd w A n (bvs xs)) (hn : n ≤ 140737488351232) :
    Calls Tryz.prog 46 #[.slice A n c, .int .u32 (x : Int)] w fun e w' => ∃ A' c', e = .returned (.slice A' (n + 4) c') ∧ Own w' w.heap.size (.slice A' (n + 4) c') (xs ++ leBytes 4 x) ∧ Below w.heap.size w w' := by
  have hl := hr.len
  subst hl
  have hmk := makecap_u8 xs.length (xs.length + 8) (by omega) (by omega) (xs.length : Int) ((xs.length : Int) + 8) rfl (by omega)
  go_enter Tryz.func46, Tryz.ntmps46
  go_wp2_with ((with_reducible refine at_builtin_ (b := .copy) rfl ?_); go_must (refine copy_u8 rfl _ _ rfl w.heap.size xs.length (xs.length + 8) A xs.length c xs (List.replicate (xs.length + 8) 0) rfl rfl (Blk.new w _ 5) (by omega) (by simp) (hr.alloc _) w.heap.size w (below_alloc (Below.refl _ w) _) (Nat.le_refl _) ?_; intro w1 hw1 hb1))
  have hO := Own.made (W := w1) (k := 8) (by simpa using hw1) w.heap.size (Nat.le_refl _) rfl (by omega)
  clear hmk
  go_wp2_with fail
  refine (width_Plain _).mono ?_
  rintro e w' ⟨rfl, rfl⟩
  clear hw1
  go_wp2_with fail
  refine wp_loop_rounds 5 ?_
  rw [rounds_succ]
  go_wp2_with ((with_reducible refine at_builtin_ (b := .append) rfl ?_); go_must (refine app1_u8 rfl _ _ rfl w.heap.size _ _ _ ?_ ?_ ?_ ?_ hO hb1.size (xs.length + 1) ?_ ?_ w.heap.size w hb1 (Nat.le_refl _) ?_; rfl; rfl; omega; omega; (first | (simp; done) | (simp <;> omega)); omega); clear hO hb1; intro A1 c1 w1 hO hb1 _ _)
  rw [rounds_succ]
  go_wp2_with ((with_reducible refine at_builtin_ (b := .append) rfl ?_); go_must (refine app1_u8 rfl _ _ rfl w.heap.size _ _ _ ?_ ?_ ?_ ?_ hO hb1.size (xs.length + 2) ?_ ?_ w.heap.size w hb1 (Nat.le_refl _) ?_; rfl; rfl; omega; omega; (first | (simp; done) | (simp <;> omega)); omega); clear hO hb1; intro A1 c1 w1 hO hb1 _ _)
  rw [rounds_succ]
  go_wp2_with ((with_reducible refine at_builtin_ (b := .append) rfl ?_); go_must (refine app1_u8 rfl _ _ rfl w.heap.size _ _ _ ?_ ?_ ?_ ?_ hO hb1.size (xs.length + 3) ?_ ?_ w.heap.size w hb1 (Nat.le_refl _) ?_; rfl; rfl; omega; omega; (first | (simp; done) | (simp <;> omega)); omega); clear hO hb1; intro A1 c1 w1 hO hb1 _ _)
  rw [rounds_succ]
  go_wp2_with ((with_reducible refine at_builtin_ (b := .append) rfl ?_); go_must (refine app1_u8 rfl _ _ rfl w.heap.size _ _ _ ?_ ?_ ?_ ?_ hO hb1.size (xs.length + 4) ?_ ?_ w.heap.size w hb1 (Nat.le_refl _) ?_; rfl; rfl; omega; omega; (first | (simp; done) | (simp <;> omega)); omega); clear hO hb1; intro A1 c1 w1 hO hb1 _ _)
  rw [rounds_succ]
  go_wp2
  go_ret
  exact ⟨_, _, rfl, Own.eq_ hO (by simp only [leBytes_succ, leBytes_zero, List.append_assoc, List.cons_append, List.nil_append]; refine congrArg (xs ++ ·) ?_; simp only [List.cons.injEq, and_true]; (repeat' refine And.intro ?_ ?_) <;> (refine u8_of ?_; omega)), hb1⟩

def EPlain (b0 b1 b2 b3 : UInt8) : Int := (bits .or .u64 (bits .or .u64 (bits .or .u64 (bits .or .u64 0 (b0.toNat : Int)) ((b1.toNat : Int) * 256)) ((b2.toNat : Int) * 65536)) ((b3.toNat : Int) * 16777216)) % 4294967296

set_option maxHeartbeats 1600000 in
set_option maxRecDepth 100000 in
theorem get_Plain (A : Option Addr) (n c : Nat) (bs : List UInt8) (w : World) (hr : Rd w A n (bvs bs)) (hc : n ≤ c) (hn : 4 ≤ n) :
    Calls Tryz.prog 47 #[.slice A n c] w fun e w' => e = .returned (.tuple #[.int .u32 ((leNum (bs.take 4) : Nat) : Int), .bool true]) ∧ Drawn w w' := by
  have hl := hr.len
  have hmx := hr.2.1
  obtain ⟨b0, b1, b2, b3, r, rfl⟩ : ∃ b0 b1 b2 b3 r, bs = b0 :: b1 :: b2 :: b3 :: r := by
    match bs, hl with
    | b0 :: b1 :: b2 :: b3 :: r, _ => exact ⟨b0, b1, b2, b3, r, rfl⟩
    | [], h => simp at h; omega
    | [_], h => simp at h; omega
    | [_, _], h => simp at h; omega
    | [_, _, _], h => simp at h; omega
  obtain ⟨ad, rfl, h0⟩ := hr.split 0 b0 rfl
  obtain ⟨_, e1, h1⟩ := hr.split 1 b1 rfl
  obtain rfl := Option.some.inj e1
  obtain ⟨_, e2, h2⟩ := hr.split 2 b2 rfl
  obtain rfl := Option.some.inj e2
  obtain ⟨_, e3, h3⟩ := hr.split 3 b3 rfl
  obtain rfl := Option.some.inj e3
  replace h0 : w.cell? ad = some (.int .u8 (b0.toNat : Int)) := h0
  replace h1 : w.cell? ⟨ad.block, ad.off + 1, none⟩ = some (.int .u8 (b1.toNat : Int)) := h1
  replace h2 : w.cell? ⟨ad.block, ad.off + 2, none⟩ = some (.int .u8 (b2.toNat : Int)) := h2
  replace h3 : w.cell? ⟨ad.block, ad.off + 3, none⟩ = some (.int .u8 (b3.toNat : Int)) := h3
  have u0 := b0.toNat_lt
  have u1 := b1.toNat_lt
  have u2 := b2.toNat_lt
  have u3 := b3.toNat_lt
  have hcc : 4 ≤ c := by omega
  have HQ := Lib.hid (show EPlain b0 b1 b2 b3 = ((leNum (List.take 4 (b0 :: b1 :: b2 :: b3 :: r)) : Nat) : Int) by
    unfold EPlain
    have q0 := or_zero64 (b0.toNat : Int) (by omega) (by omega)
    have q1 := or_addm 8 256 ((b0.toNat : Int)) (b1.toNat : Int) (by decide) (by omega) (by omega) (by omega) (by omega) (by omega)
    have q2 := or_addm 16 65536 ((b0.toNat : Int) + (b1.toNat : Int) * 256) (b2.toNat : Int) (by decide) (by omega) (by omega) (by omega) (by omega) (by omega)
    have q3 := or_addm 24 16777216 ((b0.toNat : Int) + (b1.toNat : Int) * 256 + (b2.toNat : Int) * 65536) (b3.toNat : Int) (by decide) (by omega) (by omega) (by omega) (by omega) (by omega)
    rw [q0, q1, q2, q3]
    simp [leNum]
    try omega)
  clear hl hr e1 e2 e3
  go_enter Tryz.func47, Tryz.ntmps47
  go_wp2_with fail
  refine (width_Plain _).mono ?_
  rintro e w' ⟨rfl, rfl⟩
  go_wp2_with fail
  go_rounds 5
  go_ret2
  exact ⟨ret_pair (by rw [← HQ.out]; rfl), Drawn.refl _⟩
set_option maxHeartbeats 800000 in
set_option maxRecDepth 100000 in
theorem getno_Plain (A : Option Addr) (n c : Nat) (w : World) (hn : n < 4) :
    Calls Tryz.prog 47 #[.slice A n c] w fun e w' => e = .returned (.tuple #[.int .u32 0, .bool false]) ∧ Drawn w w' := by
  go_enter Tryz.func47, Tryz.ntmps47
  go_wp2_with fail
  refine (width_Plain _).mono ?_
  rintro e w' ⟨rfl, rfl⟩
  go_wp2_with fail
  go_ret2
  exact ⟨rfl, Drawn.refl _⟩

set_option maxHeartbeats 800000 in
set_option maxRecDepth 100000 in
theorem width_Great (w : World) : Calls Tryz.prog 123 #[] w fun e w' => e = .returned (.int .i64 8) ∧ w' = w := by
  go_enter Tryz.func123, Tryz.ntmps123
  go_wp2
  go_rounds 10
  go_ret
  exact ⟨rfl, rfl⟩

set_option maxHeartbeats 1600000 in
set_option maxRecDepth 100000 in
theorem put_Great (A : Option Addr) (n c : Nat) (xs : List UInt8) (x : Nat) (w : World) (hx : x < 18446744073709551616) (hr : Rd w A n (bvs xs)) (hn : n ≤ 140737488351232) :
    Calls Tryz.prog 49 #[.slice A n c, .int .u64 (x : Int)] w fun e w' => ∃ A' c', e = .returned (.slice A' (n + 8) c') ∧ Own w' w.heap.size (.slice A' (n + 8) c') (xs ++ leBytes 8 x) ∧ Below w.heap.size w w' := by
  have hl := hr.len
  subst hl
  have hmk := makecap_u8 xs.length (xs.length + 8) (by omega) (by omega) (xs.length : Int) ((xs.length : Int) + 8) rfl (by omega)
  go_enter Tryz.func49, Tryz.ntmps49
  go_wp2_with ((with_reducible refine at_builtin_ (b := .copy) rfl ?_); go_must (refine copy_u8 rfl _ _ rfl w.heap.size xs.length (xs.length + 8) A xs.length c xs (List.replicate (xs.length + 8) 0) rfl rfl (Blk.new w _ 5) (by omega) (by simp) (hr.alloc _) w.heap.size w (below_alloc (Below.refl _ w) _) (Nat.le_refl _) ?_; intro w1 hw1 hb1))
  have hO := Own.made (W := w1) (k := 8) (by simpa using hw1) w.heap.size (Nat.le_refl _) rfl (by omega)
  clear hmk
  go_wp2_with fail
  refine (width_Great _).mono ?_
  rintro e w' ⟨rfl, rfl⟩
  clear hw1
  go_wp2_with fail
  refine wp_loop_rounds 9 ?_
  rw [rounds_succ]
  go_wp2_with ((with_reducible refine at_builtin_ (b := .append) rfl ?_); go_must (refine app1_u8 rfl _ _ rfl w.heap.size _ _ _ ?_ ?_ ?_ ?_ hO hb1.size (xs.length + 1) ?_ ?_ w.heap.size w hb1 (Nat.le_refl _) ?_; rfl; rfl; omega; omega; (first | (simp; done) | (simp <;> omega)); omega); clear hO hb1; intro A1 c1 w1 hO hb1 _ _)
  rw [rounds_succ]
  go_wp2_with ((with_reducible refine at_builtin_ (b := .append) rfl ?_); go_must (refine app1_u8 rfl _ _ rfl w.heap.size _ _ _ ?_ ?_ ?_ ?_ hO hb1.size (xs.length + 2) ?_ ?_ w.heap.size w hb1 (Nat.le_refl _) ?_; rfl; rfl; omega; omega; (first | (simp; done) | (simp <;> omega)); omega); clear hO hb1; intro A1 c1 w1 hO hb1 _ _)
  rw [rounds_succ]
  go_wp2_with ((with_reducible refine at_builtin_ (b := .append) rfl ?_); go_must (refine app1_u8 rfl _ _ rfl w.heap.size _ _ _ ?_ ?_ ?_ ?_ hO hb1.size (xs.length + 3) ?_ ?_ w.heap.size w hb1 (Nat.le_refl _) ?_; rfl; rfl; omega; omega; (first | (simp; done) | (simp <;> omega)); omega); clear hO hb1; intro A1 c1 w1 hO hb1 _ _)
  rw [rounds_succ]
  go_wp2_with ((with_reducible refine at_builtin_ (b := .append) rfl ?_); go_must (refine app1_u8 rfl _ _ rfl w.heap.size _ _ _ ?_ ?_ ?_ ?_ hO hb1.size (xs.length + 4) ?_ ?_ w.heap.size w hb1 (Nat.le_refl _) ?_; rfl; rfl; omega; omega; (first | (simp; done) | (simp <;> omega)); omega); clear hO hb1; intro A1 c1 w1 hO hb1 _ _)
  rw [rounds_succ]
  go_wp2_with ((with_reducible refine at_builtin_ (b := .append) rfl ?_); go_must (refine app1_u8 rfl _ _ rfl w.heap.size _ _ _ ?_ ?_ ?_ ?_ hO hb1.size (xs.length + 5) ?_ ?_ w.heap.size w hb1 (Nat.le_refl _) ?_; rfl; rfl; omega; omega; (first | (simp; done) | (simp <;> omega)); omega); clear hO hb1; intro A1 c1 w1 hO hb1 _ _)
  rw [rounds_succ]
  go_wp2_with ((with_reducible refine at_builtin_ (b := .append) rfl ?_); go_must (refine app1_u8 rfl _ _ rfl w.heap.size _ _ _ ?_ ?_ ?_ ?_ hO hb1.size (xs.length + 6) ?_ ?_ w.heap.size w hb1 (Nat.le_refl _) ?_; rfl; rfl; omega; omega; (first | (simp; done) | (simp <;> omega)); omega); clear hO hb1; intro A1 c1 w1 hO hb1 _ _)
  rw [rounds_succ]
  go_wp2_with ((with_reducible refine at_builtin_ (b := .append) rfl ?_); go_must (refine app1_u8 rfl _ _ rfl w.heap.size _ _ _ ?_ ?_ ?_ ?_ hO hb1.size (xs.length + 7) ?_ ?_ w.heap.size w hb1 (Nat.le_refl _) ?_; rfl; rfl; omega; omega; (first | (simp; done) | (simp <;> omega)); omega); clear hO hb1; intro A1 c1 w1 hO hb1 _ _)
  rw [rounds_succ]
  go_wp2_with ((with_reducible refine at_builtin_ (b := .append) rfl ?_); go_must (refine app1_u8 rfl _ _ rfl w.heap.size _ _ _ ?_ ?_ ?_ ?_ hO hb1.size (xs.length + 8) ?_ ?_ w.heap.size w hb1 (Nat.le_refl _) ?_; rfl; rfl; omega; omega; (first | (simp; done) | (simp <;> omega)); omega); clear hO hb1; intro A1 c1 w1 hO hb1 _ _)
  rw [rounds_succ]
  go_wp2
  go_ret
  exact ⟨_, _, rfl, Own.eq_ hO (by simp only [leBytes_succ, leBytes_zero, List.append_assoc, List.cons_append, List.nil_append]; refine congrArg (xs ++ ·) ?_; simp only [List.cons.injEq, and_true]; (repeat' refine And.intro ?_ ?_) <;> (refine u8_of ?_; omega)), hb1⟩

def EGreat (b0 b1 b2 b3 b4 b5 b6 b7 : UInt8) : Int := bits .or .u64 (bits .or .u64 (bits .or .u64 (bits .or .u64 (bits .or .u64 (bits .or .u64 (bits .or .u64 (bits .or .u64 0 (b0.toNat : Int)) ((b1.toNat : Int) * 256)) ((b2.toNat : Int) * 65536)) ((b3.toNat : Int) * 16777216)) ((b4.toNat : Int) * 4294967296)) ((b5.toNat : Int) * 1099511627776)) ((b6.toNat : Int) * 281474976710656)) ((b7.toNat : Int) * 72057594037927936)

set_option maxHeartbeats 1600000 in
set_option maxRecDepth 100000 in
theorem get_Great (A : Option Addr) (n c : Nat) (bs : List UInt8) (w : World) (hr : Rd w A n (bvs bs)) (hc : n ≤ c) (hn : 8 ≤ n) :
    Calls Tryz.prog 50 #[.slice A n c] w fun e w' => e = .returned (.tuple #[.int .u64 ((leNum (bs.take 8) : Nat) : Int), .bool true]) ∧ Drawn w w' := by
  have hl := hr.len
  have hmx := hr.2.1
  obtain ⟨b0, b1, b2, b3, b4, b5, b6, b7, r, rfl⟩ : ∃ b0 b1 b2 b3 b4 b5 b6 b7 r, bs = b0 :: b1 :: b2 :: b3 :: b4 :: b5 :: b6 :: b7 :: r := by
    match bs, hl with
    | b0 :: b1 :: b2 :: b3 :: b4 :: b5 :: b6 :: b7 :: r, _ => exact ⟨b0, b1, b2, b3, b4, b5, b6, b7, r, rfl⟩
    | [], h => simp at h; omega
    | [_], h => simp at h; omega
    | [_, _], h => simp at h; omega
    | [_, _, _], h => simp at h; omega
    | [_, _, _, _], h => simp at h; omega
    | [_, _, _, _, _], h => simp at h; omega
    | [_, _, _, _, _, _], h => simp at h; omega
    | [_, _, _, _, _, _, _], h => simp at h; omega
  obtain ⟨ad, rfl, h0⟩ := hr.split 0 b0 rfl
  obtain ⟨_, e1, h1⟩ := hr.split 1 b1 rfl
  obtain rfl := Option.some.inj e1
  obtain ⟨_, e2, h2⟩ := hr.split 2 b2 rfl
  obtain rfl := Option.some.inj e2
  obtain ⟨_, e3, h3⟩ := hr.split 3 b3 rfl
  obtain rfl := Option.some.inj e3
  obtain ⟨_, e4, h4⟩ := hr.split 4 b4 rfl
  obtain rfl := Option.some.inj e4
  obtain ⟨_, e5, h5⟩ := hr.split 5 b5 rfl
  obtain rfl := Option.some.inj e5
  obtain ⟨_, e6, h6⟩ := hr.split 6 b6 rfl
  obtain rfl := Option.some.inj e6
  obtain ⟨_, e7, h7⟩ := hr.split 7 b7 rfl
  obtain rfl := Option.some.inj e7
  replace h0 : w.cell? ad = some (.int .u8 (b0.toNat : Int)) := h0
  replace h1 : w.cell? ⟨ad.block, ad.off + 1, none⟩ = some (.int .u8 (b1.toNat : Int)) := h1
  replace h2 : w.cell? ⟨ad.block, ad.off + 2, none⟩ = some (.int .u8 (b2.toNat : Int)) := h2
  replace h3 : w.cell? ⟨ad.block, ad.off + 3, none⟩ = some (.int .u8 (b3.toNat : Int)) := h3
  replace h4 : w.cell? ⟨ad.block, ad.off + 4, none⟩ = some (.int .u8 (b4.toNat : Int)) := h4
  replace h5 : w.cell? ⟨ad.block, ad.off + 5, none⟩ = some (.int .u8 (b5.toNat : Int)) := h5
  replace h6 : w.cell? ⟨ad.block, ad.off + 6, none⟩ = some (.int .u8 (b6.toNat : Int)) := h6
  replace h7 : w.cell? ⟨ad.block, ad.off + 7, none⟩ = some (.int .u8 (b7.toNat : Int)) := h7
  have u0 := b0.toNat_lt
  have u1 := b1.toNat_lt
  have u2 := b2.toNat_lt
  have u3 := b3.toNat_lt
  have u4 := b4.toNat_lt
  have u5 := b5.toNat_lt
  have u6 := b6.toNat_lt
  have u7 := b7.toNat_lt
  have hcc : 8 ≤ c := by omega
  have HQ := Lib.hid (show EGreat b0 b1 b2 b3 b4 b5 b6 b7 = ((leNum (List.take 8 (b0 :: b1 :: b2 :: b3 :: b4 :: b5 :: b6 :: b7 :: r)) : Nat) : Int) by
    unfold EGreat
    have q0 := or_zero64 (b0.toNat : Int) (by omega) (by omega)
    have q1 := or_addm 8 256 ((b0.toNat : Int)) (b1.toNat : Int) (by decide) (by omega) (by omega) (by omega) (by omega) (by omega)
    have q2 := or_addm 16 65536 ((b0.toNat : Int) + (b1.toNat : Int) * 256) (b2.toNat : Int) (by decide) (by omega) (by omega) (by omega) (by omega) (by omega)
    have q3 := or_addm 24 16777216 ((b0.toNat : Int) + (b1.toNat : Int) * 256 + (b2.toNat : Int) * 65536) (b3.toNat : Int) (by decide) (by omega) (by omega) (by omega) (by omega) (by omega)
    have q4 := or_addm 32 4294967296 ((b0.toNat : Int) + (b1.toNat : Int) * 256 + (b2.toNat : Int) * 65536 + (b3.toNat : Int) * 16777216) (b4.toNat : Int) (by decide) (by omega) (by omega) (by omega) (by omega) (by omega)
    have q5 := or_addm 40 1099511627776 ((b0.toNat : Int) + (b1.toNat : Int) * 256 + (b2.toNat : Int) * 65536 + (b3.toNat : Int) * 16777216 + (b4.toNat : Int) * 4294967296) (b5.toNat : Int) (by decide) (by omega) (by omega) (by omega) (by omega) (by omega)
    have q6 := or_addm 48 281474976710656 ((b0.toNat : Int) + (b1.toNat : Int) * 256 + (b2.toNat : Int) * 65536 + (b3.toNat : Int) * 16777216 + (b4.toNat : Int) * 4294967296 + (b5.toNat : Int) * 1099511627776) (b6.toNat : Int) (by decide) (by omega) (by omega) (by omega) (by omega) (by omega)
    have q7 := or_addm 56 72057594037927936 ((b0.toNat : Int) + (b1.toNat : Int) * 256 + (b2.toNat : Int) * 65536 + (b3.toNat : Int) * 16777216 + (b4.toNat : Int) * 4294967296 + (b5.toNat : Int) * 1099511627776 + (b6.toNat : Int) * 281474976710656) (b7.toNat : Int) (by decide) (by omega) (by omega) (by omega) (by omega) (by omega)
    rw [q0, q1, q2, q3, q4, q5, q6, q7]
    simp [leNum]
    try omega)
  clear hl hr e1 e2 e3 e4 e5 e6 e7
  go_enter Tryz.func50, Tryz.ntmps50
  go_wp2_with fail
  refine (width_Great _).mono ?_
  rintro e w' ⟨rfl, rfl⟩
  go_wp2_with fail
  go_rounds 9
  go_ret2
  exact ⟨ret_pair (by rw [← HQ.out]; rfl), Drawn.refl _⟩
set_option maxHeartbeats 800000 in
set_option maxRecDepth 100000 in
theorem getno_Great (A : Option Addr) (n c : Nat) (w : World) (hn : n < 8) :
    Calls Tryz.prog 50 #[.slice A n c] w fun e w' => e = .returned (.tuple #[.int .u64 0, .bool false]) ∧ Drawn w w' := by
  go_enter Tryz.func50, Tryz.ntmps50
  go_wp2_with fail
  refine (width_Great _).mono ?_
  rintro e w' ⟨rfl, rfl⟩
  go_wp2_with fail
  go_ret2
  exact ⟨rfl, Drawn.refl _⟩

end Go.Proofs.YthdjddpomaendaaGreat.B
