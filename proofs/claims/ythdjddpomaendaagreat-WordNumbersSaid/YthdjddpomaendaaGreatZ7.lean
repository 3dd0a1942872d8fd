/- The walk of WordNumbers. -/
import Derived.Test.YthdjddpomaendaaGreatZ5
import Derived.Test.YthdjddpomaendaaGreatZ6
import Derived.Test.YthdjddpomaendaaGreatR0
namespace Go.Proofs.YthdjddpomaendaaGreat.B
open Go.RowKit
set_option linter.unusedVariables false
set_option linter.unusedSimpArgs false

theorem beyond1' (a : Nat) (ha : a ≤ 140737488351232) : beyondF 2147483647 [(a : Int)] = decide (2147483647 < a) := by
  simp only [beyondF]
  by_cases h : a ≤ 2147483647
  · rw [if_neg (by omega), decide_eq_false (by omega)]
  · rw [decide_eq_true (by omega), if_pos (by omega)]
theorem ivs1' (w : World) (x : Int) : Rd (w.alloc (.cells #[.int .i64 x] 3)) (some ⟨w.heap.size, 0, none⟩) 1 (ivs [x]) :=
  (Blk.new w (ivs [x]) 3).rd _ rfl (by omega) (fun j u hu => by rw [Nat.zero_add]; exact hu)
/-- A new book. -/
theorem NBk.new (W : World) (base : Nat) (hb : base ≤ W.heap.size) : NBk (W.alloc (.cells #[.slice none 0 0, .slice none 0 0, .int .i64 0, .bool false] 28)) base W.heap.size (.slice none 0 0) (.slice none 0 0) 0 [] :=
  ⟨⟨hb, rfl, by decide, by decide, Blk.new W _ _, Row.nil _ _ _ _, Row.nil _ _ _ _, fun b hb => by cases hb⟩, by unfold I64; omega, ⟨fun i hi => by simp at hi, List.Pairwise.nil⟩, by simp⟩

set_option maxHeartbeats 12800000 in
set_option maxRecDepth 100000 in
theorem numbers_walk (a b : Nat) (A : Option Addr) (n c : Nat) (p : List UInt8) (w : World) (ha : a < 18446744073709551616) (hb : b < 18446744073709551616) (hr : Rd w A n (bvs p)) (hn : n ≤ 140737488351232) :
    Calls Tryz.prog 3 #[.int .u64 (a : Int), .int .u64 (b : Int), .slice A n c] w fun r w' => r = .returned (.bool true) ∧ Below w.heap.size w w' := by
  have hbl := hr.len
  have hB0 : Below w.heap.size w (w.alloc (.cells #[.int .i64 (n : Int)] 3)) := below_alloc (Below.refl _ w) _
  have hbe := fun W (h : Rd W (some ⟨w.heap.size, 0, none⟩) 1 (ivs [(n : Int)])) => beyond_ (some ⟨w.heap.size, 0, none⟩) 1 1 [(n : Int)] W h (by intro x hx; simp at hx; omega)
  rw [beyond1' n hn] at hbe
  by_cases hbig : 2147483647 < n
  · rw [decide_eq_true hbig] at hbe
    clear hbl
    go_enter Tryz.func3, Tryz.ntmps3
    go_wp2_with fail
    refine (hbe _ (ivs1' w _)).mono ?_
    rintro e w1 ⟨rfl, ⟨nd, rfl⟩⟩
    go_wp2_with fail
    go_ret
    exact ⟨rfl, below_drewN hB0 nd⟩
  · rw [decide_eq_false hbig] at hbe
    have HR := Lib.hid hr
    have HBL := Lib.hid hbl
    obtain ⟨a1, q1, ha1⟩ : ∃ x : Nat, (a : Int) % 256 = (x : Int) ∧ x < 256 := ⟨a % 256, by omega, by omega⟩
    obtain ⟨b1, r1, hb1⟩ : ∃ x : Nat, (b : Int) % 256 = (x : Int) ∧ x < 256 := ⟨b % 256, by omega, by omega⟩
    obtain ⟨a2, q2, ha2⟩ : ∃ x : Nat, IntKind.u16.wrap (a : Int) = (x : Int) ∧ x < 65536 := ⟨a % 65536, by rw [wu16]; omega, by omega⟩
    obtain ⟨b2, r2, hb2⟩ : ∃ x : Nat, IntKind.u16.wrap (b : Int) = (x : Int) ∧ x < 65536 := ⟨b % 65536, by rw [wu16]; omega, by omega⟩
    obtain ⟨a4, q4, ha4⟩ : ∃ x : Nat, (a : Int) % 4294967296 = (x : Int) ∧ x < 4294967296 := ⟨a % 4294967296, by omega, by omega⟩
    obtain ⟨b4, r4, hb4⟩ : ∃ x : Nat, (b : Int) % 4294967296 = (x : Int) ∧ x < 4294967296 := ⟨b % 4294967296, by omega, by omega⟩
    have wa : IntKind.u64.wrap (a : Int) = (a : Int) := by rw [wu64]; omega
    have wb : IntKind.u64.wrap (b : Int) = (b : Int) := by rw [wu64]; omega
    clear hr hbl
    go_enter Tryz.func3, Tryz.ntmps3
    go_wp2_with fail
    refine (hbe _ (ivs1' w _)).mono ?_
    rintro e w1 ⟨rfl, hd⟩
    have hbw : Below w.heap.size w w1 := hB0.trans (hd.below _)
    have hs1 := hbw.size
    have hN := NBk.new w1 w.heap.size hs1
    have hB2 : Below w.heap.size w (w1.alloc (.cells #[.slice none 0 0, .slice none 0 0, .int .i64 0, .bool false] 28)) := below_alloc hbw _
    have HSR : ∀ W, Below w.heap.size w W → Hid (Src W w.heap.size A p) := fun W hW => Lib.hid (fun W' hW' => by have h := HR.out.below (hW.trans hW') (Nat.le_refl _); rwa [← HBL.out] at h)
    have HN := Lib.hid (And.intro hN hB2)
    clear hbe hB0 hd hbw hN hB2
    go_wp2_with fail
    refine (numbers_uint8 w.heap.size w1.heap.size A n c p _ _ 0 [] a1 b1 _ ha1 hb1 HBL.out (by omega) (HSR _ HN.out.2).out HN.out.1).mono ?_
    rintro r v1 ⟨rfl, vl1, vw1, nb1, I1, hN, hB⟩
    have HN1 := Lib.hid (And.intro hN (HN.out.2.trans hB))
    clear hN hB HN
    go_wp2_with fail
    refine (numbers_uint16 w.heap.size w1.heap.size A n c p vl1 vw1 nb1 I1 a2 b2 _ ha2 hb2 HBL.out (by omega) (HSR _ HN1.out.2).out HN1.out.1).mono ?_
    rintro r v2 ⟨rfl, vl2, vw2, nb2, I2, hN, hB⟩
    have HN2 := Lib.hid (And.intro hN (HN1.out.2.trans hB))
    clear hN hB HN1
    go_wp2_with fail
    refine (numbers_uint32 w.heap.size w1.heap.size A n c p vl2 vw2 nb2 I2 a4 b4 _ ha4 hb4 HBL.out (by omega) (HSR _ HN2.out.2).out HN2.out.1).mono ?_
    rintro r v3 ⟨rfl, vl3, vw3, nb3, I3, hN, hB⟩
    have HN3 := Lib.hid (And.intro hN (HN2.out.2.trans hB))
    clear hN hB HN2
    go_wp2_with fail
    refine (numbers_uint64 w.heap.size w1.heap.size A n c p vl3 vw3 nb3 I3 a b _ ha hb HBL.out (by omega) (HSR _ HN3.out.2).out HN3.out.1).mono ?_
    rintro r v4 ⟨rfl, vl4, vw4, nb4, I4, hN, hB⟩
    have HN4 := Lib.hid (And.intro hN (HN3.out.2.trans hB))
    clear hN hB HN3
    go_wp2_with fail
    refine (numbers_Tiny w.heap.size w1.heap.size A n c p vl4 vw4 nb4 I4 a1 b1 _ ha1 hb1 HBL.out (by omega) (HSR _ HN4.out.2).out HN4.out.1).mono ?_
    rintro r v5 ⟨rfl, vl5, vw5, nb5, I5, hN, hB⟩
    have HN5 := Lib.hid (And.intro hN (HN4.out.2.trans hB))
    clear hN hB HN4
    go_wp2_with fail
    refine (numbers_Small w.heap.size w1.heap.size A n c p vl5 vw5 nb5 I5 a2 b2 _ ha2 hb2 HBL.out (by omega) (HSR _ HN5.out.2).out HN5.out.1).mono ?_
    rintro r v6 ⟨rfl, vl6, vw6, nb6, I6, hN, hB⟩
    have HN6 := Lib.hid (And.intro hN (HN5.out.2.trans hB))
    clear hN hB HN5
    go_wp2_with fail
    refine (numbers_Plain w.heap.size w1.heap.size A n c p vl6 vw6 nb6 I6 a4 b4 _ ha4 hb4 HBL.out (by omega) (HSR _ HN6.out.2).out HN6.out.1).mono ?_
    rintro r v7 ⟨rfl, vl7, vw7, nb7, I7, hN, hB⟩
    have HN7 := Lib.hid (And.intro hN (HN6.out.2.trans hB))
    clear hN hB HN6
    go_wp2_with fail
    refine (numbers_Great w.heap.size w1.heap.size A n c p vl7 vw7 nb7 I7 a b _ ha hb HBL.out (by omega) (HSR _ HN7.out.2).out HN7.out.1).mono ?_
    rintro r v8 ⟨rfl, vl8, vw8, nb8, I8, hN, hB⟩
    have HN8 := Lib.hid (And.intro hN (HN7.out.2.trans hB))
    clear hN hB HN7
    go_wp2_with (first
      | (go_at_call 13; refine (lawto_uint8 _ _ (by omega)).mono ?_; rintro e w' ⟨rfl, rfl⟩)
      | (go_at_call 14; refine (lawto_uint16 _ _ (by omega)).mono ?_; rintro e w' ⟨rfl, rfl⟩)
      | (go_at_call 15; refine (lawto_uint32 _ _ (by omega)).mono ?_; rintro e w' ⟨rfl, rfl⟩)
      | (go_at_call 16; refine (lawto_uint64 _ _ (by omega)).mono ?_; rintro e w' ⟨rfl, rfl⟩)
      | (go_at_call 17; refine (lawto_Great _ _ (by omega)).mono ?_; rintro e w' ⟨rfl, rfl⟩)
      | (go_at_call 18; refine (lawto_Tiny _ _ (by omega)).mono ?_; rintro e w' ⟨rfl, rfl⟩))
    refine (apart_ w.heap.size w1.heap.size 0 _ _ _ _ _ I8 nb8 _ HN8.out.1.book HN8.out.1.kps (by have := HN8.out.1.sz; omega)).mono ?_
    rintro r w' ⟨rfl, hb⟩
    have HF := Lib.hid (HN8.out.2.trans hb)
    clear hb
    go_wp2_with fail
    go_ret
    exact ⟨rfl, HF.out⟩
end Go.Proofs.YthdjddpomaendaaGreat.B
