/- The walk of WordBursts. -/
import Derived.Test.YthdjddpomaendaaU1
import Derived.Test.YthdjddpomaendaaW3
namespace Go.Proofs.Ythdjddpomaendaa.B
open Go.RowKit
set_option linter.unusedVariables false
set_option linter.unusedSimpArgs false

theorem leNum_leBytes (size x : Nat) : leNum (leBytes size x) = x % 256 ^ size := by
  induction size generalizing x with
  | zero => simp [leBytes_zero, leNum, Nat.mod_one]
  | succ size ih =>
    rw [leBytes_succ, leNum, ih, Nat.pow_succ', Nat.mod_mul]
    simp
theorem beyond2' (a b : Nat) (ha : a ≤ 140737488351232) (hb : b ≤ 140737488351232) : beyondF 2147483647 [(a : Int), (b : Int)] = decide (2147483647 < a + b) := by
  simp only [beyondF]
  by_cases h : a + b ≤ 2147483647
  · rw [if_neg (by omega), if_neg (by omega), decide_eq_false (by omega)]
  · rw [decide_eq_true (by omega)]
    by_cases h1 : (2147483647 : Int) < a
    · rw [if_pos h1]
    · rw [if_neg h1, if_pos (by omega)]
theorem ivs2' (w : World) (x y : Int) : Rd (w.alloc (.cells #[.int .i64 x, .int .i64 y] 3)) (some ⟨w.heap.size, 0, none⟩) 2 (ivs [x, y]) :=
  (Blk.new w (ivs [x, y]) 3).rd _ rfl (by omega) (fun j u hu => by rw [Nat.zero_add]; exact hu)
theorem bytes_ok (n : Nat) (bs : List UInt8) (h : n ≤ bs.length) : bytesA (n : Int) bs 0 0 = n ∧ bytesE (n : Int) bs 0 0 = 0 := by
  constructor
  · unfold bytesA
    rw [if_pos ⟨rfl, by omega, by omega⟩]
    omega
  · unfold bytesE
    rw [if_pos rfl, if_neg (by omega), if_neg (by omega)]
theorem seal_ok (n : Nat) (bs : List UInt8) (h : bs.length = n + 4) (hs : leNum (bs.drop n) = (moreC 0 (bs.take n)).toNat) : rsealA 0 bs n 0 = n + 4 ∧ rsealE 0 bs n 0 = 0 := by
  have hk : rsealOk 0 bs n 0 := by
    refine ⟨rfl, by omega, by omega, by omega, ?_⟩
    rw [List.take_of_length_le (by simp; omega), hs]
    rfl
  constructor
  · exact if_pos hk
  · unfold rsealE
    rw [if_pos rfl, if_neg (by omega), if_neg (by omega), if_pos hk]
theorem seal_no (n : Nat) (bs : List UInt8) (h : bs.length = n + 4) (hs : leNum (bs.drop n) ≠ (moreC 0 (bs.take n)).toNat) : rsealA 0 bs n 0 = n ∧ rsealE 0 bs n 0 = 11 := by
  have hk : ¬ rsealOk 0 bs n 0 := by
    intro hk
    have := hk.2.2.2.2
    rw [List.take_of_length_le (by simp; omega)] at this
    exact hs this
  constructor
  · exact if_neg hk
  · unfold rsealE
    rw [if_pos rfl, if_neg (by omega), if_neg (by omega), if_neg hk]

set_option maxHeartbeats 3200000 in
set_option maxRecDepth 100000 in
theorem bursts (A : Option Addr) (n c : Nat) (p : List UInt8) (at_ : Int) (pat : UInt32) (w : World) (hp : Rd w A n (bvs p)) (hn : n ≤ 140737488351232) (ha0 : -9223372036854775808 ≤ at_) (ha1 : at_ ≤ 9223372036854775807) :
    Calls Try.prog 6 #[.slice A n c, .int .i64 at_, .int .u32 (pat.toNat : Int)] w fun e w' => e = .returned (.bool true) ∧ Below w.heap.size w w' := by
  have hB0 : Below w.heap.size w (w.alloc (.cells #[.int .i64 (n : Int), .int .i64 4] 3)) := below_alloc (Below.refl _ w) _
  have hbe := fun W (h : Rd W (some ⟨w.heap.size, 0, none⟩) 2 (ivs [(n : Int), 4])) => beyond_ (some ⟨w.heap.size, 0, none⟩) 2 2 [(n : Int), 4] W h (by intro x hx; simp at hx; omega)
  rw [show ([(n : Int), 4] : List Int) = [(n : Int), ((4 : Nat) : Int)] from rfl, beyond2' n 4 hn (by omega)] at hbe
  by_cases hbig : 2147483647 < n + 4
  · rw [decide_eq_true hbig] at hbe
    go_enter Try.func6, Try.ntmps6
    go_wp2_with fail
    refine (hbe _ (ivs2' w _ _)).mono ?_
    rintro e w1 ⟨rfl, ⟨nd, rfl⟩⟩
    go_wp2_with fail
    go_ret
    exact ⟨rfl, below_drewN hB0 nd⟩
  · rw [decide_eq_false hbig] at hbe
    have hpl := hp.len
    obtain ⟨s, hs4, hsn, hsl⟩ : ∃ s : List UInt8, s.length = 4 ∧ leNum s = (moreC 0 p).toNat ∧ sealB p 0 0 = p ++ s := by
      refine ⟨leBytes 4 (moreC 0 p).toNat, leBytes_length _ _, ?_, ?_⟩
      · rw [leNum_leBytes]
        exact Nat.mod_eq_of_lt (moreC 0 p).toNat_lt
      · unfold sealB
        rw [if_pos ⟨rfl, by omega, by omega⟩]
        rfl
    have hse : sealE p 0 0 = 0 := if_neg (by omega)
    obtain ⟨all, hall⟩ : ∃ all : List UInt8, all = p ++ s := ⟨_, rfl⟩
    have hal : all.length = n + 4 := by rw [hall, List.length_append, hpl, hs4]
    have hd : all.drop n = s := by rw [hall, ← hpl, List.drop_left]
    have ht : all.take n = p := by rw [hall, ← hpl, List.take_left]
    obtain ⟨s1, s2⟩ := seal_ok n all hal (by rw [hd, ht]; exact hsn)
    obtain ⟨b1, b2⟩ := bytes_ok n all (by omega)
    have HQ : ∀ bit, bit < 8 * (n + 4) → (bytesA (n : Int) (burstTo all bit pat 32) 0 0 = n ∧ bytesE (n : Int) (burstTo all bit pat 32) 0 0 = 0) ∧ rsealA 0 (burstTo all bit pat 32) n 0 = n ∧ rsealE 0 (burstTo all bit pat 32) n 0 = 11 := by
      intro bit hbit
      have hbl := burstTo_length all bit pat 32
      refine ⟨bytes_ok n _ (by omega), seal_no n _ (by omega) ?_⟩
      have := burst_told p s hs4 hsn bit (by rw [← hall, hal]; exact hbit) pat
      rwa [← hall, hpl] at this
    have HQ := Lib.hid HQ
    have HF := Lib.hid (And.intro hse (And.intro hsl (And.intro hall (And.intro s1 (And.intro s2 (And.intro b1 b2))))))
    have HAL := Lib.hid hal
    have HPL := Lib.hid hpl
    clear hse hsl hall s1 s2 b1 b2 hal hpl hd ht hsn hs4
    go_enter Try.func6, Try.ntmps6
    go_wp2_with fail
    refine (hbe _ (ivs2' w _ _)).mono ?_
    rintro e w1 ⟨rfl, hd⟩
    have hb1 : Below w.heap.size w w1 := hB0.trans (hd.below _)
    clear hbe hB0 hd
    go_wp2_with fail
    refine (newWriter w1).mono ?_
    rintro r w2 ⟨rfl, hW2, hb⟩
    generalize hg1 : w1.heap.size = g1 at *
    have hg1w : w.heap.size ≤ g1 := by have := hb1.size; omega
    have hb2 : Below w.heap.size w w2 := hb1.trans (hb.mono hg1w)
    clear hb hg1
    go_wp2_with fail
    refine (wBytes g1 g1 none [] 0 _ A n c p (hp.below hb2 (Nat.le_refl _)) hW2 (by simp; omega)).mono ?_
    rintro r w3 ⟨rfl, vb3, hW3, hF3⟩
    rw [okB_ok, List.nil_append] at hW3
    have hb3 : Below w.heap.size w w3 := hb2.trans (hF3.below hg1w (fun k hk => by cases hk) hb2.size)
    clear hF3 hW2
    go_wp2_with fail
    refine (wSeal g1 g1 vb3 p 0 _ 0 hW3 (by rw [HPL.out]; omega)).mono ?_
    rintro r w4 ⟨rfl, vb4, hW4, hF4⟩
    rw [HF.out.1, HF.out.2.1, ← HF.out.2.2.1] at hW4
    have hb4 : Below w.heap.size w w4 := hb3.trans (hF4.below hg1w (fun k hk => Nat.le_trans hg1w (hW3.lt.2.2 k hk).1) hb3.size)
    clear hF4 hW3
    go_wp2_with fail
    refine (wAll g1 g1 vb4 all 0 _ hW4 (by rw [HAL.out]; omega)).mono ?_
    rintro r w5 ⟨A5, c5, rfl, hO5, hb⟩
    rw [HAL.out] at hO5 ⊢
    have hb5 : Below w.heap.size w w5 := hb4.trans (hb.mono hb4.size)
    have hW5 := hW4.below hb
    have hr5 := hO5.rd_
    clear hb hO5 hW4
    go_wp2_with fail
    refine (wErr g1 g1 vb4 all 0 _ hW5).mono ?_
    rintro r w6 ⟨rfl, rfl⟩
    go_wp2_with fail
    refine (newReader A5 (n + 4) c5 all _ hr5 (by omega)).mono ?_
    rintro r w7 ⟨g7, A7, c7, rfl, hR7, hb⟩
    have hb7 : Below w.heap.size w w7 := hb5.trans (hb.mono hb5.size)
    have hr7 := hr5.below hb (Nat.le_refl _)
    have hR7 : IsR w7 w.heap.size g7 A7 c7 all 0 0 := ⟨Nat.le_trans hb5.size hR7.hg, hR7.hat, hR7.hlen, hR7.blk, hR7.own.mono hb5.size⟩
    clear hb hW5 hr5 hb5
    go_wp2_with fail
    refine (burst_ A5 (n + 4) c5 all at_ pat _ hr7 (by omega) (by omega) ha0 ha1).mono ?_
    rintro r w8 ⟨g8, c8, rfl, hc8, hr8, hb⟩
    generalize hbit : (at_ % ((8 * (n + 4) : Nat) : Int)).toNat = bit at *
    have hbit2 : bit < 8 * (n + 4) := by
      have e1 := Int.emod_nonneg at_ (show (((8 * (n + 4) : Nat) : Int)) ≠ 0 by omega)
      have e2 := Int.emod_lt_of_pos at_ (show (0 : Int) < ((8 * (n + 4) : Nat) : Int) by omega)
      omega
    have HQ2 := Lib.hid (HQ.out bit hbit2)
    clear hbit hbit2
    have hb8 : Below w.heap.size w w8 := hb7.trans (hb.mono hb7.size)
    have hR8 := hR7.below hb
    clear hb hR7 hr7 hb7
    go_wp2_with fail
    refine (newReader (some ⟨g8, 0, none⟩) (n + 4) c8 _ _ hr8 (by omega)).mono ?_
    rintro r w9 ⟨g9, A9, c9, rfl, hQ9, hb⟩
    have hb9 : Below w.heap.size w w9 := hb8.trans (hb.mono hb8.size)
    have hR9 := hR8.below hb
    have h79 : g7 < w8.heap.size := hR8.lt
    have hs8 := hb8.size
    clear hb hR8 hr8 hb8
    go_wp2_with fail
    refine (rBytes w.heap.size g7 A7 c7 all 0 0 _ hR9 (n : Int) (by omega)).mono ?_
    rintro r w10 ⟨A10, n10, c10, rfl, _, _, hR10, hF⟩
    rw [HF.out.2.2.2.2.2.1, HF.out.2.2.2.2.2.2] at hR10
    have hQ10 := hQ9.fr hF (by have := hQ9.hg; omega) (fun k hk => by have := hQ9.own_lt k hk; omega)
    have hb10 : Below w.heap.size w w10 := hb9.trans (hF.below (fun k hk => hk ▸ hR9.hg) hb9.size)
    clear hF hR9 hQ9 hb9
    go_wp2_with fail
    refine (rSeal w.heap.size g7 A7 c7 all n 0 _ hR10 0).mono ?_
    rintro r w11 ⟨rfl, hR11, hF⟩
    rw [HF.out.2.2.2.1, HF.out.2.2.2.2.1] at hR11
    have hQ11 := hQ10.fr hF (by have := hQ10.hg; omega) (fun k hk => by have := hQ10.own_lt k hk; omega)
    have hb11 : Below w.heap.size w w11 := hb10.trans (hF.below (fun k hk => hk ▸ hR10.hg) hb10.size)
    clear hF hR10 hQ10 hb10
    go_wp2_with fail
    refine (rEnd w.heap.size g7 A7 c7 all (n + 4) 0 _ hR11).mono ?_
    rintro r w12 ⟨rfl, ⟨nd, rfl⟩⟩
    rw [show endE all.length (n + 4) 0 = 0 from if_neg (by rw [HAL.out]; omega)]
    have hQ12 := hQ11.below (below_drewN (Below.refl _ _) nd)
    have hb12 := below_drewN hb11 nd
    clear hR11 hQ11 hb11
    go_wp2_with fail
    refine (rBytes w8.heap.size g9 A9 c9 _ 0 0 _ hQ12 (n : Int) (by omega)).mono ?_
    rintro r w13 ⟨A13, n13, c13, rfl, _, _, hQ13, hF⟩
    rw [HQ2.out.1.1, HQ2.out.1.2] at hQ13
    have hb13 : Below w.heap.size w w13 := hb12.trans (hF.below (fun k hk => hk ▸ Nat.le_trans hs8 hQ12.hg) hb12.size)
    clear hF hQ12 hb12
    go_wp2_with fail
    refine (rErr w8.heap.size g9 A9 c9 _ n 0 _ hQ13).mono ?_
    rintro r w14 ⟨rfl, rfl⟩
    go_wp2_with fail
    refine (rSeal w8.heap.size g9 A9 c9 _ n 0 _ hQ13 0).mono ?_
    rintro r w15 ⟨rfl, hQ15, hF⟩
    rw [HQ2.out.2.1, HQ2.out.2.2] at hQ15
    have hb15 : Below w.heap.size w w15 := hb13.trans (hF.below (fun k hk => hk ▸ Nat.le_trans hs8 hQ13.hg) hb13.size)
    clear hF hQ13 hb13
    go_wp2_with fail
    refine (rErr w8.heap.size g9 A9 c9 _ n 11 _ hQ15).mono ?_
    rintro r w16 ⟨rfl, rfl⟩
    go_wp2_with fail
    refine (rAt w8.heap.size g9 A9 c9 _ n 11 _ hQ15).mono ?_
    rintro r w17 ⟨rfl, rfl⟩
    go_wp2_with fail
    go_ret
    exact ⟨rfl, hb15⟩
end Go.Proofs.Ythdjddpomaendaa.B
