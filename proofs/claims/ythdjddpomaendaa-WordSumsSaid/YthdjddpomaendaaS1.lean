/- The walk of WordSums. -/
import Derived.Test.YthdjddpomaendaaB3
namespace Go.Proofs.Ythdjddpomaendaa.B
open Go.RowKit
set_option linter.unusedVariables false
set_option linter.unusedSimpArgs false

theorem beyond2 (a b : Nat) (ha : a ≤ 140737488351232) (hb : b ≤ 140737488351232) : beyondF 2147483647 [(a : Int), (b : Int)] = decide (2147483647 < a + b) := by
  simp only [beyondF]
  by_cases h : a + b ≤ 2147483647
  · rw [if_neg (by omega), if_neg (by omega), decide_eq_false (by omega)]
  · rw [decide_eq_true (by omega)]
    by_cases h1 : (2147483647 : Int) < a
    · rw [if_pos h1]
    · rw [if_neg h1, if_pos (by omega)]
theorem ivs2 (w : World) (x y : Int) : Rd (w.alloc (.cells #[.int .i64 x, .int .i64 y] 3)) (some ⟨w.heap.size, 0, none⟩) 2 (ivs [x, y]) :=
  (Blk.new w (ivs [x, y]) 3).rd _ rfl (by omega) (fun j u hu => by rw [Nat.zero_add]; exact hu)

theorem full_rd {w : World} {g n : Nat} {p : List UInt8} {r : List UInt8} (h : Blk w g (bvs (p ++ r)) 5) (hl : p.length = n) (hm : n ≤ 9223372036854775807 := by omega) : Rd w (some ⟨g, 0, none⟩) n (bvs p) :=
  h.rd _ (by rw [bvs_length, hl]) hm (fun j u hu => by
    rw [Nat.zero_add, show bvs (p ++ r) = bvs p ++ bvs r by simp [bvs], List.getElem?_append_left (List.getElem?_eq_some_iff.1 hu).1]
    exact hu)
theorem full_rd_all {w : World} {g n : Nat} {p : List UInt8} (h : Blk w g (bvs p) 5) (hl : p.length = n) (hm : n ≤ 9223372036854775807 := by omega) : Rd w (some ⟨g, 0, none⟩) n (bvs p) :=
  h.rd _ (by rw [bvs_length, hl]) hm (fun j u hu => by rw [Nat.zero_add]; exact hu)

def turned (p : List UInt8) (k : Nat) : List UInt8 := (p.take k).map (· ^^^ 90) ++ p.drop k
theorem turned_length (p : List UInt8) (k : Nat) : (turned p k).length = p.length := by simp [turned]; omega
theorem turned_get (rest : List Value) (p : List UInt8) (k : Nat) (h : k < p.length) : (bvs (turned p k) ++ rest)[k]? = some (bv p[k]) := by
  rw [List.getElem?_append_left (by rw [bvs_length, turned_length]; exact h)]
  apply bvs_get'
  unfold turned
  rw [List.getElem?_append_right (by simp; omega)]
  simp [Nat.min_eq_left (Nat.le_of_lt h), h]
theorem turned_set (p : List UInt8) (k : Nat) (h : k < p.length) : (turned p k).set k (p[k] ^^^ 90) = turned p (k + 1) := by
  unfold turned
  have hl : ((p.take k).map (· ^^^ 90)).length = k := by simp; omega
  rw [List.set_append_right _ _ (by omega), hl, Nat.sub_self, List.drop_eq_getElem_cons h, List.set_cons_zero, List.take_succ_eq_append_getElem h, List.map_append, List.append_assoc]
  rfl
theorem set_turned (rest : List Value) (p : List UInt8) (k : Nat) (h : k < p.length) : (bvs (turned p k) ++ rest).set k (bv (p[k] ^^^ 90)) = bvs (turned p (k + 1)) ++ rest := by
  rw [List.set_append_left _ _ (by rw [bvs_length, turned_length]; exact h), bvs_set, turned_set p k h]
theorem turned_all (p : List UInt8) (n : Nat) (h : p.length = n) : turned p n = p.map (· ^^^ 90) := by
  subst h
  simp [turned]
theorem crc_zero : (((moreC 0 [0]).toNat : Int) == 1383945041) = true := by decide
theorem x8 (a b : UInt8) : bits .xor .u8 (a.toNat : Int) (b.toNat : Int) = ((a ^^^ b).toNat : Int) := by rw [u8_xor_nat _ _ a.toNat_lt b.toNat_lt, UInt8.toNat_xor]
def Late (w : World) (A : Option Addr) (g1 n : Nat) (p : List UInt8) (k : Nat) : Prop :=
  n = 0 ∧ A = none ∨ ∃ g rest, A = some ⟨g, 0, none⟩ ∧ g1 ≠ g ∧ Blk w g (bvs (turned p k) ++ rest) 5
theorem Late.get {w : World} {A : Option Addr} {g1 n : Nat} {p : List UInt8} {k : Nat} (h : Late w A g1 n p k) (hk : k < n) : ∃ g rest, A = some ⟨g, 0, none⟩ ∧ g1 ≠ g ∧ Blk w g (bvs (turned p k) ++ rest) 5 := by
  rcases h with ⟨h, _⟩ | h
  · omega
  · exact h
theorem Late.rd {w : World} {A : Option Addr} {g1 n : Nat} {p : List UInt8} (h : Late w A g1 n p n) (hl : p.length = n) (hm : n ≤ 9223372036854775807) : Rd w A n (bvs (p.map (· ^^^ 90))) := by
  rcases h with ⟨rfl, rfl⟩ | ⟨g, rest, rfl, _, hk⟩
  · obtain rfl : p = [] := List.eq_nil_of_length_eq_zero hl
    exact Rd.nil _ _
  · rw [turned_all p n hl] at hk
    exact hk.rd _ (by simp [bvs_length, hl]) hm (fun j u hu => by rw [Nat.zero_add, List.getElem?_append_left (List.getElem?_eq_some_iff.1 hu).1]; exact hu)
theorem late_start {w : World} {A : Option Addr} {base g1 n c : Nat} {p : List UInt8} (h : Own w base (.slice A n c) ([] ++ p)) (hl : p.length = n) (hg : g1 < base) : Late w A g1 n p 0 := by
  obtain ⟨A', c', e, _, _, h | ⟨g, rest, rfl, hb, hk, _⟩⟩ := h.cases
  · obtain ⟨rfl, rfl, rfl⟩ := h
    injection e with e1
    subst e1
    exact .inl ⟨hl.symm, rfl⟩
  · injection e with e1
    subst e1
    exact .inr ⟨g, rest, rfl, by omega, by simpa [turned] using hk⟩

set_option maxHeartbeats 1600000 in
set_option maxRecDepth 100000 in
theorem sums (A1 A2 : Option Addr) (n1 c1 n2 c2 : Nat) (p q : List UInt8) (sum : UInt32) (w : World) (hp : Rd w A1 n1 (bvs p)) (hq : Rd w A2 n2 (bvs q)) (hc1 : n1 ≤ c1) (hc2 : n2 ≤ c2)
    (hn1 : n1 ≤ 140737488351232) (hn2 : n2 ≤ 140737488351232) :
    Calls Try.prog 3 #[.slice A1 n1 c1, .slice A2 n2 c2, .int .u32 (sum.toNat : Int)] w fun e w' => e = .returned (.bool true) ∧ Below w.heap.size w w' := by
  have hB0 : Below w.heap.size w (w.alloc (.cells #[.int .i64 (n1 : Int), .int .i64 (n2 : Int)] 3)) := below_alloc (Below.refl _ w) _
  have hbe := fun W (h : Rd W (some ⟨w.heap.size, 0, none⟩) 2 (ivs [(n1 : Int), (n2 : Int)])) => beyond_ (some ⟨w.heap.size, 0, none⟩) 2 2 [(n1 : Int), (n2 : Int)] W h (by intro x hx; simp at hx; omega)
  rw [beyond2 n1 n2 hn1 hn2] at hbe
  by_cases hbig : 2147483647 < n1 + n2
  · rw [decide_eq_true hbig] at hbe
    go_enter Try.func3, Try.ntmps3
    go_wp2_with fail
    refine (hbe _ (ivs2 w _ _)).mono ?_
    rintro e w1 ⟨rfl, ⟨nd, rfl⟩⟩
    go_wp2_with fail
    go_ret
    exact ⟨rfl, below_drewN hB0 nd⟩
  · rw [decide_eq_false hbig] at hbe
    go_enter Try.func3, Try.ntmps3
    go_wp2_with fail
    refine (hbe _ (ivs2 w _ _)).mono ?_
    rintro e w1 ⟨rfl, hd⟩
    have hb1 : Below w.heap.size w w1 := hB0.trans (hd.below _)
    clear hbe hB0 hd
    go_wp2_with fail
    -- full
    refine (roomy A1 n1 c1 p 165 _ (hp.below hb1 (Nat.le_refl _)) hn1).mono ?_
    rintro e w2 ⟨rfl, hf2, hb⟩
    generalize hg1 : w1.heap.size = g1 at *
    have hg1w : w.heap.size ≤ g1 := by have := hb1.size; omega
    have hb2 : Below w.heap.size w w2 := hb1.trans (hb.mono hg1w)
    clear hb hg1
    have hrd2 := full_rd hf2 hp.len
    have hle80 : n1 ≤ n1 + 80 := by omega
    go_wp2_with fail
    refine (crc_ (some ⟨g1, 0, none⟩) n1 (n1 + 80) p _ hrd2).mono ?_
    rintro e w3 ⟨rfl, hb⟩
    have hf3 := hf2.below hb hf2.lt
    have hb3 : Below w.heap.size w w3 := hb2.trans (hb.mono hb2.size)
    clear hb
    go_wp2_with fail
    refine (refCRC A1 n1 c1 p _ (hp.below hb3 (Nat.le_refl _))).mono ?_
    rintro e w4 ⟨rfl, hd⟩
    have hb4 : Below w.heap.size w w4 := hb3.trans (hd.below _)
    have hf4 := hf3.below (hd.below _) hf3.lt
    clear hd
    go_wp2_with fail
    refine (more_ A2 n2 c2 q (moreC 0 p) _ (hq.below hb4 (Nat.le_refl _))).mono ?_
    rintro e w5 ⟨rfl, hb⟩
    rw [moreC_append]
    have hf5 := hf4.below hb hf4.lt
    have hb5 : Below w.heap.size w w5 := hb4.trans (hb.mono hb4.size)
    clear hb
    go_wp2_with (first
      | ((with_reducible refine at_builtin_ (b := .append) rfl ?_); (refine app_u8 rfl _ _ rfl w5.heap.size (.slice none 0 0) [] A1 n1 c1 p rfl rfl (Own.nil _ _) (hp.below hb5 (Nat.le_refl _)) (Nat.le_refl _) n1 (Nat.zero_add _) (by omega) w5.heap.size w5 (Below.refl _ _) (Nat.le_refl _) ?_); intro A6 c6 w6 hO6 hb6 _ _)
      | ((with_reducible refine at_builtin_ (b := .append) rfl ?_); (go_must (refine app_u8 rfl _ _ rfl w5.heap.size (.slice A6 n1 c6) p A2 n2 c2 q rfl rfl hO6 (hq.below (hb5.trans (hb6.mono hb5.size)) (Nat.le_refl _)) hb6.size (n1 + n2) (by rw [hp.len]) (by omega) w5.heap.size w5 hb6 (Nat.le_refl _) ?_)); intro A7 c7 w7 hO7 hb7 _ _))
    have hr7 := hO7.rd_
    have hf7 := hf5.below hb7 hf5.lt
    have hB7 : Below w.heap.size w w7 := hb5.trans (hb7.mono hb5.size)
    clear hb7 hO7 hO6 hb6
    refine (refCRC A7 (n1 + n2) c7 (p ++ q) _ hr7).mono ?_
    rintro e w8 ⟨rfl, hd⟩
    have hf8 := hf7.below (hd.below _) hf7.lt
    have hB8 : Below w.heap.size w w8 := hB7.trans (hd.below _)
    clear hd hr7
    go_wp2_with fail
    have hrd8 := full_rd hf8 hp.len
    refine (more_ (some ⟨g1, 0, none⟩) n1 (n1 + 80) p sum _ hrd8).mono ?_
    rintro e w9 ⟨rfl, hb⟩
    have hf9 := hf8.below hb hf8.lt
    have hB9 : Below w.heap.size w w9 := hB8.trans (hb.mono hB8.size)
    clear hb hrd8
    go_wp2_with fail
    refine (refMore A1 n1 c1 p sum _ (hp.below hB9 (Nat.le_refl _))).mono ?_
    rintro e w10 ⟨rfl, hd⟩
    have hf10 := hf9.below (hd.below _) hf9.lt
    have hB10 : Below w.heap.size w w10 := hB9.trans (hd.below _)
    clear hd
    go_wp2_with fail
    have hrd10 := full_rd_all hf10 (n := n1 + 80) (by simp [hp.len])
    refine (intact (some ⟨g1, 0, none⟩) A1 (n1 + 80) (n1 + 80) n1 c1 _ p 165 _ hrd10 (Nat.le_refl _) (hp.below hB10 (Nat.le_refl _)) hn1).mono ?_
    rintro e w11 ⟨rfl, hd⟩
    rw [decide_eq_true rfl]
    have hf11 := hf10.below (hd.below _) hf10.lt
    have hB11 : Below w.heap.size w w11 := hB10.trans (hd.below _)
    clear hd hrd10
    go_wp2_with ((with_reducible refine at_builtin_ (b := .append) rfl ?_); (go_must (refine app_u8 rfl _ _ rfl w11.heap.size (.slice none 0 0) [] A1 n1 c1 p rfl rfl (Own.nil _ _) (hp.below hB11 (Nat.le_refl _)) (Nat.le_refl _) n1 (Nat.zero_add _) (by omega) w11.heap.size w11 (Below.refl _ _) (Nat.le_refl _) ?_)); intro A12 c12 w12 hO12 hb12 _ _)
    have hlate : Late w12 A12 g1 n1 p 0 := late_start hO12 hp.len hf11.lt
    have hf12 := hf11.below hb12 hf11.lt
    have hB12 : Below w.heap.size w w12 := hB11.trans (hb12.mono hB11.size)
    have hmy : ∀ g, A12 = some ⟨g, 0, none⟩ → w.heap.size ≤ g := fun g e => Nat.le_trans hB11.size (hO12.base_le g (by rw [e]; rfl)).1
    have HMY := Lib.hid hmy
    clear hmy hO12 hb12
    go_loopw [10] (fun i wr => ∃ k : Nat, k ≤ n1 ∧ i = .int .i64 k ∧ Late wr A12 g1 n1 p k ∧ Blk wr g1 (bvs (turned p k ++ List.replicate 80 165)) 5 ∧ Below w.heap.size w wr) (fun i _ => n1 - (intOf i).toNat)
    case atStart => exact ⟨0, by omega, rfl, hlate, by simpa [turned] using hf12, hB12⟩
    case round =>
      obtain ⟨k, hk, rfl, hL, hF, hB⟩ := hrel
      by_cases hlt : k < n1
      · obtain ⟨g, rest, rfl, hne, hG⟩ := hL.get hlt
        have hkp : k < p.length := by rw [hp.len]; exact hlt
        obtain ⟨b, q1, E1⟩ : ∃ b : UInt8, bits .xor .u8 (p[k].toNat : Int) 90 = (b.toNat : Int) ∧ Hid (b = p[k] ^^^ 90) := ⟨_, x8 p[k] 90, Lib.hid rfl⟩
        have c1 := hG.cell k (.int .u8 (p[k].toNat : Int)) (turned_get _ p k hkp)
        have f1 := hG.free k
        have c2 := hF.cell k (.int .u8 (p[k].toNat : Int)) (by rw [show bvs (turned p k ++ List.replicate 80 165) = bvs (turned p k) ++ bvs (List.replicate 80 165) by simp [bvs]]; exact turned_get _ p k hkp)
        have f2 := hF.free k
        have hne' : ¬ g1 = g := hne
        go_wp2
        go_roundw
        case rel =>
          refine ⟨k + 1, by omega, by go_num, .inr ⟨g, rest, rfl, hne, ?_⟩, ?_, (hB.setCell (HMY.out g rfl) _).setCell hg1w _⟩
          · have h := (hG.set k (bv b)).other (p := ⟨g1, k, none⟩) (Ne.symm hne) (.int .u8 (b.toNat : Int))
            rw [E1.out, set_turned rest p k hkp, ← E1.out] at h
            exact h
          · have h := (hF.other (p := ⟨g, k, none⟩) hne (.int .u8 (b.toNat : Int))).set k (bv b)
            have e : bvs (turned p k ++ List.replicate 80 165) = bvs (turned p k) ++ bvs (List.replicate 80 165) := by simp [bvs]
            rw [e, E1.out, set_turned _ p k hkp, ← E1.out] at h
            rw [show bvs (turned p (k + 1) ++ List.replicate 80 165) = bvs (turned p (k + 1)) ++ bvs (List.replicate 80 165) by simp [bvs]]
            exact h
        case measure => simp [intOf]; omega
      · obtain rfl : k = n1 := by omega
        rw [turned_all p k hp.len] at hF
        have hlr := hL.rd hp.len (by omega)
        have hrd := full_rd hF (n := k) (by simp [hp.len])
        clear hL
        go_wp2_with fail
        refine (crc_ (some ⟨g1, 0, none⟩) k (k + 80) _ _ hrd).mono ?_
        rintro e w13 ⟨rfl, hb⟩
        have hf13 := hF.below hb hF.lt
        have hl13 := hlr.below hb (Nat.le_refl _)
        have hB13 : Below w.heap.size w w13 := hB.trans (hb.mono hB.size)
        clear hb hrd hF hlr
        go_wp2_with fail
        refine (refCRC A12 k c12 _ _ hl13).mono ?_
        rintro e w14 ⟨rfl, hd⟩
        have hf14 := hf13.below (hd.below _) hf13.lt
        have hl14 := hl13.below (hd.below _) (Nat.le_refl _)
        have hB14 : Below w.heap.size w w14 := hB13.trans (hd.below _)
        have hrd := full_rd hf14 (n := k) (by simp [hp.len])
        clear hd hf13 hl13
        go_wp2_with fail
        refine (more_ (some ⟨g1, 0, none⟩) k (k + 80) _ sum _ hrd).mono ?_
        rintro e w15 ⟨rfl, hb⟩
        have hf15 := hf14.below hb hf14.lt
        have hl15 := hl14.below hb (Nat.le_refl _)
        have hB15 : Below w.heap.size w w15 := hB14.trans (hb.mono hB14.size)
        clear hb hrd hf14 hl14
        go_wp2_with fail
        refine (refMore A12 k c12 _ sum _ hl15).mono ?_
        rintro e w16 ⟨rfl, hd⟩
        have hB16 : Below w.heap.size w w16 := hB15.trans (hd.below _)
        clear hd hl15 hf15
        go_wp2_with fail
        have hz : Rd (w16.alloc (.cells #[.int .u8 0] 5)) (some ⟨w16.heap.size, 0, none⟩) 1 (bvs [0]) := full_rd_all (Blk.new w16 (bvs [0]) 5) rfl
        have hB17 : Below w.heap.size w (w16.alloc (.cells #[.int .u8 0] 5)) := below_alloc hB16 _
        refine (crc_ (some ⟨w16.heap.size, 0, none⟩) 1 1 [0] _ hz).mono ?_
        rintro e w18 ⟨rfl, hb⟩
        have hB18 : Below w.heap.size w w18 := hB17.trans (hb.mono hB17.size)
        have hz := crc_zero
        clear hb
        go_wp2_with fail
        go_ret
        exact ⟨rfl, hB18⟩
end Go.Proofs.Ythdjddpomaendaa.B
