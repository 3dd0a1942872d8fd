/- The walk of burst. -/
import Derived.Test.YthdjddpomaendaaC1
import Derived.Test.YthdjddpomaendaaR4
namespace Go.Proofs.Ythdjddpomaendaa.B
open Go.RowKit
set_option linter.unusedVariables false
set_option linter.unusedSimpArgs false

theorem x8' (a b : UInt8) : bits .xor .u8 (a.toNat : Int) (b.toNat : Int) = ((a ^^^ b).toNat : Int) := by rw [u8_xor_nat _ _ a.toNat_lt b.toNat_lt, UInt8.toNat_xor]
theorem flip_int (b : UInt8) (t : Nat) (ht : t < 8) : bits .xor .u8 (b.toNat : Int) (2 ^ t % 256) = ((b ^^^ (1 : UInt8) <<< UInt8.ofNat t).toNat : Int) := by
  have hk : (UInt8.ofNat t).toNat = t := by simp; omega
  have h2 : 2 ^ t < 256 := Nat.lt_of_lt_of_le (Nat.pow_lt_pow_right (by decide) ht) (by decide)
  have e : (2 ^ t % 256 : Int) = (((1 : UInt8) <<< UInt8.ofNat t).toNat : Int) := by
    rw [UInt8.toNat_shiftLeft, hk, Nat.mod_eq_of_lt ht, Nat.shiftLeft_eq]
    simp
  rw [e, x8' b]
theorem full_rd' {w : World} {g n : Nat} {p : List UInt8} {r : List Value} (h : Blk w g (bvs p ++ r) 5) (hl : p.length = n) (hm : n ≤ 9223372036854775807 := by omega) : Rd w (some ⟨g, 0, none⟩) n (bvs p) :=
  h.rd _ (by rw [bvs_length, hl]) hm (fun j u hu => by
    rw [Nat.zero_add, List.getElem?_append_left (List.getElem?_eq_some_iff.1 hu).1]
    exact hu)
theorem hot_int (pat : UInt32) (k : Nat) (h : k < 32) : (bits .and .u32 (bits .or .u32 (pat.toNat : Int) 1 / 2 ^ k) 1 == 1) = hot pat k := by
  have e1 : bits .or .u32 (pat.toNat : Int) 1 = ((pat ||| 1).toNat : Int) := by
    have := u32_or_nat pat.toNat 1 pat.toNat_lt (by decide)
    rw [show ((1 : Nat) : Int) = 1 from rfl] at this
    rw [this, UInt32.toNat_or]
    rfl
  have e2 : ((pat ||| 1).toNat : Int) / 2 ^ k = (((pat ||| 1) >>> UInt32.ofNat k).toNat : Int) := by
    have hk : (UInt32.ofNat k).toNat = k := by simp; omega
    rw [UInt32.toNat_shiftRight, hk, Nat.mod_eq_of_lt h, Nat.shiftRight_eq_div_pow]
    simp
  rw [e1, e2, a32_1]
  unfold hot
  rw [Bool.eq_iff_iff, beq_iff_eq, beq_iff_eq]
  constructor
  · intro h
    apply UInt32.toNat_inj.1
    have : (1 : UInt32).toNat = 1 := rfl
    omega
  · intro h
    rw [h]
    rfl
set_option maxHeartbeats 3200000 in
set_option maxRecDepth 100000 in
theorem burst_ (A : Option Addr) (n c : Nat) (l : List UInt8) (at_ : Int) (pat : UInt32) (w : World) (hr : Rd w A n (bvs l)) (h0 : 0 < n) (hn : n ≤ 4294967296) (ha0 : -9223372036854775808 ≤ at_) (ha1 : at_ ≤ 9223372036854775807) :
    Calls Try.prog 37 #[.slice A n c, .int .i64 at_, .int .u32 (pat.toNat : Int)] w fun r w' => ∃ g c', r = .returned (.slice (some ⟨g, 0, none⟩) n c') ∧ n ≤ c' ∧ Rd w' (some ⟨g, 0, none⟩) n (bvs (burstTo l (at_ % (8 * n : Nat)).toNat pat 32)) ∧ Below w.heap.size w w' := by
  have hl := hr.len
  obtain ⟨bit, hbit, Hbit⟩ : ∃ bit : Nat, at_ % (8 * (n : Int) - 1 + 1) = (bit : Int) ∧ bit < 8 * n := by
    have e0 : 8 * (n : Int) - 1 + 1 = 8 * (n : Int) := by omega
    have e1 := Int.emod_nonneg at_ (show (8 * (n : Int)) ≠ 0 by omega)
    have e2 := Int.emod_lt_of_pos at_ (show (0 : Int) < 8 * (n : Int) by omega)
    rw [e0]
    exact ⟨(at_ % (8 * (n : Int))).toNat, (Int.toNat_of_nonneg e1).symm, by omega⟩
  have HB := Lib.hid (show (at_ % ((8 * n : Nat) : Int)).toNat = bit by
    have e0 : 8 * (n : Int) - 1 + 1 = ((8 * n : Nat) : Int) := by omega
    rw [e0] at hbit
    rw [hbit, Int.toNat_natCast])
  go_enter Try.func37, Try.ntmps37
  go_wp2_with ((with_reducible refine at_builtin_ (b := .append) rfl ?_); go_must (refine app_u8 rfl _ _ rfl w.heap.size (.slice none 0 0) [] A n c l rfl rfl (Own.nil _ _) hr (Nat.le_refl _) n (Nat.zero_add _) (by omega) w.heap.size w (Below.refl _ _) (Nat.le_refl _) ?_); intro A1 c1 w1 hO1 hb1 _ _)
  obtain ⟨A', c', e, hlc, hm, h | ⟨g, rest, rfl, hb, hk, hrest⟩⟩ := hO1.cases
  · obtain ⟨rfl, rfl, rfl⟩ := h
    injection e with e1 e2
    simp at e2
    omega
  injection e with e1 e2 e3
  subst e1 e3
  rw [List.nil_append] at hk hlc
  have HL := Lib.hid hl
  have hbg := hb
  clear hO1 hl e2 hm hrest hb
  rw [HL.out] at hlc
  refine (within_ at_ (8 * (n : Int) - 1) _ ha0 ha1 (by omega) (by omega)).mono ?_
  rintro r w2 ⟨rfl, rfl⟩
  rw [hbit]
  clear hbit
  go_wp2_with fail
  go_loopw [9] (fun i wr => ∃ k : Nat, k ≤ 32 ∧ i = .int .i64 k ∧ Blk wr g (bvs (burstTo l bit pat k) ++ rest) 5 ∧ Below w.heap.size w wr) (fun i _ => 32 - (intOf i).toNat)
  case atStart => exact ⟨0, by omega, rfl, hk, hb1⟩
  case round =>
    obtain ⟨k, hk, rfl, hG, hB⟩ := hrel
    by_cases hlt : k < 32
    · have hh := hot_int pat k hlt
      have hlb := burstTo_length l bit pat k
      obtain ⟨q, hq, Hq⟩ : ∃ q : Nat, ((bit : Int) + (k : Int)) / 8 = (q : Int) ∧ Hid (q = (bit + k) / 8) := ⟨(bit + k) / 8, by omega, Lib.hid rfl⟩
      obtain ⟨t, ht, ht8, Ht⟩ : ∃ t : Nat, ((bit : Int) + (k : Int)) % 8 = (t : Int) ∧ t < 8 ∧ Hid (t = (bit + k) % 8) := ⟨(bit + k) % 8, by omega, by omega, Lib.hid rfl⟩
      cases hhot : hot pat k with
      | false =>
        rw [hhot] at hh
        have hE : Hid (burstTo l bit pat (k + 1) = burstTo l bit pat k) := Lib.hid (if_neg (by rw [hhot]; simp))
        go_wp2
        go_roundw
        case rel => exact ⟨k + 1, by omega, by go_num, by rw [hE.out]; exact hG, hB⟩
        case measure => simp [intOf]; omega
      | true =>
        rw [hhot] at hh
        by_cases hin : bit + k < 8 * n
        · have t1 : decide ((bit : Int) + (k : Int) < 8 * (n : Int)) = true := decide_eq_true (by omega)
          have hqn : q < (burstTo l bit pat k).length := by have := Hq.out; rw [hlb, HL.out]; omega
          have hqn' : q < n := by have := Hq.out; omega
          obtain ⟨b, hb⟩ : ∃ b, (burstTo l bit pat k)[q]? = some b := ⟨_, List.getElem?_eq_getElem hqn⟩
          obtain ⟨b2, hx, Hx⟩ : ∃ b2 : UInt8, bits .xor .u8 (b.toNat : Int) (2 ^ t % 256) = (b2.toNat : Int) ∧ Hid (b2 = b ^^^ (1 : UInt8) <<< UInt8.ofNat t) := ⟨_, flip_int b t ht8, Lib.hid rfl⟩
          have hE : Hid (burstTo l bit pat (k + 1) = (burstTo l bit pat k).set q b2) := by
            refine Lib.hid ?_
            have e : burstTo l bit pat (k + 1) = flip1 (burstTo l bit pat k) (bit + k) := if_pos ⟨hhot, by rw [HL.out]; exact hin⟩
            rw [e, flip1, ← Hq.out, ← Ht.out, List.getD_eq_getElem?_getD, hb, Hx.out]
            rfl
          have c1 := hG.cell q (.int .u8 (b.toNat : Int)) (by rw [List.getElem?_append_left (by rw [bvs_length]; exact hqn)]; exact bvs_get' _ _ _ hb)
          have f1 := hG.free q
          go_wp2
          go_roundw
          case rel =>
            refine ⟨k + 1, by omega, by go_num, ?_, hB.setCell (Nat.le_trans hbg (Nat.le_refl _)) _⟩
            have h := hG.set q (bv b2)
            rw [List.set_append_left _ _ (by rw [bvs_length]; exact hqn), bvs_set, ← hE.out] at h
            exact h
          case measure => simp [intOf]; omega
        · have t1 : decide ((bit : Int) + (k : Int) < 8 * (n : Int)) = false := decide_eq_false (by omega)
          have hE : Hid (burstTo l bit pat (k + 1) = burstTo l bit pat k) := Lib.hid (if_neg (by rw [HL.out]; exact fun h => hin h.2))
          go_wp2
          go_roundw
          case rel => exact ⟨k + 1, by omega, by go_num, by rw [hE.out]; exact hG, hB⟩
          case measure => simp [intOf]; omega
    · obtain rfl : k = 32 := by omega
      go_wp2
      go_ret
      refine ⟨g, c1, rfl, hlc, ?_, hB⟩
      rw [HB.out]
      exact full_rd' hG (by rw [burstTo_length, HL.out]) (by omega)
end Go.Proofs.Ythdjddpomaendaa.B
