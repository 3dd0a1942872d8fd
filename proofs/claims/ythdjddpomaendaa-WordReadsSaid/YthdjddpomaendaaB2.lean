/- More and CRC: the register goes four bits at a time. -/
import Derived.Test.YthdjddpomaendaaB1
namespace Go.Proofs.Ythdjddpomaendaa.B
open Go.RowKit
set_option linter.unusedVariables false
set_option linter.unusedSimpArgs false

/-! ### More: by halves of a byte -/
def halfC (i : Nat) : UInt32 := iterC 4 (UInt32.ofNat i)
def halves : List Value := (List.range 16).map fun i => .int .u32 ((halfC i).toNat : Int)
def nibC (r : UInt32) : UInt32 := r >>> 4 ^^^ halfC (r &&& 15).toNat
def byte2C (r : UInt32) (b : UInt8) : UInt32 := nibC (nibC (r ^^^ b.toUInt32))
theorem info91 : (Try.prog.info? 91).map (fun i => (i.size, i.bytes)) = some (16, 64) := by kernel_rfl

theorem and15 (r : UInt32) : (r &&& 15).toNat < 16 := by
  rw [UInt32.toNat_and]
  exact Nat.lt_of_le_of_lt Nat.and_le_right (by decide)
theorem halves_get (i : Nat) (h : i < 16) : halves[i]? = some (.int .u32 ((halfC i).toNat : Int)) := by simp [halves, h]
theorem shr4 (r : UInt32) : (r.toNat : Int) / (16 : Int) = ((r >>> 4).toNat : Int) := by
  rw [UInt32.toNat_shiftRight]
  simp [Nat.shiftRight_eq_div_pow]
theorem nib_facts (r : UInt32) (w : World) (g : Nat) (h : Blk w g halves 91) : ∃ (i : Nat) (x r2 : UInt32), bits .and .u32 (r.toNat : Int) 15 = (i : Int) ∧ i < 16 ∧ bits .xor .u32 ((r.toNat : Int) / (16 : Int)) (x.toNat : Int) = (r2.toNat : Int) ∧ w.cell? ⟨g, i, none⟩ = some (.int .u32 (x.toNat : Int)) ∧ Hid (r2 = nibC r) :=
  ⟨(r &&& 15).toNat, halfC (r &&& 15).toNat, nibC r, a32 r 15, and15 r, by rw [shr4, x32]; rfl, h.cell _ _ (halves_get _ (and15 r)), rfl⟩
def halvesTo (k : Nat) : List Value := halves.take k ++ List.replicate (16 - k) (.int .u32 0)

theorem x32_max (a : UInt32) : bits .xor .u32 IntKind.u32.max (a.toNat : Int) = ((a ^^^ 0xFFFFFFFF).toNat : Int) := by
  rw [UInt32.xor_comm]
  exact x32 0xFFFFFFFF a
theorem step_int (r : UInt32) : bits .xor .u32 ((r.toNat : Int) / (2 : Int)) (bits .and .u32 2197175160 (-bits .and .u32 (r.toNat : Int) 1 % 4294967296)) = ((stepC r).toNat : Int) := by
  by_cases h : r &&& 1 = 1
  · rw [a32_1, h, stepC_one r h, half32]
    exact x32 (r >>> 1) 0x82F63B78
  · have h0 : (r &&& 1).toNat = 0 := by
      have h1 : (r &&& 1).toNat < 2 := by
        rw [UInt32.toNat_and]
        exact Nat.lt_of_le_of_lt Nat.and_le_right (by decide)
      have h2 : (r &&& 1).toNat ≠ 1 := fun e => h (UInt32.toNat_inj.1 e)
      omega
    rw [a32_1, h0, stepC_zero r h, half32]
    have e : bits .and .u32 2197175160 (-((0 : Nat) : Int) % 4294967296) = ((0 : UInt32).toNat : Int) := a32 0x82F63B78 0
    rw [e, x32]
    simp
theorem halves_length : halves.length = 16 := by simp [halves]
theorem halvesTo_get (k : Nat) (h : k < 16) : (halvesTo k)[k]? = some (.int .u32 0) := by
  unfold halvesTo
  have hl : (halves.take k).length = k := by simp [halves_length]; omega
  rw [List.getElem?_append_right (by omega), hl, Nat.sub_self, List.getElem?_replicate, if_pos (by omega)]
theorem halvesTo_set (k : Nat) (h : k < 16) : (halvesTo k).set k (.int .u32 ((halfC k).toNat : Int)) = halvesTo (k + 1) := by
  unfold halvesTo
  have hl : (halves.take k).length = k := by simp [halves_length]; omega
  rw [List.set_append_right _ _ (by omega), hl, Nat.sub_self]
  obtain ⟨m, hm⟩ : ∃ m, 16 - k = m + 1 := ⟨16 - k - 1, by omega⟩
  rw [hm, show 16 - (k + 1) = m by omega, List.replicate_succ, List.set_cons_zero, List.take_succ_eq_append_getElem (by rw [halves_length]; exact h)]
  simp [halves]
theorem halvesTo_all : halvesTo 16 = halves := by
  simp only [halvesTo, Nat.sub_self, List.replicate_zero, List.append_nil]
  exact List.take_of_length_le (by rw [halves_length]; exact Nat.le_refl _)
theorem ofNat_small (k : Nat) (h : k < 4294967296) : (((UInt32.ofNat k).toNat : Nat) : Int) = (k : Int) := by simp; omega

set_option maxHeartbeats 800000 in
set_option maxRecDepth 100000 in
theorem more0 (A : Option Addr) (n c : Nat) (bs : List UInt8) (s : UInt32) (w : World) (hx : Rd w A n (bvs bs)) :
    Calls Try.prog 16 #[.int .u32 (s.toNat : Int), .slice A n c] w fun e w' => e = .returned (.int .u32 ((bs.foldl byte2C (s ^^^ 0xFFFFFFFF) ^^^ 0xFFFFFFFF).toNat : Int)) ∧ Below w.heap.size w w' := by
  obtain rfl := hx.len
  have hmx : bs.length ≤ 9223372036854775807 := hx.2.1
  go_enter Try.func16, Try.ntmps16
  go_wp2
  have hb0 : Below w.heap.size w (w.alloc (.cells (halvesTo 0).toArray 91)) := below_alloc (Below.refl _ w) _
  have hk0 : Blk (w.alloc (.cells (halvesTo 0).toArray 91)) w.heap.size (halvesTo 0) 91 := Blk.new w _ 91
  go_loopw [11] (fun i wr => ∃ k : Nat, k ≤ 16 ∧ i = .int .i64 k ∧ Blk wr w.heap.size (halvesTo k) 91 ∧ Below w.heap.size w wr) (fun i _ => 16 - (intOf i).toNat)
  case atStart => exact ⟨0, by omega, rfl, hk0, hb0⟩
  case round =>
    obtain ⟨k, hk, rfl, hblk, hb⟩ := hrel
    clear hb0 hk0
    by_cases hlt : k < 16
    · go_wp2
      go_loop [7, 16] (fun v i => ∃ j : Nat, j ≤ 4 ∧ i = .int .i64 j ∧ v = .int .u32 ((iterC j (UInt32.ofNat k)).toNat : Int)) (fun _ i => 4 - (intOf i).toNat)
      case atStart => exact ⟨0, by omega, rfl, by rw [show iterC 0 (UInt32.ofNat k) = UInt32.ofNat k from rfl, ofNat_small k (by omega)]⟩
      case round =>
        obtain ⟨j, hj, rfl, rfl⟩ := hrel
        have HS := Lib.hid (iterC_succ' j (UInt32.ofNat k))
        generalize hr2 : iterC j (UInt32.ofNat k) = r2 at HS ⊢
        have HR2 := Lib.hid hr2; clear hr2
        by_cases hj4 : j < 4
        · go_wp2
          go_round
          case rel => exact ⟨j + 1, by omega, by go_num, by rw [HS.out, step_int]⟩
          case measure => simp [intOf]; omega
        · obtain rfl : j = 4 := by omega
          have hc := hblk.cell k (.int .u32 0) (halvesTo_get k hlt)
          have hf := hblk.free k
          have hblk2 := hblk.set k (.int .u32 (r2.toNat : Int))
          go_wp2
          go_roundw
          case rel => exact ⟨k + 1, by omega, by go_num, by rw [← halvesTo_set k hlt, halfC, HR2.out]; exact hblk2, hb.setCell (Nat.le_refl _) _⟩
          case measure => simp [intOf]; omega
    · obtain rfl : k = 16 := by omega
      go_wp2
      rw [x32_max]
      generalize hs1 : s ^^^ 4294967295 = s1
      have HS1 := Lib.hid hs1; clear hs1
      go_loopw [8, 34] (fun v i wr => ∃ k : Nat, k ≤ bs.length ∧ i = .int .i64 k ∧ v = .int .u32 (((bs.take k).foldl byte2C s1).toNat : Int) ∧ Blk wr w.heap.size halves 91 ∧ Below w.heap.size w wr) (fun _ i _ => bs.length - (intOf i).toNat)
      case atStart => exact ⟨0, by omega, rfl, rfl, by rw [← halvesTo_all]; exact hblk, hb⟩
      case round =>
        obtain ⟨k, hk, rfl, rfl, hblk, hb⟩ := hrel
        by_cases hlt : k < bs.length
        · obtain ⟨ad, rfl, ha⟩ := (hx.below hb (Nat.le_refl _)).byte k hlt
          generalize hr0 : (bs.take k).foldl byte2C s1 = r0
          have HR0 := Lib.hid hr0; clear hr0
          obtain ⟨r1, q1, E1⟩ : ∃ r1 : UInt32, bits .xor .u32 (r0.toNat : Int) ((bs[k].toNat : Int) % 4294967296) = (r1.toNat : Int) ∧ Hid (r1 = r0 ^^^ (bs[k]).toUInt32) := ⟨_, x32_byte _ _, Lib.hid rfl⟩
          obtain ⟨i1, h1, r2, q2, b2, q3, hcell1, E2⟩ := nib_facts r1 wr _ hblk
          obtain ⟨i2, h2, r3, q4, b4, q5, hcell2, E3⟩ := nib_facts r2 wr _ hblk
          go_wp2
          go_roundw
          case rel => exact ⟨k + 1, by omega, by go_num, by rw [List.take_succ_eq_append_getElem hlt, List.foldl_append, HR0.out, E3.out, E2.out, E1.out]; rfl, hblk, hb⟩
          case measure => simp [intOf]; omega
        · obtain rfl : k = bs.length := by omega
          go_wp2
          go_ret
          exact ⟨ret_int (by rw [x32_max, HS1.out]), hb⟩

/-! ### Four bits at a time is bit by bit -/
theorem low_cases (a : UInt32) : a &&& 1 = 0 ∨ a &&& 1 = 1 := by
  have h1 : (a &&& 1).toNat < 2 := by
    rw [UInt32.toNat_and]
    exact Nat.lt_of_le_of_lt Nat.and_le_right (by decide)
  have h : (a &&& 1).toNat = 0 ∨ (a &&& 1).toNat = 1 := by omega
  rcases h with h | h
  · exact .inl (UInt32.toNat_inj.1 h)
  · exact .inr (UInt32.toNat_inj.1 h)
theorem shr_xor (a b c : UInt32) : (a ^^^ b) >>> c = a >>> c ^^^ b >>> c := by
  apply UInt32.toBitVec_inj.1
  simp [BitVec.ushiftRight_xor_distrib]
theorem shr_and (a b c : UInt32) : (a &&& b) >>> c = a >>> c &&& b >>> c := by
  apply UInt32.toBitVec_inj.1
  simp [BitVec.ushiftRight_and_distrib]
theorem and_xor (a b c : UInt32) : (a ^^^ b) &&& c = (a &&& c) ^^^ (b &&& c) := by
  apply UInt32.toBitVec_inj.1
  simp only [UInt32.toBitVec_and, UInt32.toBitVec_xor]
  ext i
  simp
  cases a.toBitVec[i] <;> cases b.toBitVec[i] <;> cases c.toBitVec[i] <;> rfl
theorem stepC_xor (a b : UInt32) : stepC (a ^^^ b) = stepC a ^^^ stepC b := by
  have hab : (a ^^^ b) &&& 1 = (a &&& 1) ^^^ (b &&& 1) := and_xor a b 1
  unfold stepC
  rw [shr_xor, hab]
  rcases low_cases a with ha | ha <;> rcases low_cases b with hb | hb <;> rw [ha, hb]
  · simp
  · simp [UInt32.xor_assoc]
  · simp
    ac_rfl
  · simp
    have : a >>> 1 ^^^ (2197175160 : UInt32) ^^^ (b >>> 1 ^^^ (2197175160 : UInt32)) = a >>> 1 ^^^ b >>> 1 ^^^ ((2197175160 : UInt32) ^^^ (2197175160 : UInt32)) := by ac_rfl
    rw [this]
    simp
theorem iterC_xor (n : Nat) (a b : UInt32) : iterC n (a ^^^ b) = iterC n a ^^^ iterC n b := by
  induction n generalizing a b with
  | zero => rfl
  | succ n ih => show iterC n (stepC (a ^^^ b)) = _; rw [stepC_xor, ih]; rfl
theorem hi_low (r k : UInt32) (h : (15 : UInt32) >>> k &&& 1 = 1) : (r ^^^ (r &&& 15)) >>> k &&& 1 = 0 := by
  rw [shr_xor, and_xor, shr_and, UInt32.and_assoc, h, UInt32.xor_self]
theorem even_step (x : UInt32) (h : x &&& 1 = 0) : stepC x = x >>> 1 := stepC_zero x (by rw [h]; decide)
theorem shr_shr (x : UInt32) : x >>> 1 >>> 1 = x >>> 2 ∧ x >>> 2 >>> 1 = x >>> 3 ∧ x >>> 3 >>> 1 = x >>> 4 := by
  refine ⟨?_, ?_, ?_⟩ <;> (apply UInt32.toNat_inj.1; simp [← Nat.shiftRight_add])
theorem hi_iter (r : UInt32) : iterC 4 (r ^^^ (r &&& 15)) = r >>> 4 := by
  have e0 := hi_low r 0 (by decide)
  have e1 := hi_low r 1 (by decide)
  have e2 := hi_low r 2 (by decide)
  have e3 := hi_low r 3 (by decide)
  have e4 : (r ^^^ (r &&& 15)) >>> 4 = r >>> 4 := by
    rw [shr_xor, shr_and, show (15 : UInt32) >>> 4 = 0 by decide]
    simp
  generalize r ^^^ (r &&& 15) = x at *
  obtain ⟨s1, s2, s3⟩ := shr_shr x
  have e0' : x &&& 1 = 0 := by simpa using e0
  show stepC (stepC (stepC (stepC x))) = _
  rw [even_step x e0', even_step _ e1, s1, even_step _ e2, s2, even_step _ e3, s3, e4]
theorem nib_iter (r : UInt32) : nibC r = iterC 4 r := by
  have e : r = (r ^^^ (r &&& 15)) ^^^ (r &&& 15) := by rw [UInt32.xor_assoc, UInt32.xor_self, UInt32.xor_zero]
  have h := iterC_xor 4 (r ^^^ (r &&& 15)) (r &&& 15)
  rw [← e, hi_iter] at h
  rw [h]
  unfold nibC halfC
  rw [UInt32.ofNat_toNat]
theorem byte2_eq (r : UInt32) (b : UInt8) : byte2C r b = byteC r b := by
  unfold byte2C byteC
  rw [nib_iter, nib_iter]
  rfl
theorem more_ (A : Option Addr) (n c : Nat) (bs : List UInt8) (s : UInt32) (w : World) (hx : Rd w A n (bvs bs)) :
    Calls Try.prog 16 #[.int .u32 (s.toNat : Int), .slice A n c] w fun e w' => e = .returned (.int .u32 ((moreC s bs).toNat : Int)) ∧ Below w.heap.size w w' := by
  have h := more0 A n c bs s w hx
  rwa [show byte2C = byteC from funext fun r => funext fun b => byte2_eq r b] at h

set_option maxHeartbeats 800000 in
set_option maxRecDepth 100000 in
theorem crc_ (A : Option Addr) (n c : Nat) (bs : List UInt8) (w : World) (hx : Rd w A n (bvs bs)) :
    Calls Try.prog 14 #[.slice A n c] w fun e w' => e = .returned (.int .u32 ((moreC 0 bs).toNat : Int)) ∧ Below w.heap.size w w' := by
  go_enter Try.func14, Try.ntmps14
  go_wp2_with (go_at_call 16; refine (more_ A n c bs 0 _ hx).mono ?_; rintro e w' ⟨rfl, hb⟩)
  go_ret
  exact ⟨rfl, hb⟩
end Go.Proofs.Ythdjddpomaendaa.B
