/- One burst is told: the plain law. -/
import Derived.Test.YthdjddpomaendaaB3
namespace Go.Proofs.Ythdjddpomaendaa.B
set_option linter.unusedSimpArgs false

theorem shl_xor (a b c : UInt32) : (a ^^^ b) <<< c = a <<< c ^^^ b <<< c := by
  apply UInt32.eq_of_toBitVec_eq
  simp [BitVec.shiftLeft_xor_distrib]
theorem stepC_inj0 (x : UInt32) (h : stepC x = 0) : x = 0 := by
  by_cases h1 : x &&& 1 = 1
  · rw [stepC_one x h1] at h
    have h2 : x >>> 1 = 0x82F63B78 := by
      have := congrArg (· ^^^ (0x82F63B78 : UInt32)) h
      simpa [UInt32.xor_assoc] using this
    have h3 : (x >>> 1).toNat = 0x82F63B78 := by rw [h2]; rfl
    have h4 : (x >>> 1).toNat = x.toNat / 2 := by simp [UInt32.toNat_shiftRight, Nat.shiftRight_eq_div_pow]
    have := x.toNat_lt
    omega
  · rw [stepC_zero x h1] at h
    have h4 : (x >>> 1).toNat = x.toNat / 2 := by simp [UInt32.toNat_shiftRight, Nat.shiftRight_eq_div_pow]
    have h5 : (x &&& 1).toNat = x.toNat % 2 := by simp [UInt32.toNat_and, Nat.and_one_is_mod]
    rw [h] at h4
    have h6 : (x &&& 1).toNat ≠ 1 := fun h => h1 (UInt32.toNat_inj.1 (by simpa using h))
    apply UInt32.toNat_inj.1
    have h7 : (0 : UInt32).toNat = 0 := rfl
    omega
theorem iterC_inj0 (n : Nat) (x : UInt32) (h : iterC n x = 0) : x = 0 := by
  induction n generalizing x with
  | zero => exact h
  | succ n ih => exact stepC_inj0 x (ih _ h)
theorem iterC_add (m n : Nat) (x : UInt32) : iterC (m + n) x = iterC m (iterC n x) := by
  induction n generalizing x with
  | zero => rfl
  | succ n ih => exact ih (stepC x)
theorem iterC_zero (n : Nat) : iterC n 0 = 0 := by
  induction n with
  | zero => rfl
  | succ n ih => exact ih
theorem runC_cons (s : UInt32) (b : UInt8) (l : List UInt8) : runC s (b :: l) = runC (byteC s b) l := rfl
theorem runC_xor (l : List UInt8) (s d : UInt32) : runC (s ^^^ d) l = runC s l ^^^ iterC (8 * l.length) d := by
  induction l generalizing s d with
  | nil => rfl
  | cons b l ih =>
    rw [runC_cons, runC_cons, show byteC (s ^^^ d) b = byteC s b ^^^ iterC 8 d by
      unfold byteC
      rw [← iterC_xor, UInt32.xor_assoc, UInt32.xor_comm d, ← UInt32.xor_assoc], ih, ← iterC_add]
    rfl
/-- One bit turned. -/
def flip1 (l : List UInt8) (k : Nat) : List UInt8 := l.set (k / 8) (l.getD (k / 8) 0 ^^^ (1 : UInt8) <<< UInt8.ofNat (k % 8))
theorem flip1_length (l : List UInt8) (k : Nat) : (flip1 l k).length = l.length := by simp [flip1]
theorem one_byte (t : Nat) (h : t < 8) : iterC 8 (((1 : UInt8) <<< UInt8.ofNat t).toUInt32) = iterC (8 - t) 1 := by
  match t, h with
  | 0, _ => rfl
  | 1, _ => rfl
  | 2, _ => rfl
  | 3, _ => rfl
  | 4, _ => rfl
  | 5, _ => rfl
  | 6, _ => rfl
  | 7, _ => rfl
theorem one_shl (i : Nat) (h : i < 32) : iterC i ((1 : UInt32) <<< UInt32.ofNat i) = 1 := by
  have : ∀ i : Fin 32, iterC i.1 ((1 : UInt32) <<< UInt32.ofNat i.1) = 1 := by decide
  exact this ⟨i, h⟩
theorem flip1_run (l : List UInt8) (s : UInt32) (k : Nat) (h : k < 8 * l.length) : runC s (flip1 l k) = runC s l ^^^ iterC (8 * l.length - k) 1 := by
  induction l generalizing s k with
  | nil => simp at h
  | cons b l ih =>
    by_cases hk : k < 8
    · have e : flip1 (b :: l) k = (b ^^^ (1 : UInt8) <<< UInt8.ofNat (k % 8)) :: l := by simp [flip1, Nat.div_eq_of_lt hk]
      rw [e, runC_cons, runC_cons, show byteC s (b ^^^ (1 : UInt8) <<< UInt8.ofNat (k % 8)) = byteC s b ^^^ iterC (8 - k) 1 by
        unfold byteC
        rw [UInt8.toUInt32_xor, ← UInt32.xor_assoc, iterC_xor, Nat.mod_eq_of_lt hk, one_byte k hk], runC_xor, ← iterC_add]
      congr 2
      simp; omega
    · have e : flip1 (b :: l) k = b :: flip1 l (k - 8) := by
        obtain ⟨j, rfl⟩ : ∃ j, k = j + 8 := ⟨k - 8, by omega⟩
        simp [flip1]
      rw [e, runC_cons, runC_cons, ih _ _ (by simp at h; omega)]
      congr 2
      simp; omega

/-- The first i bits of a burst, turned. -/
def hot (pat : UInt32) (i : Nat) : Bool := ((pat ||| 1) >>> UInt32.ofNat i) &&& 1 == 1
def burstTo (l : List UInt8) (bit : Nat) (pat : UInt32) : Nat → List UInt8
  | 0 => l
  | i + 1 => if hot pat i = true ∧ bit + i < 8 * l.length then flip1 (burstTo l bit pat i) (bit + i) else burstTo l bit pat i
theorem burstTo_length (l : List UInt8) (bit : Nat) (pat : UInt32) (i : Nat) : (burstTo l bit pat i).length = l.length := by
  induction i with
  | zero => rfl
  | succ i ih =>
    unfold burstTo
    split
    · rw [flip1_length, ih]
    · exact ih
theorem hot_zero (pat : UInt32) : hot pat 0 = true := by
  unfold hot
  rw [beq_iff_eq]
  apply UInt32.toNat_inj.1
  have h : (UInt32.ofNat 0) = 0 := rfl
  rw [h]
  apply Nat.eq_of_testBit_eq
  intro j
  rcases j with _ | j
  · simp [UInt32.toNat_shiftRight, UInt32.toNat_and, UInt32.toNat_or]
  · simp [UInt32.toNat_shiftRight, UInt32.toNat_and, UInt32.toNat_or, Nat.testBit_succ]
theorem odd_keep (acc : UInt32) (i : Nat) (h0 : 0 < i) (h : i < 32) (ha : acc &&& 1 = 1) : (acc ^^^ (1 : UInt32) <<< UInt32.ofNat i) &&& 1 = 1 := by
  have h2 : ∀ i : Fin 32, 0 < i.1 → ((1 : UInt32) <<< UInt32.ofNat i.1) &&& 1 = 0 := by decide
  rw [and_xor, ha, h2 ⟨i, h⟩ h0]
  rfl
theorem burst_run (l : List UInt8) (bit : Nat) (pat : UInt32) (s : UInt32) (hb : bit < 8 * l.length) (i : Nat) (hi : i < 32) :
    ∃ acc : UInt32, acc &&& 1 = 1 ∧ runC s (burstTo l bit pat (i + 1)) = runC s l ^^^ iterC (8 * l.length - bit) acc := by
  induction i with
  | zero =>
    refine ⟨1, rfl, ?_⟩
    show runC s (if hot pat 0 = true ∧ bit + 0 < 8 * l.length then flip1 l (bit + 0) else l) = _
    rw [if_pos ⟨hot_zero pat, hb⟩]
    exact flip1_run l s bit hb
  | succ i ih =>
    obtain ⟨acc, ha, hr⟩ := ih (by omega)
    by_cases h : hot pat (i + 1) = true ∧ bit + (i + 1) < 8 * l.length
    · refine ⟨acc ^^^ (1 : UInt32) <<< UInt32.ofNat (i + 1), odd_keep acc (i + 1) (by omega) hi ha, ?_⟩
      have e : burstTo l bit pat (i + 1 + 1) = flip1 (burstTo l bit pat (i + 1)) (bit + (i + 1)) := if_pos h
      rw [e, flip1_run _ _ _ (by rw [burstTo_length]; exact h.2), hr, burstTo_length, UInt32.xor_assoc, iterC_xor]
      congr 2
      have h3 : 8 * l.length - bit = (8 * l.length - (bit + (i + 1))) + (i + 1) := by omega
      rw [h3, iterC_add _ (i + 1) ((1 : UInt32) <<< UInt32.ofNat (i + 1)), one_shl (i + 1) hi]
    · have e : burstTo l bit pat (i + 1 + 1) = burstTo l bit pat (i + 1) := if_neg h
      exact ⟨acc, ha, by rw [e]; exact hr⟩

theorem stepC_shl (x : UInt32) (h : x.toNat < 2147483648) : stepC (x <<< 1) = x := by
  have h1 : (x <<< 1).toNat = 2 * x.toNat := by
    simp [UInt32.toNat_shiftLeft, Nat.shiftLeft_eq]
    try omega
  have h2 : ¬ (x <<< 1) &&& 1 = 1 := by
    intro hh
    have := congrArg UInt32.toNat hh
    rw [UInt32.toNat_and, show (1 : UInt32).toNat = 1 from rfl, Nat.and_one_is_mod, h1] at this
    omega
  rw [stepC_zero _ h2]
  apply UInt32.toNat_inj.1
  simp [UInt32.toNat_shiftRight, Nat.shiftRight_eq_div_pow, h1]
/-- Four bytes go in as one number. -/
theorem byte_lift (x : UInt32) (h : x.toNat < 16777216) : iterC 8 (x <<< 8) = x := by
  have e : ∀ a b : Nat, a + b < 32 → (x <<< UInt32.ofNat a) <<< UInt32.ofNat b = x <<< UInt32.ofNat (a + b) := by
    intro a b hab
    apply UInt32.toNat_inj.1
    have ha : (UInt32.ofNat a).toNat = a := by simp; omega
    have hb : (UInt32.ofNat b).toNat = b := by simp; omega
    have hc : (UInt32.ofNat (a + b)).toNat = a + b := by simp; omega
    simp only [UInt32.toNat_shiftLeft, Nat.shiftLeft_eq, ha, hb, hc, Nat.mod_eq_of_lt (show a < 32 by omega), Nat.mod_eq_of_lt (show b < 32 by omega), Nat.mod_eq_of_lt hab]
    rw [Nat.mod_mul_mod, Nat.pow_add, Nat.mul_assoc]
  have st : ∀ k, k < 8 → stepC (x <<< UInt32.ofNat (k + 1)) = x <<< UInt32.ofNat k := by
    intro k hk
    rw [← e k 1 (by omega)]
    refine stepC_shl _ ?_
    have hc : (UInt32.ofNat k).toNat = k := by simp; omega
    rw [UInt32.toNat_shiftLeft, Nat.shiftLeft_eq, hc, Nat.mod_eq_of_lt (show k < 32 by omega)]
    have hp : 2 ^ k ≤ 2 ^ 7 := Nat.pow_le_pow_right (by decide) (by omega)
    have : x.toNat * 2 ^ k ≤ x.toNat * 2 ^ 7 := Nat.mul_le_mul_left _ hp
    omega
  have e0 : x <<< UInt32.ofNat 0 = x := by
    apply UInt32.toNat_inj.1
    simp
  show stepC (stepC (stepC (stepC (stepC (stepC (stepC (stepC (x <<< 8)))))))) = x
  have h8 : (8 : UInt32) = UInt32.ofNat (7 + 1) := rfl
  rw [h8, st 7 (by decide), st 6 (by decide), st 5 (by decide), st 4 (by decide), st 3 (by decide), st 2 (by decide), st 1 (by decide), st 0 (by decide), e0]
theorem xor_add (b n : Nat) (hb : b < 256) : b ^^^ (n * 256) = b + 256 * n := by
  have h1 : (b ^^^ (n * 256)) % 2 ^ 8 = b := by
    rw [Nat.xor_mod_two_pow, Nat.mod_eq_of_lt (show b < 2 ^ 8 from hb), show n * 256 % 2 ^ 8 = 0 by omega, Nat.xor_zero]
  have h2 : (b ^^^ (n * 256)) / 2 ^ 8 = n := by
    rw [Nat.xor_div_two_pow, Nat.div_eq_of_lt (show b < 2 ^ 8 from hb), show n * 256 / 2 ^ 8 = n by omega, Nat.zero_xor]
  omega
theorem leNum_lt (s : List UInt8) : leNum s < 256 ^ s.length := by
  induction s with
  | nil => decide
  | cons b t ih =>
    have := b.toNat_lt
    simp only [leNum, List.length_cons, Nat.pow_succ]
    omega
theorem run_few (s : List UInt8) (r : UInt32) (h : s.length ≤ 4) : runC r s = iterC (8 * s.length) (r ^^^ UInt32.ofNat (leNum s)) := by
  induction s generalizing r with
  | nil =>
    have : UInt32.ofNat (leNum []) = 0 := rfl
    rw [this, UInt32.xor_zero]
    rfl
  | cons b t ih =>
    have ht : t.length ≤ 3 := by simpa using h
    have hn := leNum_lt t
    have hp : 256 ^ t.length ≤ 256 ^ 3 := Nat.pow_le_pow_right (by decide) ht
    have hb := b.toNat_lt
    have hN : (UInt32.ofNat (leNum t)).toNat = leNum t := by simp; omega
    have e : b.toUInt32 ^^^ (UInt32.ofNat (leNum t)) <<< 8 = UInt32.ofNat (leNum (b :: t)) := by
      apply UInt32.toNat_inj.1
      have h8 : (8 : UInt32).toNat = 8 := rfl
      rw [UInt32.toNat_xor, UInt32.toNat_shiftLeft, hN, h8, Nat.shiftLeft_eq, Nat.mod_eq_of_lt (show leNum t * 2 ^ (8 % 32) < 2 ^ 32 by rw [show (2 : Nat) ^ (8 % 32) = 256 from rfl]; omega), UInt8.toNat_toUInt32]
      have h2 : (UInt32.ofNat (leNum (b :: t))).toNat = leNum (b :: t) := by simp [leNum]; omega
      rw [h2]
      exact xor_add b.toNat (leNum t) hb
    rw [runC_cons, ih _ (by omega), show byteC r b ^^^ UInt32.ofNat (leNum t) = iterC 8 (r ^^^ UInt32.ofNat (leNum (b :: t))) by
      rw [← e, ← UInt32.xor_assoc, iterC_xor 8 _ ((UInt32.ofNat (leNum t)) <<< 8), byte_lift _ (by rw [hN]; omega)]
      rfl, ← iterC_add]
    rfl
/-- The sum of bytes, and the sum laid behind them. -/
theorem sealed (s : List UInt8) (p : List UInt8) (h : s.length = 4) (he : leNum s = (moreC 0 p).toNat) : runC 0xFFFFFFFF (p ++ s) = iterC 32 0xFFFFFFFF := by
  have e : UInt32.ofNat (leNum s) = moreC 0 p := by rw [he]; simp
  have h2 : runC 0xFFFFFFFF (p ++ s) = runC (runC 0xFFFFFFFF p) s := by unfold runC; rw [List.foldl_append]
  rw [h2, run_few s _ (by omega), e, h]
  congr 1
  show runC 0xFFFFFFFF p ^^^ (runC (0 ^^^ 0xFFFFFFFF) p ^^^ 0xFFFFFFFF) = _
  rw [UInt32.zero_xor, ← UInt32.xor_assoc, UInt32.xor_self, UInt32.zero_xor]
/-- One burst is told. -/
theorem burst_told (p s : List UInt8) (hs : s.length = 4) (he : leNum s = (moreC 0 p).toNat) (bit : Nat) (hb : bit < 8 * (p ++ s).length) (pat : UInt32) :
    leNum ((burstTo (p ++ s) bit pat 32).drop p.length) ≠ (moreC 0 ((burstTo (p ++ s) bit pat 32).take p.length)).toNat := by
  intro hne
  obtain ⟨acc, ha, hr⟩ := burst_run (p ++ s) bit pat 0xFFFFFFFF hb 31 (by decide)
  have hl := burstTo_length (p ++ s) bit pat 32
  have h1 := sealed _ _ (by rw [List.length_drop, hl, List.length_append, hs]; omega) hne
  rw [List.take_append_drop] at h1
  rw [show 31 + 1 = 32 from rfl, h1, sealed s p hs he] at hr
  have h2 : iterC (8 * (p ++ s).length - bit) acc = 0 := by
    have := congrArg (iterC 32 0xFFFFFFFF ^^^ ·) hr
    simp only [UInt32.xor_self, ← UInt32.xor_assoc, UInt32.zero_xor] at this
    exact this.symm
  have h3 := iterC_inj0 _ _ h2
  rw [h3] at ha
  exact absurd ha (by decide)
end Go.Proofs.Ythdjddpomaendaa.B
