/- Sums of numbers: what they are; Mul64; the reference's own. Printed by gen_sums.py. -/
import Derived.Test.YthdjddpomaendaaGreatN1
import Derived.Lib.Mul64
import Derived.Laws.Bits64b
import Derived.IntWalk
namespace Go.Proofs.YthdjddpomaendaaGreat.B
open Go.RowKit
set_option linter.unusedVariables false
set_option linter.unusedSimpArgs false

def addV (M a b : Nat) : Nat := if a + b < M then a + b else 0
def addO (M a b : Nat) : Bool := decide (a + b < M)
def subV (a b : Nat) : Nat := if b ≤ a then a - b else 0
def subO (a b : Nat) : Bool := decide (b ≤ a)
def mulV (M a b : Nat) : Nat := if a * b < M then a * b else 0
def mulO (M a b : Nat) : Bool := decide (a * b < M)
def upM (a b : Nat) : Nat := (if a % b = 0 then a / b else a / b + 1) * b
def upV (M a b : Nat) : Nat := if b = 0 then 0 else if upM a b < M then upM a b else 0
def upO (M a b : Nat) : Bool := if b = 0 then false else decide (upM a b < M)
def toV (M a : Nat) : Nat := if a < M then a else 0
def toO (M a : Nat) : Bool := decide (a < M)
theorem addV_lt {M : Nat} (hM : 0 < M) (a b : Nat) : addV M a b < M := by unfold addV; split <;> omega
theorem subV_lt {M a : Nat} (ha : a < M) (b : Nat) : subV a b < M := by unfold subV; split <;> omega
theorem mulV_lt {M : Nat} (hM : 0 < M) (a b : Nat) : mulV M a b < M := by unfold mulV; split <;> omega
theorem upV_lt {M : Nat} (hM : 0 < M) (a b : Nat) : upV M a b < M := by unfold upV; split <;> (try split) <;> omega
theorem toV_lt {M : Nat} (hM : 0 < M) (a : Nat) : toV M a < M := by unfold toV; split <;> omega
theorem upM_zero {a b : Nat} (h : a % b = 0) : upM a b = a := by
  unfold upM
  rw [if_pos h]
  have := Nat.div_add_mod a b
  rw [h, Nat.add_zero, Nat.mul_comm] at this
  exact this
theorem upM_more {a b : Nat} (h : a % b ≠ 0) : upM a b = a - a % b + b := by
  unfold upM
  rw [if_neg h, Nat.succ_mul]
  have h2 := Nat.div_add_mod a b
  rw [Nat.mul_comm] at h2
  omega
theorem ret_two {k : IntKind} {a b : Int} {p q : Bool} (h : a = b) (h2 : p = q) : Ending.returned (.tuple #[.int k a, .bool p]) = .returned (.tuple #[.int k b, .bool q]) := by rw [h, h2]
theorem wu16 (n : Int) : IntKind.u16.wrap n = n % 65536 := by simp [IntKind.wrap, IntKind.bits, IntKind.signed]
theorem wu64 (n : Int) : IntKind.u64.wrap n = n % 18446744073709551616 := by simp [IntKind.wrap, IntKind.bits, IntKind.signed]
theorem maskN (a : Nat) (ha : a < 18446744073709551616) : Go.bits .and .u64 (a : Int) 4294967295 = ((a % 4294967296 : Nat) : Int) := by
  have h := bits_and_u64_nat a 4294967295 ha (by omega)
  have e : a &&& 4294967295 = a % 4294967296 := Nat.and_two_pow_sub_one_eq_mod a 32
  rw [e] at h
  exact h
theorem divN (a : Nat) : (a : Int) / 4294967296 = ((a / 4294967296 : Nat) : Int) := by omega
theorem mulN (a b : Nat) : (a : Int) * (b : Int) = ((a * b : Nat) : Int) := (Int.natCast_mul a b).symm
theorem addN (a b : Nat) : (a : Int) + (b : Int) = ((a + b : Nat) : Int) := (Int.natCast_add a b).symm
theorem wrapN (a : Nat) (ha : a < 18446744073709551616) : IntKind.u64.wrap (a : Int) = (a : Int) := by rw [wu64]; omega
theorem wrapM (a : Nat) : IntKind.u64.wrap (a : Int) = ((a % 18446744073709551616 : Nat) : Int) := by rw [wu64]; omega
def mulF (a0 a1 : Int) : Int × Int := (IntKind.u64.wrap ((IntKind.u64.wrap ((IntKind.u64.wrap ((a0 / 4294967296) * (a1 / 4294967296))) + ((IntKind.u64.wrap ((IntKind.u64.wrap ((a0 / 4294967296) * (Go.bits .and .u64 a1 4294967295))) + ((IntKind.u64.wrap ((Go.bits .and .u64 a0 4294967295) * (Go.bits .and .u64 a1 4294967295))) / 4294967296))) / 4294967296))) + ((IntKind.u64.wrap ((Go.bits .and .u64 (IntKind.u64.wrap ((IntKind.u64.wrap ((a0 / 4294967296) * (Go.bits .and .u64 a1 4294967295))) + ((IntKind.u64.wrap ((Go.bits .and .u64 a0 4294967295) * (Go.bits .and .u64 a1 4294967295))) / 4294967296))) 4294967295) + (IntKind.u64.wrap ((Go.bits .and .u64 a0 4294967295) * (a1 / 4294967296))))) / 4294967296)), IntKind.u64.wrap (a0 * a1))
theorem mulF_eq (x y : Nat) (hx : x < 18446744073709551616) (hy : y < 18446744073709551616) :
    mulF x y = (((x * y / 18446744073709551616 : Nat) : Int), ((x * y % 18446744073709551616 : Nat) : Int)) := by
  obtain ⟨bd, bt, bw, hhi⟩ := Lib.mul64_hi x y hx hy
  have ba := Lib.half_mul_le (a := x / 4294967296) (b := y / 4294967296) (by omega) (by omega)
  have bb := Lib.half_mul_le (a := x / 4294967296) (b := y % 4294967296) (by omega) (by omega)
  have bc := Lib.half_mul_le (a := x % 4294967296) (b := y / 4294967296) (by omega) (by omega)
  have ba' : x / 4294967296 * (y / 4294967296) < 18446744073709551616 := by omega
  have bb' : x / 4294967296 * (y % 4294967296) < 18446744073709551616 := by omega
  have bc' : x % 4294967296 * (y / 4294967296) < 18446744073709551616 := by omega
  have bh1 : x / 4294967296 * (y / 4294967296) + (x / 4294967296 * (y % 4294967296) + x % 4294967296 * (y % 4294967296) / 4294967296) / 4294967296 < 18446744073709551616 := by omega
  have bh : x / 4294967296 * (y / 4294967296) + (x / 4294967296 * (y % 4294967296) + x % 4294967296 * (y % 4294967296) / 4294967296) / 4294967296 + ((x / 4294967296 * (y % 4294967296) + x % 4294967296 * (y % 4294967296) / 4294967296) % 4294967296 + x % 4294967296 * (y / 4294967296)) / 4294967296 < 18446744073709551616 := by omega
  unfold mulF
  simp only [maskN x hx, maskN y hy, divN, mulN, addN, wrapN _ bd, wrapN _ bb', wrapN _ bt, maskN _ bt, wrapN _ bc', wrapN _ bw, wrapN _ ba', wrapN _ bh1, wrapN _ bh, wrapM (x * y)]
  rw [hhi]
set_option maxHeartbeats 8000000 in
set_option maxRecDepth 100000 in
theorem mul64_i (a0 a1 : Int) (w : World) : Calls Tryz.prog 128 #[.int .u64 a0, .int .u64 a1] w fun e w' => e = .returned (.tuple #[.int .u64 (mulF a0 a1).1, .int .u64 (mulF a0 a1).2]) ∧ w' = w := by
  unfold mulF
  go_enter Tryz.func128, Tryz.ntmps128
  go_wp2
  go_ret2
  exact ⟨by first | rfl | (simp; done), rfl⟩
theorem mul64_ (x y : Nat) (w : World) (hx : x < 18446744073709551616) (hy : y < 18446744073709551616) : Calls Tryz.prog 128 #[.int .u64 (x : Int), .int .u64 (y : Int)] w fun e w' => e = .returned (.tuple #[.int .u64 ((x * y / 18446744073709551616 : Nat) : Int), .int .u64 ((x * y % 18446744073709551616 : Nat) : Int)]) ∧ w' = w := by
  have h := mul64_i x y w
  rw [mulF_eq x y hx hy] at h
  exact h
/-! ### The reference's -/
set_option maxHeartbeats 1600000 in
set_option maxRecDepth 100000 in
theorem greatest1 (w : World) : Calls Tryz.prog 29 #[.int .i64 1] w fun e w' => e = .returned (.int .u64 255) ∧ w' = w := by
  go_enter Tryz.func29, Tryz.ntmps29
  go_wp2
  go_rounds 3
  go_ret
  exact ⟨rfl, rfl⟩
set_option maxHeartbeats 1600000 in
set_option maxRecDepth 100000 in
theorem refAdd1 (a b : Nat) (w : World) (ha : a < 256) (hb : b < 256) : Calls Tryz.prog 86 #[.int .u64 (a : Int), .int .u64 (b : Int), .int .i64 1] w fun e w' => e = .returned (.tuple #[.int .u64 ((addV 256 a b : Nat) : Int), .bool (addO 256 a b)]) ∧ w' = w := by
  by_cases h : a + b < 256
  · have HE := Lib.hid (show addV 256 a b = a + b ∧ addO 256 a b = true from ⟨if_pos h, decide_eq_true h⟩)
    have t1 : decide ((255 : Int) - (b : Int) < (a : Int)) = false := decide_eq_false (by omega)
    go_enter Tryz.func86, Tryz.ntmps86
    go_wp2_with (go_at_call 29; refine (greatest1 _).mono ?_; rintro e w' ⟨rfl, rfl⟩)
    go_ret2
    exact ⟨ret_two (by rw [HE.out.1]; omega) HE.out.2.symm, rfl⟩
  · have HE := Lib.hid (show addV 256 a b = 0 ∧ addO 256 a b = false from ⟨if_neg h, decide_eq_false h⟩)
    have t1 : decide ((255 : Int) - (b : Int) < (a : Int)) = true := decide_eq_true (by omega)
    go_enter Tryz.func86, Tryz.ntmps86
    go_wp2_with (go_at_call 29; refine (greatest1 _).mono ?_; rintro e w' ⟨rfl, rfl⟩)
    go_ret2
    exact ⟨ret_two (by rw [HE.out.1]; rfl) HE.out.2.symm, rfl⟩
set_option maxHeartbeats 1600000 in
set_option maxRecDepth 100000 in
theorem refSub1 (a b : Nat) (w : World) (ha : a < 256) (hb : b < 256) : Calls Tryz.prog 88 #[.int .u64 (a : Int), .int .u64 (b : Int), .int .i64 1] w fun e w' => e = .returned (.tuple #[.int .u64 ((subV a b : Nat) : Int), .bool (subO a b)]) ∧ w' = w := by
  by_cases h : b ≤ a
  · have HE := Lib.hid (show subV a b = a - b ∧ subO a b = true from ⟨if_pos h, decide_eq_true h⟩)
    have t1 : decide (a < b) = false := decide_eq_false (by omega)
    go_enter Tryz.func88, Tryz.ntmps88
    go_wp2_with fail
    go_ret2
    exact ⟨ret_two (by rw [HE.out.1]; omega) HE.out.2.symm, rfl⟩
  · have HE := Lib.hid (show subV a b = 0 ∧ subO a b = false from ⟨if_neg h, decide_eq_false h⟩)
    have t1 : decide (a < b) = true := decide_eq_true (by omega)
    go_enter Tryz.func88, Tryz.ntmps88
    go_wp2_with fail
    go_ret2
    exact ⟨ret_two (by rw [HE.out.1]; rfl) HE.out.2.symm, rfl⟩
set_option maxHeartbeats 1600000 in
set_option maxRecDepth 100000 in
theorem refMul1 (a b : Nat) (w : World) (ha : a < 256) (hb : b < 256) : Calls Tryz.prog 90 #[.int .u64 (a : Int), .int .u64 (b : Int), .int .i64 1] w fun e w' => e = .returned (.tuple #[.int .u64 ((mulV 256 a b : Nat) : Int), .bool (mulO 256 a b)]) ∧ w' = w := by
  by_cases h0 : a = 0
  · subst h0
    have HE := Lib.hid (show mulV 256 0 b = 0 ∧ mulO 256 0 b = true from ⟨by unfold mulV; simp, by unfold mulO; simp⟩)
    go_enter Tryz.func90, Tryz.ntmps90
    go_wp2_with fail
    go_ret2
    exact ⟨ret_two (by rw [HE.out.1]; first | rfl | (simp; done)) HE.out.2.symm, rfl⟩
  · have hpos : 0 < a := by omega
    have t0 : decide (0 < a) = true := decide_eq_true hpos
    obtain ⟨q, hq⟩ : ∃ q : Nat, 255 / a = q := ⟨_, rfl⟩
    have hqi : (255 : Int) / (a : Int) = (q : Int) := by rw [← hq]; exact (Int.natCast_ediv 255 a).symm
    have hqt : (255 : Int).tdiv (a : Int) = (q : Int) := by rw [Int.tdiv_eq_ediv_of_nonneg (by decide)]; exact hqi
    have hkey : q < b ↔ ¬ a * b < 256 := by
      rw [← hq, Nat.div_lt_iff_lt_mul hpos, Nat.mul_comm]
      omega
    by_cases h : a * b < 256
    · have hp : ((a : Int) * (b : Int)) = ((a * b : Nat) : Int) := (Int.natCast_mul a b).symm
      have hw : IntKind.u64.wrap ((a : Int) * (b : Int)) = ((a * b : Nat) : Int) := by rw [hp, wu64]; omega
      have HE := Lib.hid (show mulV 256 a b = a * b ∧ mulO 256 a b = true from ⟨if_pos h, decide_eq_true h⟩)
      have t1 : decide (q < b) = false := decide_eq_false (fun hh => hkey.1 hh h)
      have HP := Lib.hid hp
      have hqb : q ≤ 255 := by rw [← hq]; exact Nat.div_le_self _ _
      clear hq hkey h hp
      go_enter Tryz.func90, Tryz.ntmps90
      go_wp2_with (go_at_call 29; refine (greatest1 _).mono ?_; rintro e w' ⟨rfl, rfl⟩)
      go_ret2
      exact ⟨ret_two (by rw [HE.out.1]; first | rfl | exact HP.out) HE.out.2.symm, rfl⟩
    · have HE := Lib.hid (show mulV 256 a b = 0 ∧ mulO 256 a b = false from ⟨if_neg h, decide_eq_false h⟩)
      have t1 : decide (q < b) = true := decide_eq_true (hkey.2 h)
      have hqb : q ≤ 255 := by rw [← hq]; exact Nat.div_le_self _ _
      clear hq hkey h
      go_enter Tryz.func90, Tryz.ntmps90
      go_wp2_with (go_at_call 29; refine (greatest1 _).mono ?_; rintro e w' ⟨rfl, rfl⟩)
      go_ret2
      exact ⟨ret_two (by rw [HE.out.1]; rfl) HE.out.2.symm, rfl⟩
set_option maxHeartbeats 1600000 in
set_option maxRecDepth 100000 in
theorem refUp1 (a b : Nat) (w : World) (ha : a < 256) (hb : b < 256) : Calls Tryz.prog 92 #[.int .u64 (a : Int), .int .u64 (b : Int), .int .i64 1] w fun e w' => e = .returned (.tuple #[.int .u64 ((upV 256 a b : Nat) : Int), .bool (upO 256 a b)]) ∧ w' = w := by
  by_cases h0 : b = 0
  · subst h0
    have HE := Lib.hid (show upV 256 a 0 = 0 ∧ upO 256 a 0 = false from ⟨if_pos rfl, if_pos rfl⟩)
    go_enter Tryz.func92, Tryz.ntmps92
    go_wp2_with fail
    go_ret2
    exact ⟨ret_two (by rw [HE.out.1]; rfl) HE.out.2.symm, rfl⟩
  · have hpos : 0 < b := by omega
    have t0 : (b == 0) = false := beq_eq_false_iff_ne.2 h0
    have t0' : ((b : Int) == 0) = false := beq_eq_false_iff_ne.2 (by omega)
    have hbi : (b : Int) ≠ 0 := by omega
    obtain ⟨q, hq⟩ : ∃ q : Nat, a / b = q := ⟨_, rfl⟩
    obtain ⟨r, hr⟩ : ∃ r : Nat, a % b = r := ⟨_, rfl⟩
    have hqi : (a : Int) / (b : Int) = (q : Int) := by rw [← hq]; exact (Int.natCast_ediv a b).symm
    have hri : (a : Int) % (b : Int) = (r : Int) := by rw [← hr]; exact (Int.natCast_emod a b).symm
    have hqa : q ≤ a := by rw [← hq]; exact Nat.div_le_self _ _
    by_cases hz : r = 0
    · have HE := Lib.hid (show upV 256 a b = mulV 256 q b ∧ upO 256 a b = mulO 256 q b from by
        have e : upM a b = q * b := by unfold upM; rw [if_pos (by rw [hr]; exact hz), hq]
        unfold upV upO mulV mulO
        rw [if_neg h0, if_neg h0, e]; exact ⟨rfl, rfl⟩)
      subst hz
      clear hq hr h0
      go_enter Tryz.func92, Tryz.ntmps92
      go_wp2_with (go_at_call 90; refine (refMul1 q b _ (by omega) hb).mono ?_; rintro e w' ⟨rfl, rfl⟩)
      go_ret2
      exact ⟨ret_two (by rw [HE.out.1]) HE.out.2.symm, rfl⟩
    · have hrp : 0 < r := by omega
      have t1 : decide (0 < r) = true := decide_eq_true hrp
      have hq1 : q + 1 ≤ a := by
        have h2 := Nat.div_add_mod a b
        rw [hq, hr] at h2
        have h3 : q ≤ b * q := Nat.le_mul_of_pos_left q hpos
        omega
      have HE := Lib.hid (show upV 256 a b = mulV 256 (q + 1) b ∧ upO 256 a b = mulO 256 (q + 1) b from by
        have e : upM a b = (q + 1) * b := by unfold upM; rw [if_neg (by rw [hr]; exact hz), hq]
        unfold upV upO mulV mulO
        rw [if_neg h0, if_neg h0, e]; exact ⟨rfl, rfl⟩)
      have hm := refMul1 (q + 1) b w (by omega) hb
      rw [Int.natCast_add, Int.natCast_one] at hm
      have HMM := Lib.hid hm
      clear hq hr h0 hz hm
      go_enter Tryz.func92, Tryz.ntmps92
      go_wp2_with (go_at_call 90; refine HMM.out.mono ?_; rintro e w' ⟨rfl, rfl⟩)
      go_ret2
      exact ⟨ret_two (by rw [HE.out.1]) HE.out.2.symm, rfl⟩
set_option maxHeartbeats 1600000 in
set_option maxRecDepth 100000 in
theorem refTo1 (a : Nat) (w : World) (ha : a < 18446744073709551616) : Calls Tryz.prog 53 #[.int .u64 (a : Int), .int .i64 1] w fun e w' => e = .returned (.tuple #[.int .u64 ((toV 256 a : Nat) : Int), .bool (toO 256 a)]) ∧ w' = w := by
  by_cases h : a < 256
  · have HE := Lib.hid (show toV 256 a = a ∧ toO 256 a = true from ⟨if_pos h, decide_eq_true h⟩)
    have t1 : decide ((255 : Int) < (a : Int)) = false := decide_eq_false (by omega)
    have t2 : decide (255 < a) = false := decide_eq_false (by omega)
    go_enter Tryz.func53, Tryz.ntmps53
    go_wp2_with (go_at_call 29; refine (greatest1 _).mono ?_; rintro e w' ⟨rfl, rfl⟩)
    go_ret2
    exact ⟨ret_two (by rw [HE.out.1]) HE.out.2.symm, rfl⟩
  · have HE := Lib.hid (show toV 256 a = 0 ∧ toO 256 a = false from ⟨if_neg h, decide_eq_false h⟩)
    have t1 : decide ((255 : Int) < (a : Int)) = true := decide_eq_true (by omega)
    have t2 : decide (255 < a) = true := decide_eq_true (by omega)
    go_enter Tryz.func53, Tryz.ntmps53
    go_wp2_with (go_at_call 29; refine (greatest1 _).mono ?_; rintro e w' ⟨rfl, rfl⟩)
    go_ret2
    exact ⟨ret_two (by rw [HE.out.1]; rfl) HE.out.2.symm, rfl⟩
set_option maxHeartbeats 1600000 in
set_option maxRecDepth 100000 in
theorem greatest2 (w : World) : Calls Tryz.prog 29 #[.int .i64 2] w fun e w' => e = .returned (.int .u64 65535) ∧ w' = w := by
  go_enter Tryz.func29, Tryz.ntmps29
  go_wp2
  go_rounds 4
  go_ret
  exact ⟨rfl, rfl⟩
set_option maxHeartbeats 1600000 in
set_option maxRecDepth 100000 in
theorem refAdd2 (a b : Nat) (w : World) (ha : a < 65536) (hb : b < 65536) : Calls Tryz.prog 86 #[.int .u64 (a : Int), .int .u64 (b : Int), .int .i64 2] w fun e w' => e = .returned (.tuple #[.int .u64 ((addV 65536 a b : Nat) : Int), .bool (addO 65536 a b)]) ∧ w' = w := by
  by_cases h : a + b < 65536
  · have HE := Lib.hid (show addV 65536 a b = a + b ∧ addO 65536 a b = true from ⟨if_pos h, decide_eq_true h⟩)
    have t1 : decide ((65535 : Int) - (b : Int) < (a : Int)) = false := decide_eq_false (by omega)
    go_enter Tryz.func86, Tryz.ntmps86
    go_wp2_with (go_at_call 29; refine (greatest2 _).mono ?_; rintro e w' ⟨rfl, rfl⟩)
    go_ret2
    exact ⟨ret_two (by rw [HE.out.1]; omega) HE.out.2.symm, rfl⟩
  · have HE := Lib.hid (show addV 65536 a b = 0 ∧ addO 65536 a b = false from ⟨if_neg h, decide_eq_false h⟩)
    have t1 : decide ((65535 : Int) - (b : Int) < (a : Int)) = true := decide_eq_true (by omega)
    go_enter Tryz.func86, Tryz.ntmps86
    go_wp2_with (go_at_call 29; refine (greatest2 _).mono ?_; rintro e w' ⟨rfl, rfl⟩)
    go_ret2
    exact ⟨ret_two (by rw [HE.out.1]; rfl) HE.out.2.symm, rfl⟩
set_option maxHeartbeats 1600000 in
set_option maxRecDepth 100000 in
theorem refSub2 (a b : Nat) (w : World) (ha : a < 65536) (hb : b < 65536) : Calls Tryz.prog 88 #[.int .u64 (a : Int), .int .u64 (b : Int), .int .i64 2] w fun e w' => e = .returned (.tuple #[.int .u64 ((subV a b : Nat) : Int), .bool (subO a b)]) ∧ w' = w := by
  by_cases h : b ≤ a
  · have HE := Lib.hid (show subV a b = a - b ∧ subO a b = true from ⟨if_pos h, decide_eq_true h⟩)
    have t1 : decide (a < b) = false := decide_eq_false (by omega)
    go_enter Tryz.func88, Tryz.ntmps88
    go_wp2_with fail
    go_ret2
    exact ⟨ret_two (by rw [HE.out.1]; omega) HE.out.2.symm, rfl⟩
  · have HE := Lib.hid (show subV a b = 0 ∧ subO a b = false from ⟨if_neg h, decide_eq_false h⟩)
    have t1 : decide (a < b) = true := decide_eq_true (by omega)
    go_enter Tryz.func88, Tryz.ntmps88
    go_wp2_with fail
    go_ret2
    exact ⟨ret_two (by rw [HE.out.1]; rfl) HE.out.2.symm, rfl⟩
set_option maxHeartbeats 1600000 in
set_option maxRecDepth 100000 in
theorem refMul2 (a b : Nat) (w : World) (ha : a < 65536) (hb : b < 65536) : Calls Tryz.prog 90 #[.int .u64 (a : Int), .int .u64 (b : Int), .int .i64 2] w fun e w' => e = .returned (.tuple #[.int .u64 ((mulV 65536 a b : Nat) : Int), .bool (mulO 65536 a b)]) ∧ w' = w := by
  by_cases h0 : a = 0
  · subst h0
    have HE := Lib.hid (show mulV 65536 0 b = 0 ∧ mulO 65536 0 b = true from ⟨by unfold mulV; simp, by unfold mulO; simp⟩)
    go_enter Tryz.func90, Tryz.ntmps90
    go_wp2_with fail
    go_ret2
    exact ⟨ret_two (by rw [HE.out.1]; first | rfl | (simp; done)) HE.out.2.symm, rfl⟩
  · have hpos : 0 < a := by omega
    have t0 : decide (0 < a) = true := decide_eq_true hpos
    obtain ⟨q, hq⟩ : ∃ q : Nat, 65535 / a = q := ⟨_, rfl⟩
    have hqi : (65535 : Int) / (a : Int) = (q : Int) := by rw [← hq]; exact (Int.natCast_ediv 65535 a).symm
    have hqt : (65535 : Int).tdiv (a : Int) = (q : Int) := by rw [Int.tdiv_eq_ediv_of_nonneg (by decide)]; exact hqi
    have hkey : q < b ↔ ¬ a * b < 65536 := by
      rw [← hq, Nat.div_lt_iff_lt_mul hpos, Nat.mul_comm]
      omega
    by_cases h : a * b < 65536
    · have hp : ((a : Int) * (b : Int)) = ((a * b : Nat) : Int) := (Int.natCast_mul a b).symm
      have hw : IntKind.u64.wrap ((a : Int) * (b : Int)) = ((a * b : Nat) : Int) := by rw [hp, wu64]; omega
      have HE := Lib.hid (show mulV 65536 a b = a * b ∧ mulO 65536 a b = true from ⟨if_pos h, decide_eq_true h⟩)
      have t1 : decide (q < b) = false := decide_eq_false (fun hh => hkey.1 hh h)
      have HP := Lib.hid hp
      have hqb : q ≤ 65535 := by rw [← hq]; exact Nat.div_le_self _ _
      clear hq hkey h hp
      go_enter Tryz.func90, Tryz.ntmps90
      go_wp2_with (go_at_call 29; refine (greatest2 _).mono ?_; rintro e w' ⟨rfl, rfl⟩)
      go_ret2
      exact ⟨ret_two (by rw [HE.out.1]; first | rfl | exact HP.out) HE.out.2.symm, rfl⟩
    · have HE := Lib.hid (show mulV 65536 a b = 0 ∧ mulO 65536 a b = false from ⟨if_neg h, decide_eq_false h⟩)
      have t1 : decide (q < b) = true := decide_eq_true (hkey.2 h)
      have hqb : q ≤ 65535 := by rw [← hq]; exact Nat.div_le_self _ _
      clear hq hkey h
      go_enter Tryz.func90, Tryz.ntmps90
      go_wp2_with (go_at_call 29; refine (greatest2 _).mono ?_; rintro e w' ⟨rfl, rfl⟩)
      go_ret2
      exact ⟨ret_two (by rw [HE.out.1]; rfl) HE.out.2.symm, rfl⟩
set_option maxHeartbeats 1600000 in
set_option maxRecDepth 100000 in
theorem refUp2 (a b : Nat) (w : World) (ha : a < 65536) (hb : b < 65536) : Calls Tryz.prog 92 #[.int .u64 (a : Int), .int .u64 (b : Int), .int .i64 2] w fun e w' => e = .returned (.tuple #[.int .u64 ((upV 65536 a b : Nat) : Int), .bool (upO 65536 a b)]) ∧ w' = w := by
  by_cases h0 : b = 0
  · subst h0
    have HE := Lib.hid (show upV 65536 a 0 = 0 ∧ upO 65536 a 0 = false from ⟨if_pos rfl, if_pos rfl⟩)
    go_enter Tryz.func92, Tryz.ntmps92
    go_wp2_with fail
    go_ret2
    exact ⟨ret_two (by rw [HE.out.1]; rfl) HE.out.2.symm, rfl⟩
  · have hpos : 0 < b := by omega
    have t0 : (b == 0) = false := beq_eq_false_iff_ne.2 h0
    have t0' : ((b : Int) == 0) = false := beq_eq_false_iff_ne.2 (by omega)
    have hbi : (b : Int) ≠ 0 := by omega
    obtain ⟨q, hq⟩ : ∃ q : Nat, a / b = q := ⟨_, rfl⟩
    obtain ⟨r, hr⟩ : ∃ r : Nat, a % b = r := ⟨_, rfl⟩
    have hqi : (a : Int) / (b : Int) = (q : Int) := by rw [← hq]; exact (Int.natCast_ediv a b).symm
    have hri : (a : Int) % (b : Int) = (r : Int) := by rw [← hr]; exact (Int.natCast_emod a b).symm
    have hqa : q ≤ a := by rw [← hq]; exact Nat.div_le_self _ _
    by_cases hz : r = 0
    · have HE := Lib.hid (show upV 65536 a b = mulV 65536 q b ∧ upO 65536 a b = mulO 65536 q b from by
        have e : upM a b = q * b := by unfold upM; rw [if_pos (by rw [hr]; exact hz), hq]
        unfold upV upO mulV mulO
        rw [if_neg h0, if_neg h0, e]; exact ⟨rfl, rfl⟩)
      subst hz
      clear hq hr h0
      go_enter Tryz.func92, Tryz.ntmps92
      go_wp2_with (go_at_call 90; refine (refMul2 q b _ (by omega) hb).mono ?_; rintro e w' ⟨rfl, rfl⟩)
      go_ret2
      exact ⟨ret_two (by rw [HE.out.1]) HE.out.2.symm, rfl⟩
    · have hrp : 0 < r := by omega
      have t1 : decide (0 < r) = true := decide_eq_true hrp
      have hq1 : q + 1 ≤ a := by
        have h2 := Nat.div_add_mod a b
        rw [hq, hr] at h2
        have h3 : q ≤ b * q := Nat.le_mul_of_pos_left q hpos
        omega
      have HE := Lib.hid (show upV 65536 a b = mulV 65536 (q + 1) b ∧ upO 65536 a b = mulO 65536 (q + 1) b from by
        have e : upM a b = (q + 1) * b := by unfold upM; rw [if_neg (by rw [hr]; exact hz), hq]
        unfold upV upO mulV mulO
        rw [if_neg h0, if_neg h0, e]; exact ⟨rfl, rfl⟩)
      have hm := refMul2 (q + 1) b w (by omega) hb
      rw [Int.natCast_add, Int.natCast_one] at hm
      have HMM := Lib.hid hm
      clear hq hr h0 hz hm
      go_enter Tryz.func92, Tryz.ntmps92
      go_wp2_with (go_at_call 90; refine HMM.out.mono ?_; rintro e w' ⟨rfl, rfl⟩)
      go_ret2
      exact ⟨ret_two (by rw [HE.out.1]) HE.out.2.symm, rfl⟩
set_option maxHeartbeats 1600000 in
set_option maxRecDepth 100000 in
theorem refTo2 (a : Nat) (w : World) (ha : a < 18446744073709551616) : Calls Tryz.prog 53 #[.int .u64 (a : Int), .int .i64 2] w fun e w' => e = .returned (.tuple #[.int .u64 ((toV 65536 a : Nat) : Int), .bool (toO 65536 a)]) ∧ w' = w := by
  by_cases h : a < 65536
  · have HE := Lib.hid (show toV 65536 a = a ∧ toO 65536 a = true from ⟨if_pos h, decide_eq_true h⟩)
    have t1 : decide ((65535 : Int) < (a : Int)) = false := decide_eq_false (by omega)
    have t2 : decide (65535 < a) = false := decide_eq_false (by omega)
    go_enter Tryz.func53, Tryz.ntmps53
    go_wp2_with (go_at_call 29; refine (greatest2 _).mono ?_; rintro e w' ⟨rfl, rfl⟩)
    go_ret2
    exact ⟨ret_two (by rw [HE.out.1]) HE.out.2.symm, rfl⟩
  · have HE := Lib.hid (show toV 65536 a = 0 ∧ toO 65536 a = false from ⟨if_neg h, decide_eq_false h⟩)
    have t1 : decide ((65535 : Int) < (a : Int)) = true := decide_eq_true (by omega)
    have t2 : decide (65535 < a) = true := decide_eq_true (by omega)
    go_enter Tryz.func53, Tryz.ntmps53
    go_wp2_with (go_at_call 29; refine (greatest2 _).mono ?_; rintro e w' ⟨rfl, rfl⟩)
    go_ret2
    exact ⟨ret_two (by rw [HE.out.1]; rfl) HE.out.2.symm, rfl⟩
set_option maxHeartbeats 1600000 in
set_option maxRecDepth 100000 in
theorem greatest4 (w : World) : Calls Tryz.prog 29 #[.int .i64 4] w fun e w' => e = .returned (.int .u64 4294967295) ∧ w' = w := by
  go_enter Tryz.func29, Tryz.ntmps29
  go_wp2
  go_rounds 6
  go_ret
  exact ⟨rfl, rfl⟩
set_option maxHeartbeats 1600000 in
set_option maxRecDepth 100000 in
theorem refAdd4 (a b : Nat) (w : World) (ha : a < 4294967296) (hb : b < 4294967296) : Calls Tryz.prog 86 #[.int .u64 (a : Int), .int .u64 (b : Int), .int .i64 4] w fun e w' => e = .returned (.tuple #[.int .u64 ((addV 4294967296 a b : Nat) : Int), .bool (addO 4294967296 a b)]) ∧ w' = w := by
  by_cases h : a + b < 4294967296
  · have HE := Lib.hid (show addV 4294967296 a b = a + b ∧ addO 4294967296 a b = true from ⟨if_pos h, decide_eq_true h⟩)
    have t1 : decide ((4294967295 : Int) - (b : Int) < (a : Int)) = false := decide_eq_false (by omega)
    go_enter Tryz.func86, Tryz.ntmps86
    go_wp2_with (go_at_call 29; refine (greatest4 _).mono ?_; rintro e w' ⟨rfl, rfl⟩)
    go_ret2
    exact ⟨ret_two (by rw [HE.out.1]; omega) HE.out.2.symm, rfl⟩
  · have HE := Lib.hid (show addV 4294967296 a b = 0 ∧ addO 4294967296 a b = false from ⟨if_neg h, decide_eq_false h⟩)
    have t1 : decide ((4294967295 : Int) - (b : Int) < (a : Int)) = true := decide_eq_true (by omega)
    go_enter Tryz.func86, Tryz.ntmps86
    go_wp2_with (go_at_call 29; refine (greatest4 _).mono ?_; rintro e w' ⟨rfl, rfl⟩)
    go_ret2
    exact ⟨ret_two (by rw [HE.out.1]; rfl) HE.out.2.symm, rfl⟩
set_option maxHeartbeats 1600000 in
set_option maxRecDepth 100000 in
theorem refSub4 (a b : Nat) (w : World) (ha : a < 4294967296) (hb : b < 4294967296) : Calls Tryz.prog 88 #[.int .u64 (a : Int), .int .u64 (b : Int), .int .i64 4] w fun e w' => e = .returned (.tuple #[.int .u64 ((subV a b : Nat) : Int), .bool (subO a b)]) ∧ w' = w := by
  by_cases h : b ≤ a
  · have HE := Lib.hid (show subV a b = a - b ∧ subO a b = true from ⟨if_pos h, decide_eq_true h⟩)
    have t1 : decide (a < b) = false := decide_eq_false (by omega)
    go_enter Tryz.func88, Tryz.ntmps88
    go_wp2_with fail
    go_ret2
    exact ⟨ret_two (by rw [HE.out.1]; omega) HE.out.2.symm, rfl⟩
  · have HE := Lib.hid (show subV a b = 0 ∧ subO a b = false from ⟨if_neg h, decide_eq_false h⟩)
    have t1 : decide (a < b) = true := decide_eq_true (by omega)
    go_enter Tryz.func88, Tryz.ntmps88
    go_wp2_with fail
    go_ret2
    exact ⟨ret_two (by rw [HE.out.1]; rfl) HE.out.2.symm, rfl⟩
set_option maxHeartbeats 1600000 in
set_option maxRecDepth 100000 in
theorem refMul4 (a b : Nat) (w : World) (ha : a < 4294967296) (hb : b < 4294967296) : Calls Tryz.prog 90 #[.int .u64 (a : Int), .int .u64 (b : Int), .int .i64 4] w fun e w' => e = .returned (.tuple #[.int .u64 ((mulV 4294967296 a b : Nat) : Int), .bool (mulO 4294967296 a b)]) ∧ w' = w := by
  by_cases h0 : a = 0
  · subst h0
    have HE := Lib.hid (show mulV 4294967296 0 b = 0 ∧ mulO 4294967296 0 b = true from ⟨by unfold mulV; simp, by unfold mulO; simp⟩)
    go_enter Tryz.func90, Tryz.ntmps90
    go_wp2_with fail
    go_ret2
    exact ⟨ret_two (by rw [HE.out.1]; first | rfl | (simp; done)) HE.out.2.symm, rfl⟩
  · have hpos : 0 < a := by omega
    have t0 : decide (0 < a) = true := decide_eq_true hpos
    obtain ⟨q, hq⟩ : ∃ q : Nat, 4294967295 / a = q := ⟨_, rfl⟩
    have hqi : (4294967295 : Int) / (a : Int) = (q : Int) := by rw [← hq]; exact (Int.natCast_ediv 4294967295 a).symm
    have hqt : (4294967295 : Int).tdiv (a : Int) = (q : Int) := by rw [Int.tdiv_eq_ediv_of_nonneg (by decide)]; exact hqi
    have hkey : q < b ↔ ¬ a * b < 4294967296 := by
      rw [← hq, Nat.div_lt_iff_lt_mul hpos, Nat.mul_comm]
      omega
    by_cases h : a * b < 4294967296
    · have hp : ((a : Int) * (b : Int)) = ((a * b : Nat) : Int) := (Int.natCast_mul a b).symm
      have hw : IntKind.u64.wrap ((a : Int) * (b : Int)) = ((a * b : Nat) : Int) := by rw [hp, wu64]; omega
      have HE := Lib.hid (show mulV 4294967296 a b = a * b ∧ mulO 4294967296 a b = true from ⟨if_pos h, decide_eq_true h⟩)
      have t1 : decide (q < b) = false := decide_eq_false (fun hh => hkey.1 hh h)
      have HP := Lib.hid hp
      have hqb : q ≤ 4294967295 := by rw [← hq]; exact Nat.div_le_self _ _
      clear hq hkey h hp
      go_enter Tryz.func90, Tryz.ntmps90
      go_wp2_with (go_at_call 29; refine (greatest4 _).mono ?_; rintro e w' ⟨rfl, rfl⟩)
      go_ret2
      exact ⟨ret_two (by rw [HE.out.1]; first | rfl | exact HP.out) HE.out.2.symm, rfl⟩
    · have HE := Lib.hid (show mulV 4294967296 a b = 0 ∧ mulO 4294967296 a b = false from ⟨if_neg h, decide_eq_false h⟩)
      have t1 : decide (q < b) = true := decide_eq_true (hkey.2 h)
      have hqb : q ≤ 4294967295 := by rw [← hq]; exact Nat.div_le_self _ _
      clear hq hkey h
      go_enter Tryz.func90, Tryz.ntmps90
      go_wp2_with (go_at_call 29; refine (greatest4 _).mono ?_; rintro e w' ⟨rfl, rfl⟩)
      go_ret2
      exact ⟨ret_two (by rw [HE.out.1]; rfl) HE.out.2.symm, rfl⟩
set_option maxHeartbeats 1600000 in
set_option maxRecDepth 100000 in
theorem refUp4 (a b : Nat) (w : World) (ha : a < 4294967296) (hb : b < 4294967296) : Calls Tryz.prog 92 #[.int .u64 (a : Int), .int .u64 (b : Int), .int .i64 4] w fun e w' => e = .returned (.tuple #[.int .u64 ((upV 4294967296 a b : Nat) : Int), .bool (upO 4294967296 a b)]) ∧ w' = w := by
  by_cases h0 : b = 0
  · subst h0
    have HE := Lib.hid (show upV 4294967296 a 0 = 0 ∧ upO 4294967296 a 0 = false from ⟨if_pos rfl, if_pos rfl⟩)
    go_enter Tryz.func92, Tryz.ntmps92
    go_wp2_with fail
    go_ret2
    exact ⟨ret_two (by rw [HE.out.1]; rfl) HE.out.2.symm, rfl⟩
  · have hpos : 0 < b := by omega
    have t0 : (b == 0) = false := beq_eq_false_iff_ne.2 h0
    have t0' : ((b : Int) == 0) = false := beq_eq_false_iff_ne.2 (by omega)
    have hbi : (b : Int) ≠ 0 := by omega
    obtain ⟨q, hq⟩ : ∃ q : Nat, a / b = q := ⟨_, rfl⟩
    obtain ⟨r, hr⟩ : ∃ r : Nat, a % b = r := ⟨_, rfl⟩
    have hqi : (a : Int) / (b : Int) = (q : Int) := by rw [← hq]; exact (Int.natCast_ediv a b).symm
    have hri : (a : Int) % (b : Int) = (r : Int) := by rw [← hr]; exact (Int.natCast_emod a b).symm
    have hqa : q ≤ a := by rw [← hq]; exact Nat.div_le_self _ _
    by_cases hz : r = 0
    · have HE := Lib.hid (show upV 4294967296 a b = mulV 4294967296 q b ∧ upO 4294967296 a b = mulO 4294967296 q b from by
        have e : upM a b = q * b := by unfold upM; rw [if_pos (by rw [hr]; exact hz), hq]
        unfold upV upO mulV mulO
        rw [if_neg h0, if_neg h0, e]; exact ⟨rfl, rfl⟩)
      subst hz
      clear hq hr h0
      go_enter Tryz.func92, Tryz.ntmps92
      go_wp2_with (go_at_call 90; refine (refMul4 q b _ (by omega) hb).mono ?_; rintro e w' ⟨rfl, rfl⟩)
      go_ret2
      exact ⟨ret_two (by rw [HE.out.1]) HE.out.2.symm, rfl⟩
    · have hrp : 0 < r := by omega
      have t1 : decide (0 < r) = true := decide_eq_true hrp
      have hq1 : q + 1 ≤ a := by
        have h2 := Nat.div_add_mod a b
        rw [hq, hr] at h2
        have h3 : q ≤ b * q := Nat.le_mul_of_pos_left q hpos
        omega
      have HE := Lib.hid (show upV 4294967296 a b = mulV 4294967296 (q + 1) b ∧ upO 4294967296 a b = mulO 4294967296 (q + 1) b from by
        have e : upM a b = (q + 1) * b := by unfold upM; rw [if_neg (by rw [hr]; exact hz), hq]
        unfold upV upO mulV mulO
        rw [if_neg h0, if_neg h0, e]; exact ⟨rfl, rfl⟩)
      have hm := refMul4 (q + 1) b w (by omega) hb
      rw [Int.natCast_add, Int.natCast_one] at hm
      have HMM := Lib.hid hm
      clear hq hr h0 hz hm
      go_enter Tryz.func92, Tryz.ntmps92
      go_wp2_with (go_at_call 90; refine HMM.out.mono ?_; rintro e w' ⟨rfl, rfl⟩)
      go_ret2
      exact ⟨ret_two (by rw [HE.out.1]) HE.out.2.symm, rfl⟩
set_option maxHeartbeats 1600000 in
set_option maxRecDepth 100000 in
theorem refTo4 (a : Nat) (w : World) (ha : a < 18446744073709551616) : Calls Tryz.prog 53 #[.int .u64 (a : Int), .int .i64 4] w fun e w' => e = .returned (.tuple #[.int .u64 ((toV 4294967296 a : Nat) : Int), .bool (toO 4294967296 a)]) ∧ w' = w := by
  by_cases h : a < 4294967296
  · have HE := Lib.hid (show toV 4294967296 a = a ∧ toO 4294967296 a = true from ⟨if_pos h, decide_eq_true h⟩)
    have t1 : decide ((4294967295 : Int) < (a : Int)) = false := decide_eq_false (by omega)
    have t2 : decide (4294967295 < a) = false := decide_eq_false (by omega)
    go_enter Tryz.func53, Tryz.ntmps53
    go_wp2_with (go_at_call 29; refine (greatest4 _).mono ?_; rintro e w' ⟨rfl, rfl⟩)
    go_ret2
    exact ⟨ret_two (by rw [HE.out.1]) HE.out.2.symm, rfl⟩
  · have HE := Lib.hid (show toV 4294967296 a = 0 ∧ toO 4294967296 a = false from ⟨if_neg h, decide_eq_false h⟩)
    have t1 : decide ((4294967295 : Int) < (a : Int)) = true := decide_eq_true (by omega)
    have t2 : decide (4294967295 < a) = true := decide_eq_true (by omega)
    go_enter Tryz.func53, Tryz.ntmps53
    go_wp2_with (go_at_call 29; refine (greatest4 _).mono ?_; rintro e w' ⟨rfl, rfl⟩)
    go_ret2
    exact ⟨ret_two (by rw [HE.out.1]; rfl) HE.out.2.symm, rfl⟩
set_option maxHeartbeats 1600000 in
set_option maxRecDepth 100000 in
theorem greatest8 (w : World) : Calls Tryz.prog 29 #[.int .i64 8] w fun e w' => e = .returned (.int .u64 18446744073709551615) ∧ w' = w := by
  go_enter Tryz.func29, Tryz.ntmps29
  go_wp2
  go_rounds 10
  go_ret
  exact ⟨rfl, rfl⟩
set_option maxHeartbeats 1600000 in
set_option maxRecDepth 100000 in
theorem refAdd8 (a b : Nat) (w : World) (ha : a < 18446744073709551616) (hb : b < 18446744073709551616) : Calls Tryz.prog 86 #[.int .u64 (a : Int), .int .u64 (b : Int), .int .i64 8] w fun e w' => e = .returned (.tuple #[.int .u64 ((addV 18446744073709551616 a b : Nat) : Int), .bool (addO 18446744073709551616 a b)]) ∧ w' = w := by
  by_cases h : a + b < 18446744073709551616
  · have HE := Lib.hid (show addV 18446744073709551616 a b = a + b ∧ addO 18446744073709551616 a b = true from ⟨if_pos h, decide_eq_true h⟩)
    have t1 : decide ((18446744073709551615 : Int) - (b : Int) < (a : Int)) = false := decide_eq_false (by omega)
    go_enter Tryz.func86, Tryz.ntmps86
    go_wp2_with (go_at_call 29; refine (greatest8 _).mono ?_; rintro e w' ⟨rfl, rfl⟩)
    go_ret2
    exact ⟨ret_two (by rw [HE.out.1]; omega) HE.out.2.symm, rfl⟩
  · have HE := Lib.hid (show addV 18446744073709551616 a b = 0 ∧ addO 18446744073709551616 a b = false from ⟨if_neg h, decide_eq_false h⟩)
    have t1 : decide ((18446744073709551615 : Int) - (b : Int) < (a : Int)) = true := decide_eq_true (by omega)
    go_enter Tryz.func86, Tryz.ntmps86
    go_wp2_with (go_at_call 29; refine (greatest8 _).mono ?_; rintro e w' ⟨rfl, rfl⟩)
    go_ret2
    exact ⟨ret_two (by rw [HE.out.1]; rfl) HE.out.2.symm, rfl⟩
set_option maxHeartbeats 1600000 in
set_option maxRecDepth 100000 in
theorem refSub8 (a b : Nat) (w : World) (ha : a < 18446744073709551616) (hb : b < 18446744073709551616) : Calls Tryz.prog 88 #[.int .u64 (a : Int), .int .u64 (b : Int), .int .i64 8] w fun e w' => e = .returned (.tuple #[.int .u64 ((subV a b : Nat) : Int), .bool (subO a b)]) ∧ w' = w := by
  by_cases h : b ≤ a
  · have HE := Lib.hid (show subV a b = a - b ∧ subO a b = true from ⟨if_pos h, decide_eq_true h⟩)
    have t1 : decide (a < b) = false := decide_eq_false (by omega)
    go_enter Tryz.func88, Tryz.ntmps88
    go_wp2_with fail
    go_ret2
    exact ⟨ret_two (by rw [HE.out.1]; omega) HE.out.2.symm, rfl⟩
  · have HE := Lib.hid (show subV a b = 0 ∧ subO a b = false from ⟨if_neg h, decide_eq_false h⟩)
    have t1 : decide (a < b) = true := decide_eq_true (by omega)
    go_enter Tryz.func88, Tryz.ntmps88
    go_wp2_with fail
    go_ret2
    exact ⟨ret_two (by rw [HE.out.1]; rfl) HE.out.2.symm, rfl⟩
set_option maxHeartbeats 1600000 in
set_option maxRecDepth 100000 in
theorem refMul8 (a b : Nat) (w : World) (ha : a < 18446744073709551616) (hb : b < 18446744073709551616) : Calls Tryz.prog 90 #[.int .u64 (a : Int), .int .u64 (b : Int), .int .i64 8] w fun e w' => e = .returned (.tuple #[.int .u64 ((mulV 18446744073709551616 a b : Nat) : Int), .bool (mulO 18446744073709551616 a b)]) ∧ w' = w := by
  by_cases h0 : a = 0
  · subst h0
    have HE := Lib.hid (show mulV 18446744073709551616 0 b = 0 ∧ mulO 18446744073709551616 0 b = true from ⟨by unfold mulV; simp, by unfold mulO; simp⟩)
    go_enter Tryz.func90, Tryz.ntmps90
    go_wp2_with fail
    go_ret2
    exact ⟨ret_two (by rw [HE.out.1]; first | rfl | (simp; done)) HE.out.2.symm, rfl⟩
  · have hpos : 0 < a := by omega
    have t0 : decide (0 < a) = true := decide_eq_true hpos
    obtain ⟨q, hq⟩ : ∃ q : Nat, 18446744073709551615 / a = q := ⟨_, rfl⟩
    have hqi : (18446744073709551615 : Int) / (a : Int) = (q : Int) := by rw [← hq]; exact (Int.natCast_ediv 18446744073709551615 a).symm
    have hqt : (18446744073709551615 : Int).tdiv (a : Int) = (q : Int) := by rw [Int.tdiv_eq_ediv_of_nonneg (by decide)]; exact hqi
    have hkey : q < b ↔ ¬ a * b < 18446744073709551616 := by
      rw [← hq, Nat.div_lt_iff_lt_mul hpos, Nat.mul_comm]
      omega
    by_cases h : a * b < 18446744073709551616
    · have hp : ((a : Int) * (b : Int)) = ((a * b : Nat) : Int) := (Int.natCast_mul a b).symm
      have hw : IntKind.u64.wrap ((a : Int) * (b : Int)) = ((a * b : Nat) : Int) := by rw [hp, wu64]; omega
      have HE := Lib.hid (show mulV 18446744073709551616 a b = a * b ∧ mulO 18446744073709551616 a b = true from ⟨if_pos h, decide_eq_true h⟩)
      have t1 : decide (q < b) = false := decide_eq_false (fun hh => hkey.1 hh h)
      have HP := Lib.hid hp
      have hqb : q ≤ 18446744073709551615 := by rw [← hq]; exact Nat.div_le_self _ _
      clear hq hkey h hp
      go_enter Tryz.func90, Tryz.ntmps90
      go_wp2_with (go_at_call 29; refine (greatest8 _).mono ?_; rintro e w' ⟨rfl, rfl⟩)
      go_ret2
      exact ⟨ret_two (by rw [HE.out.1]; first | rfl | exact HP.out) HE.out.2.symm, rfl⟩
    · have HE := Lib.hid (show mulV 18446744073709551616 a b = 0 ∧ mulO 18446744073709551616 a b = false from ⟨if_neg h, decide_eq_false h⟩)
      have t1 : decide (q < b) = true := decide_eq_true (hkey.2 h)
      have hqb : q ≤ 18446744073709551615 := by rw [← hq]; exact Nat.div_le_self _ _
      clear hq hkey h
      go_enter Tryz.func90, Tryz.ntmps90
      go_wp2_with (go_at_call 29; refine (greatest8 _).mono ?_; rintro e w' ⟨rfl, rfl⟩)
      go_ret2
      exact ⟨ret_two (by rw [HE.out.1]; rfl) HE.out.2.symm, rfl⟩
set_option maxHeartbeats 1600000 in
set_option maxRecDepth 100000 in
theorem refUp8 (a b : Nat) (w : World) (ha : a < 18446744073709551616) (hb : b < 18446744073709551616) : Calls Tryz.prog 92 #[.int .u64 (a : Int), .int .u64 (b : Int), .int .i64 8] w fun e w' => e = .returned (.tuple #[.int .u64 ((upV 18446744073709551616 a b : Nat) : Int), .bool (upO 18446744073709551616 a b)]) ∧ w' = w := by
  by_cases h0 : b = 0
  · subst h0
    have HE := Lib.hid (show upV 18446744073709551616 a 0 = 0 ∧ upO 18446744073709551616 a 0 = false from ⟨if_pos rfl, if_pos rfl⟩)
    go_enter Tryz.func92, Tryz.ntmps92
    go_wp2_with fail
    go_ret2
    exact ⟨ret_two (by rw [HE.out.1]; rfl) HE.out.2.symm, rfl⟩
  · have hpos : 0 < b := by omega
    have t0 : (b == 0) = false := beq_eq_false_iff_ne.2 h0
    have t0' : ((b : Int) == 0) = false := beq_eq_false_iff_ne.2 (by omega)
    have hbi : (b : Int) ≠ 0 := by omega
    obtain ⟨q, hq⟩ : ∃ q : Nat, a / b = q := ⟨_, rfl⟩
    obtain ⟨r, hr⟩ : ∃ r : Nat, a % b = r := ⟨_, rfl⟩
    have hqi : (a : Int) / (b : Int) = (q : Int) := by rw [← hq]; exact (Int.natCast_ediv a b).symm
    have hri : (a : Int) % (b : Int) = (r : Int) := by rw [← hr]; exact (Int.natCast_emod a b).symm
    have hqa : q ≤ a := by rw [← hq]; exact Nat.div_le_self _ _
    by_cases hz : r = 0
    · have HE := Lib.hid (show upV 18446744073709551616 a b = mulV 18446744073709551616 q b ∧ upO 18446744073709551616 a b = mulO 18446744073709551616 q b from by
        have e : upM a b = q * b := by unfold upM; rw [if_pos (by rw [hr]; exact hz), hq]
        unfold upV upO mulV mulO
        rw [if_neg h0, if_neg h0, e]; exact ⟨rfl, rfl⟩)
      subst hz
      clear hq hr h0
      go_enter Tryz.func92, Tryz.ntmps92
      go_wp2_with (go_at_call 90; refine (refMul8 q b _ (by omega) hb).mono ?_; rintro e w' ⟨rfl, rfl⟩)
      go_ret2
      exact ⟨ret_two (by rw [HE.out.1]) HE.out.2.symm, rfl⟩
    · have hrp : 0 < r := by omega
      have t1 : decide (0 < r) = true := decide_eq_true hrp
      have hq1 : q + 1 ≤ a := by
        have h2 := Nat.div_add_mod a b
        rw [hq, hr] at h2
        have h3 : q ≤ b * q := Nat.le_mul_of_pos_left q hpos
        omega
      have HE := Lib.hid (show upV 18446744073709551616 a b = mulV 18446744073709551616 (q + 1) b ∧ upO 18446744073709551616 a b = mulO 18446744073709551616 (q + 1) b from by
        have e : upM a b = (q + 1) * b := by unfold upM; rw [if_neg (by rw [hr]; exact hz), hq]
        unfold upV upO mulV mulO
        rw [if_neg h0, if_neg h0, e]; exact ⟨rfl, rfl⟩)
      have hm := refMul8 (q + 1) b w (by omega) hb
      rw [Int.natCast_add, Int.natCast_one] at hm
      have HMM := Lib.hid hm
      clear hq hr h0 hz hm
      go_enter Tryz.func92, Tryz.ntmps92
      go_wp2_with (go_at_call 90; refine HMM.out.mono ?_; rintro e w' ⟨rfl, rfl⟩)
      go_ret2
      exact ⟨ret_two (by rw [HE.out.1]) HE.out.2.symm, rfl⟩
set_option maxHeartbeats 1600000 in
set_option maxRecDepth 100000 in
theorem refTo8 (a : Nat) (w : World) (ha : a < 18446744073709551616) : Calls Tryz.prog 53 #[.int .u64 (a : Int), .int .i64 8] w fun e w' => e = .returned (.tuple #[.int .u64 ((toV 18446744073709551616 a : Nat) : Int), .bool (toO 18446744073709551616 a)]) ∧ w' = w := by
  by_cases h : a < 18446744073709551616
  · have HE := Lib.hid (show toV 18446744073709551616 a = a ∧ toO 18446744073709551616 a = true from ⟨if_pos h, decide_eq_true h⟩)
    have t1 : decide ((18446744073709551615 : Int) < (a : Int)) = false := decide_eq_false (by omega)
    have t2 : decide (18446744073709551615 < a) = false := decide_eq_false (by omega)
    go_enter Tryz.func53, Tryz.ntmps53
    go_wp2_with (go_at_call 29; refine (greatest8 _).mono ?_; rintro e w' ⟨rfl, rfl⟩)
    go_ret2
    exact ⟨ret_two (by rw [HE.out.1]) HE.out.2.symm, rfl⟩
  · have HE := Lib.hid (show toV 18446744073709551616 a = 0 ∧ toO 18446744073709551616 a = false from ⟨if_neg h, decide_eq_false h⟩)
    have t1 : decide ((18446744073709551615 : Int) < (a : Int)) = true := decide_eq_true (by omega)
    have t2 : decide (18446744073709551615 < a) = true := decide_eq_true (by omega)
    go_enter Tryz.func53, Tryz.ntmps53
    go_wp2_with (go_at_call 29; refine (greatest8 _).mono ?_; rintro e w' ⟨rfl, rfl⟩)
    go_ret2
    exact ⟨ret_two (by rw [HE.out.1]; rfl) HE.out.2.symm, rfl⟩
end Go.Proofs.YthdjddpomaendaaGreat.B
