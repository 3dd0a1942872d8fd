/- The walk of WordForth. -/
import Derived.Test.YthdjddpomaendaaF1
namespace Go.Proofs.Ythdjddpomaendaa.B
open Go.RowKit
set_option linter.unusedVariables false
set_option linter.unusedSimpArgs false

theorem beyond1 (a : Nat) (ha : a ≤ 140737488351232) : beyondF 2147483647 [(a : Int)] = decide (2147483647 < a) := by
  simp only [beyondF]
  by_cases h : a ≤ 2147483647
  · rw [if_neg (by omega), decide_eq_false (by omega)]
  · rw [decide_eq_true (by omega), if_pos (by omega)]
theorem ivs1 (w : World) (x : Int) : Rd (w.alloc (.cells #[.int .i64 x] 3)) (some ⟨w.heap.size, 0, none⟩) 1 (ivs [x]) :=
  (Blk.new w (ivs [x]) 3).rd _ rfl (by omega) (fun j u hu => by rw [Nat.zero_add]; exact hu)
theorem rd_three (w : World) (l : List UInt8) (n : Nat) (hl : l.length = n) (hm : n ≤ 9223372036854775807 := by omega) : Rd (w.alloc (.cells (bvs l).toArray 5)) (some ⟨w.heap.size, 0, none⟩) n (bvs l) :=
  (Blk.new w (bvs l) 5).rd _ (by rw [bvs_length, hl]) hm (fun j u hu => by rw [Nat.zero_add]; exact hu)
def opX : OpV := ⟨6, 0, 0, 0, none, 0, [], ⟨#[120]⟩⟩
theorem opX_at (w : World) : OpsAt (w.alloc (.cells opX.cells 54)) (some ⟨w.heap.size, 0, none⟩) [opX] := by
  intro i o hi
  rcases i with _ | i
  · simp at hi
    subst hi
    have hk : Blk (w.alloc (.cells opX.cells 54)) w.heap.size opX.cells.toList 54 := Blk.new w opX.cells.toList 54
    refine ⟨_, rfl, fun j v hj => ?_, ⟨by decide, Rd.nil _ _, by decide, by decide, by decide⟩, fun j hj => ?_⟩
    · rw [Nat.zero_mul, Nat.zero_add, add_lit, Nat.zero_add]
      exact hk.cell j v (by rw [← hj]; exact Array.getElem?_toList)
    · rw [Nat.zero_mul, Nat.zero_add, add_lit]
      exact hk.lt
  · simp at hi
theorem opX_run : ∀ j, (runS [1, 0, 98] ([opX].take j)).2 = 0 := by
  intro j
  rcases j with _ | j
  · rfl
  · rw [List.take_of_length_le (by simp)]
    decide +kernel
theorem opX_end : (runS [1, 0, 98] [opX]).1 = ([1, 0, 98] : List UInt8).length := by decide +kernel

set_option maxHeartbeats 3200000 in
set_option maxRecDepth 100000 in
theorem wordForth_ (A : Option Addr) (n c : Nat) (bs : List UInt8) (As : Option Addr) (m cs : Nat) (L : List OpV) (w : World) (hr : Rd w A n (bvs bs)) (hn : n ≤ 140737488351232) (hL : OpsAt w As L) (hm : L.length = m) (hcs : m ≤ cs) (hmm : m ≤ 9223372036854775807) :
    Calls Try.prog 9 #[.slice A n c, .slice As m cs] w fun r w' => r = .returned (.bool true) ∧ Below w.heap.size w w' := by
  have hB0 : Below w.heap.size w (w.alloc (.cells #[.int .i64 (n : Int)] 3)) := below_alloc (Below.refl _ w) _
  have hbe := fun W (h : Rd W (some ⟨w.heap.size, 0, none⟩) 1 (ivs [(n : Int)])) => beyond_ (some ⟨w.heap.size, 0, none⟩) 1 1 [(n : Int)] W h (by intro x hx; simp at hx; omega)
  rw [beyond1 n hn] at hbe
  by_cases hbig : 2147483647 < n
  · rw [decide_eq_true hbig] at hbe
    go_enter Try.func9, Try.ntmps9
    go_wp2_with fail
    refine (hbe _ (ivs1 w _)).mono ?_
    rintro e w1 ⟨rfl, ⟨nd, rfl⟩⟩
    go_wp2_with fail
    go_ret
    exact ⟨rfl, below_drewN hB0 nd⟩
  · rw [decide_eq_false hbig] at hbe
    have HM := Lib.hid hm
    clear hm
    go_enter Try.func9, Try.ntmps9
    go_wp2_with fail
    refine (hbe _ (ivs1 w _)).mono ?_
    rintro e w1 ⟨rfl, hd⟩
    have hb1 : Below w.heap.size w w1 := hB0.trans (hd.below _)
    clear hbe hB0 hd
    go_wp2_with fail
    have hr2 : Rd (w1.alloc (.cells #[.int .u8 1, .int .u8 0, .int .u8 98] 5)) (some ⟨w1.heap.size, 0, none⟩) 3 (bvs [1, 0, 98]) := rd_three w1 [1, 0, 98] 3 rfl
    obtain ⟨w2, hw2⟩ : ∃ w2, w2 = w1.alloc (.cells #[.int .u8 1, .int .u8 0, .int .u8 98] 5) := ⟨_, rfl⟩
    have hb2 : Below w.heap.size w w2 := hw2 ▸ below_alloc hb1 _
    have hz2 : w1.heap.size + 1 = w2.heap.size := by rw [hw2]; exact (Array.size_push _).symm
    rw [← hw2] at hr2 ⊢
    have hop : OpsAt (w2.alloc (.cells #[.int .i64 6, .int .i64 0, .int .u64 0, .int .i64 0, .slice none 0 0, .string ⟨#[120]⟩] 54)) (some ⟨w1.heap.size + 1, 0, none⟩) [opX] := by rw [hz2]; exact opX_at w2
    have hr3 := hr2.below (below_alloc (Below.refl w2.heap.size w2) (.cells #[.int .i64 6, .int .i64 0, .int .u64 0, .int .i64 0, .slice none 0 0, .string ⟨#[120]⟩] 54)) (Nat.le_refl _)
    have hb3 : Below w.heap.size w (w2.alloc (.cells #[.int .i64 6, .int .i64 0, .int .u64 0, .int .i64 0, .slice none 0 0, .string ⟨#[120]⟩] 54)) := below_alloc hb2 _
    clear hr2 hb2 hz2 hw2
    refine (forth_ (some ⟨w1.heap.size, 0, none⟩) 3 3 [1, 0, 98] (some ⟨w1.heap.size + 1, 0, none⟩) 1 1 [opX] true _ hr3 (by omega) hop rfl (Nat.le_refl _) (by omega) (fun _ => ⟨opX_run, opX_end⟩)).mono ?_
    rintro r w4 ⟨rfl, hb⟩
    have hb4 := hb3.trans (hb.mono hb3.size)
    clear hb hb3 hr3 hop hb1
    go_wp2_with fail
    refine (forth_ A n c bs As m cs L false _ (hr.below hb4 (Nat.le_refl _)) (by omega) (hL.below hb4) HM.out hcs hmm (fun h => by cases h)).mono ?_
    rintro r w5 ⟨rfl, hb⟩
    have hb5 := hb4.trans (hb.mono hb4.size)
    clear hb hb4
    go_wp2_with fail
    go_ret
    exact ⟨rfl, hb5⟩
end Go.Proofs.Ythdjddpomaendaa.B
