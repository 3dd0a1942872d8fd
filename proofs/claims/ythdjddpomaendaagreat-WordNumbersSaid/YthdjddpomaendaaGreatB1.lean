/- The book's functions over bytes: Roomy, Same, Intact; Beyond, Within. -/
import Derived.Test.YthdjddpomaendaaGreatB0
namespace Go.Proofs.YthdjddpomaendaaGreat.B
open Go.RowKit
set_option linter.unusedVariables false
set_option linter.unusedSimpArgs false

theorem set_fill (xs : List UInt8) (j : Nat) (m : UInt8) (h : j < 80) : (bvs (xs ++ List.replicate j m ++ List.replicate (80 - j) 0)).set (xs.length + j) (bv m) = bvs (xs ++ List.replicate (j + 1) m ++ List.replicate (80 - (j + 1)) 0) := by
  rw [bvs_set]
  congr 1
  obtain ⟨k, hk⟩ : ∃ k, 80 - j = k + 1 := ⟨80 - j - 1, by omega⟩
  rw [hk, show 80 - (j + 1) = k by omega, List.set_append_right _ _ (by simp)]
  simp only [List.length_append, List.length_replicate, Nat.sub_self, List.replicate_succ (n := k), List.set_cons_zero]
  rw [List.replicate_succ' (n := j)]
  simp

set_option maxHeartbeats 800000 in
set_option maxRecDepth 100000 in
theorem roomy (A : Option Addr) (n c : Nat) (xs : List UInt8) (m : UInt8) (w : World) (hr : Rd w A n (bvs xs)) (hlen : n ≤ 140737488351232) :
    Calls Tryz.prog 21 #[.slice A n c, bv m] w fun e w' => e = .returned (.slice (some ⟨w.heap.size, 0, none⟩) (n + 80) (n + 80)) ∧ Blk w' w.heap.size (bvs (xs ++ List.replicate 80 m)) 5 ∧ Below w.heap.size w w' := by
  obtain rfl := hr.len
  have hmk := make_u8 (xs.length + 80) (by omega) ((xs.length : Int) + 80) (by omega)
  go_enter Tryz.func21, Tryz.ntmps21
  go_wp2_with ((with_reducible refine at_builtin_ (b := .copy) rfl ?_); go_must (refine copy_u8 rfl _ _ rfl w.heap.size (xs.length + 80) (xs.length + 80) A xs.length c xs (List.replicate (xs.length + 80) 0) rfl rfl (Blk.new w _ 5) (by omega) (by simp) (hr.alloc _) w.heap.size w (below_alloc (Below.refl _ w) _) (Nat.le_refl _) ?_; intro w1 hw1 hb1))
  go_loopw [6] (fun i wr => ∃ j : Nat, j ≤ 80 ∧ i = .int .i64 ((xs.length + j : Nat) : Int) ∧ Blk wr w.heap.size (bvs (xs ++ List.replicate j m ++ List.replicate (80 - j) 0)) 5 ∧ Below w.heap.size w wr) (fun i _ => (xs.length + 80 - (intOf i).toNat))
  case atStart => exact ⟨0, by omega, by simp, by simpa using hw1, hb1⟩
  case round =>
    obtain ⟨j, hj, rfl, hblk, hb⟩ := hrel
    clear hw1 hb1 hmk
    by_cases hlt : j < 80
    · have hc := hblk.cell (xs.length + j) (bv 0) (by simp [bvs, List.getElem?_append, show ¬ xs.length + j < xs.length + j by omega, show ¬ xs.length + j < xs.length by omega, show 0 < 80 - j by omega])
      have hf := hblk.free (xs.length + j)
      have hblk2 := hblk.set (xs.length + j) (bv m)
      go_wp2
      go_roundw
      case rel => exact ⟨j + 1, by omega, by go_num, by rw [← set_fill xs j m hlt]; exact hblk2, hb.setCell (Nat.le_refl _) _⟩
      case measure => simp [intOf]; omega
    · go_wp2
      go_ret
      obtain rfl : j = 80 := by omega
      exact ⟨rfl, by simpa using hblk, hb⟩

set_option maxHeartbeats 800000 in
set_option maxRecDepth 100000 in
theorem same (A B : Option Addr) (n c m d : Nat) (xs ys : List UInt8) (w : World) (hx : Rd w A n (bvs xs)) (hy : Rd w B m (bvs ys)) :
    Calls Tryz.prog 24 #[.slice A n c, .slice B m d] w fun e w' => e = .returned (.bool (decide (xs = ys))) ∧ Drawn w w' := by
  obtain rfl := hx.len
  obtain rfl := hy.len
  have hmx : xs.length ≤ 9223372036854775807 := hx.2.1
  by_cases hl : xs.length = ys.length
  · have hlb : ((xs.length : Int) != (ys.length : Int)) = false := by simp [hl]
    have HL := Lib.hid hl; clear hl
    go_enter Tryz.func24, Tryz.ntmps24
    go_wp2
    go_loopw [5] (fun i wr => ∃ k n : Nat, k ≤ xs.length ∧ i = .int .i64 k ∧ wr = w.drewN n ∧ xs.take k = ys.take k) (fun i _ => xs.length - (intOf i).toNat)
    case atStart => exact ⟨0, 0, by omega, rfl, rfl, by simp⟩
    case round =>
      obtain ⟨k, n, hk, rfl, rfl, ht⟩ := hrel
      have HT := Lib.hid ht; clear ht
      by_cases hlt : k < xs.length
      · obtain ⟨ad, rfl, ha⟩ := hx.byte k hlt
        obtain ⟨bd, rfl, hb⟩ := hy.byte k (by have := HL.out; omega)
        have hky : k < ys.length := by have := HL.out; omega
        by_cases he : xs[k] = ys[k]
        · have e1 : ((xs[k].toNat : Int) != (ys[k].toNat : Int)) = false := by rw [he]; exact u8_bne_self _
          have HE := Lib.hid he; clear he
          go_wp2
          go_quiet (fail)
          go_wp2
          go_roundw
          case rel => exact ⟨k + 1, n + nq, by omega, by go_num, rfl, take_more hlt hky HT.out HE.out⟩
          case measure => simp [intOf]; omega
        · have e1 : ((xs[k].toNat : Int) != (ys[k].toNat : Int)) = true := u8_bne he
          have HE := Lib.hid he; clear he
          go_wp2
          go_quiet (fail)
          go_wp2
          go_ret
          exact ⟨ret_bool (decide_eq_false (take_ne hlt hky HE.out)).symm, by repeat (first | exact Drawn.refl _ | apply Drawn.step)⟩
      · obtain rfl : k = xs.length := by omega
        have HX := Lib.hid (show xs = ys by have h1 := HT.out; have h2 := HL.out; rw [List.take_of_length_le (Nat.le_refl _), List.take_of_length_le (by omega)] at h1; exact h1)
        go_wp2
        go_ret
        exact ⟨ret_bool (decide_eq_true HX.out).symm, by repeat (first | exact Drawn.refl _ | apply Drawn.step)⟩
  · have hlb : ((xs.length : Int) != (ys.length : Int)) = true := by rw [bne_iff_ne]; omega
    have HX := Lib.hid (show ¬ xs = ys by rintro rfl; exact hl rfl)
    clear hl
    go_enter Tryz.func24, Tryz.ntmps24
    go_wp2
    go_ret
    exact ⟨ret_bool (decide_eq_false HX.out).symm, Drawn.refl _⟩

theorem fill_get {fs ys : List UInt8} {m : UInt8} {j : Nat} (e : fs = ys ++ List.replicate 80 m) (h1 : ys.length ≤ j) (h2 : j < fs.length) : fs[j] = m := by
  subst e
  rw [List.getElem_append_right h1]
  exact List.getElem_replicate _
theorem fill_of {fs ys : List UInt8} {m : UInt8} {k : Nat} (h1 : fs.take k = ys) (h2 : fs.length = k + 80) (h3 : ys.length = k) (h4 : ∀ t (ht : t < fs.length), k ≤ t → t < k + 80 → fs[t] = m) : fs = ys ++ List.replicate 80 m := by
  rw [← List.take_append_drop k fs, h1]
  congr 1
  rw [List.eq_replicate_iff]
  refine ⟨by simp; omega, fun b hb => ?_⟩
  obtain ⟨i, hi, rfl⟩ := List.getElem_of_mem hb
  simp at hi ⊢
  exact h4 _ (by omega) (by omega) (by omega)

set_option maxHeartbeats 800000 in
set_option maxRecDepth 100000 in
theorem intact (A B : Option Addr) (n c k d : Nat) (fs ys : List UInt8) (m : UInt8) (w : World) (hx : Rd w A n (bvs fs)) (hc : n ≤ c) (hy : Rd w B k (bvs ys)) (hylen : k ≤ 140737488351232) :
    Calls Tryz.prog 25 #[.slice A n c, .slice B k d, bv m] w fun e w' => e = .returned (.bool (decide (fs = ys ++ List.replicate 80 m))) ∧ Drawn w w' := by
  have hfl := hx.len
  have hyl := hy.len
  have hmx : n ≤ 9223372036854775807 := hx.2.1
  by_cases hl : n = k + 80
  · subst hl
    have hlb : ((((k + 80 : Nat) : Int)) != (k : Int) + 80) = false := by simp
    have hlb' : ((k : Int) + 80 != (k : Int) + 80) = false := by simp
    have hle : k ≤ c := by omega
    have hsame := fun W (h1 : Rd W A k (bvs (fs.take k))) (h2 : Rd W B k (bvs ys)) => same A B k c k d (fs.take k) ys W h1 h2
    have HFL := Lib.hid hfl; clear hfl
    have HYL := Lib.hid hyl; clear hyl
    by_cases hp : fs.take k = ys
    · have hdp : decide (fs.take k = ys) = true := decide_eq_true hp
      have HP := Lib.hid hp; clear hp
      go_enter Tryz.func25, Tryz.ntmps25
      go_wp2_with (go_at_call 24; refine (hsame _ (hx.takeb k (by omega)) hy).mono ?_; rintro e w' ⟨rfl, ⟨nd, rfl⟩⟩; rw [hdp])
      go_loopw [7] (fun i wr => ∃ j q : Nat, k ≤ j ∧ j ≤ k + 80 ∧ i = .int .i64 j ∧ wr = w.drewN q ∧ ∀ t (ht : t < fs.length), k ≤ t → t < j → fs[t] = m) (fun i _ => k + 80 - (intOf i).toNat)
      case atStart => exact ⟨k, nd, by omega, by omega, rfl, rfl, fun t _ h1 h2 => by omega⟩
      case round =>
        obtain ⟨j, q, hj, hj2, rfl, rfl, ht⟩ := hrel
        have HT := Lib.hid ht; clear ht
        by_cases hlt : j < k + 80
        · obtain ⟨ad, rfl, ha⟩ := hx.byte j (by have := HFL.out; omega)
          have hjf : j < fs.length := by have := HFL.out; omega
          by_cases he : fs[j] = m
          · have e1 : ((fs[j].toNat : Int) != (m.toNat : Int)) = false := by rw [he]; exact u8_bne_self _
            have HE := Lib.hid he; clear he
            go_wp2
            go_roundw
            case rel =>
              refine ⟨j + 1, q, by omega, by omega, by go_num, rfl, fun t ht h1 h2 => ?_⟩
              by_cases h3 : t = j
              · subst h3; exact HE.out
              · exact HT.out t ht h1 (by omega)
            case measure => simp [intOf]; omega
          · have e1 : ((fs[j].toNat : Int) != (m.toNat : Int)) = true := u8_bne he
            have HE := Lib.hid he; clear he
            go_wp2
            go_ret
            exact ⟨ret_bool (decide_eq_false (fun e => HE.out (fill_get e (by rw [HYL.out]; exact hj) hjf))).symm, by repeat (first | exact Drawn.refl _ | apply Drawn.step)⟩
        · obtain rfl : j = k + 80 := by omega
          have HX := Lib.hid (fill_of HP.out HFL.out HYL.out HT.out)
          go_wp2
          go_ret
          exact ⟨ret_bool (decide_eq_true HX.out).symm, by repeat (first | exact Drawn.refl _ | apply Drawn.step)⟩
    · have hdp : decide (fs.take k = ys) = false := decide_eq_false hp
      have HX := Lib.hid (show ¬ fs = ys ++ List.replicate 80 m by rintro rfl; exact hp (by rw [List.take_append_of_le_length (by rw [HYL.out]; exact Nat.le_refl _), List.take_of_length_le (by rw [HYL.out]; exact Nat.le_refl _)]))
      clear hp
      go_enter Tryz.func25, Tryz.ntmps25
      go_wp2_with (go_at_call 24; refine (hsame _ (hx.takeb k (by omega)) hy).mono ?_; rintro e w' ⟨rfl, ⟨nd, rfl⟩⟩; rw [hdp])
      go_ret
      exact ⟨ret_bool (decide_eq_false HX.out).symm, by repeat (first | exact Drawn.refl _ | apply Drawn.step)⟩
  · have hlb : ((n : Int) != (k : Int) + 80) = true := by rw [bne_iff_ne]; omega
    have HX := Lib.hid (show ¬ fs = ys ++ List.replicate 80 m by rintro rfl; apply hl; simp at hfl; omega)
    clear hl hfl hyl
    go_enter Tryz.func25, Tryz.ntmps25
    go_wp2_with fail
    go_ret
    exact ⟨ret_bool (decide_eq_false HX.out).symm, by repeat (first | exact Drawn.refl _ | apply Drawn.step)⟩

/-- Beyond, as it goes: what is left, the numbers. -/
def beyondF : Int → List Int → Bool
  | _, [] => false
  | l, n :: r => if l < n then true else beyondF (l - n) r
def ivs (l : List Int) : List Value := l.map (Value.int .i64)
theorem beyondF_cons_lt (l n : Int) (r : List Int) (h : l < n) : beyondF l (n :: r) = true := by simp [beyondF, h]
theorem beyondF_cons_ge (l n : Int) (r : List Int) (h : ¬ l < n) : beyondF l (n :: r) = beyondF (l - n) r := by simp [beyondF, h]

set_option maxHeartbeats 800000 in
set_option maxRecDepth 100000 in
theorem beyond_ (A : Option Addr) (n c : Nat) (ns : List Int) (w : World) (hx : Rd w A n (ivs ns)) (hn : ∀ x ∈ ns, 0 ≤ x ∧ x ≤ 9223372036854775807) :
    Calls Tryz.prog 4 #[.slice A n c] w fun e w' => e = .returned (.bool (beyondF 2147483647 ns)) ∧ Drawn w w' := by
  have hnl : ns.length = n := by have := hx.1; simpa [ivs] using this
  have hmx : n ≤ 9223372036854775807 := hx.2.1
  subst hnl
  go_enter Tryz.func4, Tryz.ntmps4
  go_wp2
  go_loopw [3, 4] (fun l i wr => ∃ (k q : Nat) (y : Int), k ≤ ns.length ∧ i = .int .i64 k ∧ l = .int .i64 y ∧ 0 ≤ y ∧ y ≤ 2147483647 ∧ wr = w.drewN q ∧ beyondF 2147483647 ns = beyondF y (ns.drop k)) (fun _ i _ => ns.length - (intOf i).toNat)
  case atStart => exact ⟨0, 0, 2147483647, by omega, rfl, rfl, by omega, by omega, rfl, by simp⟩
  case round =>
    obtain ⟨k, q, y, hk, rfl, rfl, hy0, hy1, rfl, hb⟩ := hrel
    have HB := Lib.hid hb; clear hb
    by_cases hlt : k < ns.length
    · obtain ⟨ad, rfl, ha⟩ := hx.at_ k (.int .i64 ns[k]) (by simp [ivs, hlt])
      obtain ⟨hn0, hn1⟩ := hn ns[k] (List.getElem_mem hlt)
      have hd : ns.drop k = ns[k] :: ns.drop (k + 1) := List.drop_eq_getElem_cons hlt
      have HD := Lib.hid hd; clear hd
      by_cases hgt : y < ns[k]
      · have e1 : decide (y < ns[k]) = true := decide_eq_true hgt
        go_wp2
        go_ret
        exact ⟨ret_bool (by rw [HB.out, HD.out, beyondF_cons_lt _ _ _ hgt]), by repeat (first | exact Drawn.refl _ | apply Drawn.step)⟩
      · have e1 : decide (y < ns[k]) = false := decide_eq_false hgt
        go_wp2
        go_roundw
        case rel => exact ⟨k + 1, _, y - ns[k], by omega, by go_num, by go_num, by omega, by omega, rfl, by rw [HB.out, HD.out, beyondF_cons_ge _ _ _ hgt]⟩
        case measure => simp [intOf]; omega
    · obtain rfl : k = ns.length := by omega
      go_wp2
      go_ret
      exact ⟨ret_bool (by rw [HB.out]; simp [beyondF]), by repeat (first | exact Drawn.refl _ | apply Drawn.step)⟩

theorem tmod_facts (n m : Int) (hm : 0 < m) : -m < n.tmod m ∧ n.tmod m < m ∧ (n.tmod m < 0 → n.tmod m + m = n % m) ∧ (0 ≤ n.tmod m → n.tmod m = n % m) := by
  have h1 := Int.lt_tmod_of_pos n hm
  have h2 := Int.tmod_lt_of_pos n hm
  have e : n % m = n.tmod m % m := by
    have h := Int.tmod_add_mul_tdiv n m
    conv => lhs; rw [← h]
    exact Int.add_mul_emod_self_left _ _ _
  refine ⟨h1, h2, fun h => ?_, fun h => ?_⟩
  · rw [e, ← Int.add_emod_right, Int.emod_eq_of_lt (by omega) (by omega)]
  · rw [e, Int.emod_eq_of_lt h h2]

end Go.Proofs.YthdjddpomaendaaGreat.B
