/- The walk of beyond (of a script). -/
import Derived.Test.YthdjddpomaendaaO5
import Derived.Test.YthdjddpomaendaaH
import Derived.IntWalk
import Derived.Deep.RegionHeld3
import Derived.Deep.DrawnRows
namespace Go.Proofs.Ythdjddpomaendaa.B
open Go.RowKit
set_option linter.unusedVariables false
set_option linter.unusedSimpArgs false
attribute [local go_sem ↓] Go.wp_at_zero Go.wp_at_succ

/-- What a script hands in, and what its Pads may lay. -/
def total (L : List OpV) : Nat := (L.map fun o => 4097 + o.p.length + o.s.size).sum
theorem total_succ (L : List OpV) (k : Nat) (o : OpV) (h : L[k]? = some o) : total (L.take (k + 1)) = total (L.take k) + (4097 + o.p.length + o.s.size) := by
  obtain ⟨hk, rfl⟩ := List.getElem?_eq_some_iff.1 h
  unfold total
  rw [List.take_succ_eq_append_getElem hk, List.map_append, List.sum_append]
  simp
theorem beyond3 (a b c : Nat) (ha : a ≤ 9223372036854775807) (hb : b ≤ 9223372036854775807) (hc : c ≤ 9223372036854775807) : beyondF 2147483647 [(a : Int), (b : Int), (c : Int)] = decide (2147483647 < a + b + c) := by
  simp only [beyondF]
  by_cases h : a + b + c ≤ 2147483647
  · rw [if_neg (by omega), if_neg (by omega), if_neg (by omega), decide_eq_false (by omega)]
  · rw [decide_eq_true (by omega)]
    by_cases h1 : (2147483647 : Int) < a
    · rw [if_pos h1]
    · rw [if_neg h1]
      by_cases h2 : (2147483647 : Int) - a < b
      · rw [if_pos h2]
      · rw [if_neg h2, if_pos (by omega)]
theorem Rd.drew {w : World} {A : Option Addr} {n : Nat} {vs : List Value} (h : Rd w A n vs) : Rd w.drew A n vs := h
theorem ivs3 (w : World) (x y z : Int) : Rd (w.alloc (.cells #[.int .i64 x, .int .i64 y, .int .i64 z] 3)) (some ⟨w.heap.size, 0, none⟩) 3 (ivs [x, y, z]) :=
  (Blk.new w (ivs [x, y, z]) 3).rd _ rfl (by omega) (fun j u hu => by rw [Nat.zero_add]; exact hu)

set_option maxHeartbeats 3200000 in
set_option maxRecDepth 100000 in
theorem sbeyond_ (As : Option Addr) (m cs : Nat) (L : List OpV) (w : World) (hL : OpsAt w As L) (hm : L.length = m) (hcs : m ≤ cs) (hmm : m ≤ 9223372036854775807) :
    Calls Try.prog 26 #[.slice As m cs] w fun r w' => ∃ b, r = .returned (.bool b) ∧ (b = false → total L ≤ 2147483647) ∧ Below w.heap.size w w' := by
  have HM := Lib.hid hm
  clear hm
  go_enter Try.func26, Try.ntmps26
  go_wp2_with fail
  go_loopw [3, 4] (fun l i wr => ∃ k left : Nat, k ≤ m ∧ i = .int .i64 (k : Int) ∧ l = .int .i64 (left : Int) ∧ left ≤ 2147483647 ∧ Hid (total (L.take k) + left = 2147483647) ∧ Below w.heap.size w wr) (fun _ i _ => m - (intOf i).toNat)
  case atStart => exact ⟨0, 2147483647, Nat.zero_le _, rfl, rfl, Nat.le_refl _, Lib.hid (by simp [total]), Below.refl _ _⟩
  case round =>
    obtain ⟨k, left, hk, rfl, rfl, hleft, HT, hB⟩ := hrel
    by_cases hlt : k < m
    · obtain ⟨o, ho⟩ : ∃ o, L[k]? = some o := ⟨_, List.getElem?_eq_getElem (by rw [HM.out]; exact hlt)⟩
      obtain ⟨ad, rfl, hcell, hok, hblk⟩ := (hL.below hB) k o ho
      have e4 := hcell 4 (.slice o.A o.p.length o.c) rfl
      rw [add_at _ _ 4 (by decide)] at e4
      have e5 := hcell 5 (.string o.s) rfl
      rw [add_at _ _ 5 (by decide)] at e5
      have hpl : o.p.length ≤ 9223372036854775807 := Nat.le_trans hok.c hok.m
      have hsz := hok.z
      have HTS := Lib.hid (total_succ L k o ho)
      have hbe := fun (W : World) (B : Nat) (hr : Rd W (some ⟨B, 0, none⟩) 3 (ivs [4097, (o.p.length : Int), (o.s.size : Int)])) => beyond_ (some ⟨B, 0, none⟩) 3 3 [((4097 : Nat) : Int), (o.p.length : Int), (o.s.size : Int)] W hr (by intro x hx; simp at hx; omega)
      rw [beyond3 4097 o.p.length o.s.size (by decide) hpl hsz] at hbe
      have hi0 : (0 : Int) ≤ (k : Int) := by omega
      have hi1 : (k : Int) < (m : Int) := by omega
      have n4 := World.new_ne wr _ e4
      have n5 := World.new_ne wr _ e5
      clear hcell hblk hok
      by_cases hbig : 2147483647 < 4097 + o.p.length + o.s.size
      · rw [decide_eq_true hbig] at hbe
        have HBE := Lib.hid hbe
        clear hbe
        go_wp2_with fail
        refine wp_region_held_drew (S := (fun w' => w'.cell? ⟨(ad.add (k * 6)).block, (ad.add (k * 6)).off + 4, none⟩ = some (.slice o.A o.p.length o.c) ∧ w'.cell? ⟨(ad.add (k * 6)).block, (ad.add (k * 6)).off + 5, none⟩ = some (.string o.s))) (by kernel_rfl) ?_ (fun hHeld => ?_)
        · (try dsimp only); go_keep
        refine tk 0 (v := ?_) rfl ⟨by kernel_rfl, by kernel_rfl, by kernel_rfl⟩ (fun _ _ _ h => h) (by kernel_rfl) hHeld ?_ ?_
        rotate_left
        · (intro w0 hSw; (try dsimp only at hSw); go_simp; (try with_reducible rfl))
        (try simp only [Act.put, List.setIfInBounds_toArray, List.set_cons_zero, List.set_cons_succ])
        refine tk 1 (v := ?_) rfl ⟨by kernel_rfl, by kernel_rfl, by kernel_rfl⟩ (fun _ _ _ h => h) (by kernel_rfl) hHeld ?_ ?_
        rotate_left
        · (intro w0 hSw; (try dsimp only at hSw); go_simp; (try with_reducible rfl))
        (try simp only [Act.put, List.setIfInBounds_toArray, List.set_cons_zero, List.set_cons_succ])
        refine tk 2 (v := ?_) rfl ⟨by kernel_rfl, by kernel_rfl, by kernel_rfl⟩ (fun _ _ _ h => h) (by kernel_rfl) hHeld ?_ ?_
        rotate_left
        · (intro w0 hSw; (try dsimp only at hSw); go_simp; (try with_reducible rfl))
        (try simp only [Act.put, List.setIfInBounds_toArray, List.set_cons_zero, List.set_cons_succ])
        refine tk 3 (v := ?_) rfl ⟨by kernel_rfl, by kernel_rfl, by kernel_rfl⟩ (fun _ _ _ h => h) (by kernel_rfl) hHeld ?_ ?_
        rotate_left
        · (intro w0 hSw; (try dsimp only at hSw); go_simp; (try with_reducible rfl))
        (try simp only [Act.put, List.setIfInBounds_toArray, List.set_cons_zero, List.set_cons_succ])
        refine tk 4 (v := ?_) rfl ⟨by kernel_rfl, by kernel_rfl, by kernel_rfl⟩ (fun _ _ _ h => h) (by kernel_rfl) hHeld ?_ ?_
        rotate_left
        · (intro w0 hSw; (try dsimp only at hSw); go_simp; (try with_reducible rfl))
        (try simp only [Act.put, List.setIfInBounds_toArray, List.set_cons_zero, List.set_cons_succ])
        refine tk 5 (v := ?_) rfl ⟨by kernel_rfl, by kernel_rfl, by kernel_rfl⟩ (fun _ _ _ h => h) (by kernel_rfl) hHeld ?_ ?_
        rotate_left
        · (intro w0 hSw; (try dsimp only at hSw); go_simp; (try with_reducible rfl))
        (try simp only [Act.put, List.setIfInBounds_toArray, List.set_cons_zero, List.set_cons_succ])
        refine tk 6 (v := ?_) rfl ⟨by kernel_rfl, by kernel_rfl, by kernel_rfl⟩ (fun _ _ _ h => h) (by kernel_rfl) hHeld ?_ ?_
        rotate_left
        · (intro w0 hSw; (try dsimp only at hSw); go_simp; (try with_reducible rfl))
        (try simp only [Act.put, List.setIfInBounds_toArray, List.set_cons_zero, List.set_cons_succ])
        refine tk 7 (v := ?_) rfl ⟨by kernel_rfl, by kernel_rfl, by kernel_rfl⟩ (fun _ _ _ h => h) (by kernel_rfl) hHeld ?_ ?_
        rotate_left
        · (intro w0 hSw; (try dsimp only at hSw); go_simp; (try with_reducible rfl))
        (try simp only [Act.put, List.setIfInBounds_toArray, List.set_cons_zero, List.set_cons_succ])
        refine tk 8 (v := ?_) rfl ⟨by kernel_rfl, by kernel_rfl, by kernel_rfl⟩ (fun _ _ _ h => h) (by kernel_rfl) hHeld ?_ ?_
        rotate_left
        · (intro w0 hSw; (try dsimp only at hSw); go_simp; (try with_reducible rfl))
        (try simp only [Act.put, List.setIfInBounds_toArray, List.set_cons_zero, List.set_cons_succ])
        refine tk 9 (v := ?_) rfl ⟨by kernel_rfl, by kernel_rfl, by kernel_rfl⟩ (fun _ _ _ h => h) (by kernel_rfl) hHeld ?_ ?_
        rotate_left
        · (intro w0 hSw; (try dsimp only at hSw); go_simp; (try with_reducible rfl))
        (try simp only [Act.put, List.setIfInBounds_toArray, List.set_cons_zero, List.set_cons_succ])
        refine tk 10 (v := ?_) rfl ⟨by kernel_rfl, by kernel_rfl, by kernel_rfl⟩ (fun _ _ _ h => h) (by kernel_rfl) hHeld ?_ ?_
        rotate_left
        · (intro w0 hSw; (try dsimp only at hSw); go_simp; (try with_reducible rfl))
        (try simp only [Act.put, List.setIfInBounds_toArray, List.set_cons_zero, List.set_cons_succ])
        refine tk 11 (v := ?_) rfl ⟨by kernel_rfl, by kernel_rfl, by kernel_rfl⟩ (fun _ _ _ h => h) (by kernel_rfl) hHeld ?_ ?_
        rotate_left
        · (intro w0 hSw; (try dsimp only at hSw); go_simp; (try with_reducible rfl))
        (try simp only [Act.put, List.setIfInBounds_toArray, List.set_cons_zero, List.set_cons_succ])
        refine tk 12 (v := ?_) rfl ⟨by kernel_rfl, by kernel_rfl, by kernel_rfl⟩ (fun _ _ _ h => h) (by kernel_rfl) hHeld ?_ ?_
        rotate_left
        · (intro w0 hSw; (try dsimp only at hSw); go_simp; (try with_reducible rfl))
        (try simp only [Act.put, List.setIfInBounds_toArray, List.set_cons_zero, List.set_cons_succ])
        refine cr 13 rfl (by kernel_rfl) (fun K hK => ?_)
        go_simp
        clear hHeld
        refine hK.out _ _ ?_ (fun hHeld => ?_)
        · (try dsimp only); go_keep
        clear hK K
        (try simp only [Act.put, List.setIfInBounds_toArray, List.set_cons_zero, List.set_cons_succ])
        refine cr 14 rfl (by kernel_rfl) (fun K hK => ?_)
        (refine goes Try.func12 (by kernel_rfl) rfl #[.slice (some ⟨wr.heap.size, 0, none⟩) 3 3] rfl rfl (by simp only [List.map_toArray, List.map_cons, List.map_nil]; rfl) ?_; refine (HBE.out _ _ (ivs3 _ _ _ _).drew).mono ?_; rintro e w8 ⟨rfl, ⟨n8, rfl⟩⟩; refine ⟨_, rfl, ?_⟩)
        clear hHeld
        refine hK.out _ _ ?_ (fun hHeld => ?_)
        · (try dsimp only); go_keep
        clear hK K
        (try simp only [Act.put, List.setIfInBounds_toArray, List.set_cons_zero, List.set_cons_succ])
        refine tk 15 (v := ?_) rfl ⟨by kernel_rfl, by kernel_rfl, by kernel_rfl⟩ (fun _ _ _ h => h) (by kernel_rfl) hHeld ?_ ?_
        rotate_left
        · (intro w0 hSw; (try dsimp only at hSw); go_simp; (try with_reducible rfl))
        (try simp only [Act.put, List.setIfInBounds_toArray, List.set_cons_zero, List.set_cons_succ])
        refine tkno 16 rfl ⟨by kernel_rfl, by kernel_rfl, by kernel_rfl⟩ (fun _ _ _ h => h) (by kernel_rfl) hHeld ?_
        (try simp only [Act.put, List.setIfInBounds_toArray, List.set_cons_zero, List.set_cons_succ])
        refine tkno 17 rfl ⟨by kernel_rfl, by kernel_rfl, by kernel_rfl⟩ (fun _ _ _ h => h) (by kernel_rfl) hHeld ?_
        (try simp only [Act.put, List.setIfInBounds_toArray, List.set_cons_zero, List.set_cons_succ])
        refine tkno 18 rfl ⟨by kernel_rfl, by kernel_rfl, by kernel_rfl⟩ (fun _ _ _ h => h) (by kernel_rfl) hHeld ?_
        (try simp only [Act.put, List.setIfInBounds_toArray, List.set_cons_zero, List.set_cons_succ])
        refine tkno 19 rfl ⟨by kernel_rfl, by kernel_rfl, by kernel_rfl⟩ (fun _ _ _ h => h) (by kernel_rfl) hHeld ?_
        (try simp only [Act.put, List.setIfInBounds_toArray, List.set_cons_zero, List.set_cons_succ])
        refine tkno 20 rfl ⟨by kernel_rfl, by kernel_rfl, by kernel_rfl⟩ (fun _ _ _ h => h) (by kernel_rfl) hHeld ?_
        (try simp only [Act.put, List.setIfInBounds_toArray, List.set_cons_zero, List.set_cons_succ])
        refine tkno 21 rfl ⟨by kernel_rfl, by kernel_rfl, by kernel_rfl⟩ (fun _ _ _ h => h) (by kernel_rfl) hHeld ?_
        (try simp only [Act.put, List.setIfInBounds_toArray, List.set_cons_zero, List.set_cons_succ])
        refine tkno 22 rfl ⟨by kernel_rfl, by kernel_rfl, by kernel_rfl⟩ (fun _ _ _ h => h) (by kernel_rfl) hHeld ?_
        (try simp only [Act.put, List.setIfInBounds_toArray, List.set_cons_zero, List.set_cons_succ])
        refine tkno 23 rfl ⟨by kernel_rfl, by kernel_rfl, by kernel_rfl⟩ (fun _ _ _ h => h) (by kernel_rfl) hHeld ?_
        (try simp only [Act.put, List.setIfInBounds_toArray, List.set_cons_zero, List.set_cons_succ])
        refine tkno 24 rfl ⟨by kernel_rfl, by kernel_rfl, by kernel_rfl⟩ (fun _ _ _ h => h) (by kernel_rfl) hHeld ?_
        (try simp only [Act.put, List.setIfInBounds_toArray, List.set_cons_zero, List.set_cons_succ])
        refine tkno 25 rfl ⟨by kernel_rfl, by kernel_rfl, by kernel_rfl⟩ (fun _ _ _ h => h) (by kernel_rfl) hHeld ?_
        (try simp only [Act.put, List.setIfInBounds_toArray, List.set_cons_zero, List.set_cons_succ])
        refine tkno 26 rfl ⟨by kernel_rfl, by kernel_rfl, by kernel_rfl⟩ (fun _ _ _ h => h) (by kernel_rfl) hHeld ?_
        (try simp only [Act.put, List.setIfInBounds_toArray, List.set_cons_zero, List.set_cons_succ])
        refine tkno 27 rfl ⟨by kernel_rfl, by kernel_rfl, by kernel_rfl⟩ (fun _ _ _ h => h) (by kernel_rfl) hHeld ?_
        (try simp only [Act.put, List.setIfInBounds_toArray, List.set_cons_zero, List.set_cons_succ])
        refine tkno 28 rfl ⟨by kernel_rfl, by kernel_rfl, by kernel_rfl⟩ (fun _ _ _ h => h) (by kernel_rfl) hHeld ?_
        (try simp only [Act.put, List.setIfInBounds_toArray, List.set_cons_zero, List.set_cons_succ])
        refine tkno 29 rfl ⟨by kernel_rfl, by kernel_rfl, by kernel_rfl⟩ (fun _ _ _ h => h) (by kernel_rfl) hHeld ?_
        (try simp only [Act.put, List.setIfInBounds_toArray, List.set_cons_zero, List.set_cons_succ])
        refine tkno 30 rfl ⟨by kernel_rfl, by kernel_rfl, by kernel_rfl⟩ (fun _ _ _ h => h) (by kernel_rfl) hHeld ?_
        (try simp only [Act.put, List.setIfInBounds_toArray, List.set_cons_zero, List.set_cons_succ])
        refine tkno 31 rfl ⟨by kernel_rfl, by kernel_rfl, by kernel_rfl⟩ (fun _ _ _ h => h) (by kernel_rfl) hHeld ?_
        (try simp only [Act.put, List.setIfInBounds_toArray, List.set_cons_zero, List.set_cons_succ])
        refine tkno 32 rfl ⟨by kernel_rfl, by kernel_rfl, by kernel_rfl⟩ (fun _ _ _ h => h) (by kernel_rfl) hHeld ?_
        (try simp only [Act.put, List.setIfInBounds_toArray, List.set_cons_zero, List.set_cons_succ])
        refine tk 33 (v := ?_) rfl ⟨by kernel_rfl, by kernel_rfl, by kernel_rfl⟩ (fun _ _ _ h => h) (by kernel_rfl) hHeld ?_ ?_
        rotate_left
        · (intro w0 hSw; (try dsimp only at hSw); go_simp; (try with_reducible rfl))
        (try simp only [Act.put, List.setIfInBounds_toArray, List.set_cons_zero, List.set_cons_succ])
        refine wpAnyH_done (by kernel_rfl) ?_ _
        have HB7 := Lib.hid (below_alloc hB (.cells #[.int .i64 4097, .int .i64 (o.p.length : Int), .int .i64 (o.s.size : Int)] 3))
        clear hB hHeld
        go_wp2_with fail
        go_ret
        exact ⟨true, rfl, fun h => (by cases h), (by first | exact below_drewN HB7.out _ | exact below_drewN (below_drewN HB7.out 1) _)⟩
      · rw [decide_eq_false hbig] at hbe
        have HBE := Lib.hid hbe
        clear hbe
        have HB7 := Lib.hid (below_alloc hB (.cells #[.int .i64 4097, .int .i64 (o.p.length : Int), .int .i64 (o.s.size : Int)] 3))
        clear hB
        by_cases hgt : left < 4097 + o.p.length + o.s.size
        · have t1 : decide ((left : Int) < 4097 + (o.p.length : Int) + (o.s.size : Int)) = true := decide_eq_true (by omega)
          have w1 : IntKind.i64.wrap (4097 + (o.p.length : Int)) = 4097 + (o.p.length : Int) := IntWalk.i64_in _ (by omega)
          have w2 : IntKind.i64.wrap (4097 + (o.p.length : Int) + (o.s.size : Int)) = 4097 + (o.p.length : Int) + (o.s.size : Int) := IntWalk.i64_in _ (by omega)
          go_wp2_with fail
          refine wp_region_held_drew (S := (fun w' => w'.cell? ⟨(ad.add (k * 6)).block, (ad.add (k * 6)).off + 4, none⟩ = some (.slice o.A o.p.length o.c) ∧ w'.cell? ⟨(ad.add (k * 6)).block, (ad.add (k * 6)).off + 5, none⟩ = some (.string o.s))) (by kernel_rfl) ?_ (fun hHeld => ?_)
          · (try dsimp only); go_keep
          refine tk 0 (v := ?_) rfl ⟨by kernel_rfl, by kernel_rfl, by kernel_rfl⟩ (fun _ _ _ h => h) (by kernel_rfl) hHeld ?_ ?_
          rotate_left
          · (intro w0 hSw; (try dsimp only at hSw); go_simp; (try with_reducible rfl))
          (try simp only [Act.put, List.setIfInBounds_toArray, List.set_cons_zero, List.set_cons_succ])
          refine tk 1 (v := ?_) rfl ⟨by kernel_rfl, by kernel_rfl, by kernel_rfl⟩ (fun _ _ _ h => h) (by kernel_rfl) hHeld ?_ ?_
          rotate_left
          · (intro w0 hSw; (try dsimp only at hSw); go_simp; (try with_reducible rfl))
          (try simp only [Act.put, List.setIfInBounds_toArray, List.set_cons_zero, List.set_cons_succ])
          refine tk 2 (v := ?_) rfl ⟨by kernel_rfl, by kernel_rfl, by kernel_rfl⟩ (fun _ _ _ h => h) (by kernel_rfl) hHeld ?_ ?_
          rotate_left
          · (intro w0 hSw; (try dsimp only at hSw); go_simp; (try with_reducible rfl))
          (try simp only [Act.put, List.setIfInBounds_toArray, List.set_cons_zero, List.set_cons_succ])
          refine tk 3 (v := ?_) rfl ⟨by kernel_rfl, by kernel_rfl, by kernel_rfl⟩ (fun _ _ _ h => h) (by kernel_rfl) hHeld ?_ ?_
          rotate_left
          · (intro w0 hSw; (try dsimp only at hSw); go_simp; (try with_reducible rfl))
          (try simp only [Act.put, List.setIfInBounds_toArray, List.set_cons_zero, List.set_cons_succ])
          refine tk 4 (v := ?_) rfl ⟨by kernel_rfl, by kernel_rfl, by kernel_rfl⟩ (fun _ _ _ h => h) (by kernel_rfl) hHeld ?_ ?_
          rotate_left
          · (intro w0 hSw; (try dsimp only at hSw); go_simp; (try with_reducible rfl))
          (try simp only [Act.put, List.setIfInBounds_toArray, List.set_cons_zero, List.set_cons_succ])
          refine tk 5 (v := ?_) rfl ⟨by kernel_rfl, by kernel_rfl, by kernel_rfl⟩ (fun _ _ _ h => h) (by kernel_rfl) hHeld ?_ ?_
          rotate_left
          · (intro w0 hSw; (try dsimp only at hSw); go_simp; (try with_reducible rfl))
          (try simp only [Act.put, List.setIfInBounds_toArray, List.set_cons_zero, List.set_cons_succ])
          refine tk 6 (v := ?_) rfl ⟨by kernel_rfl, by kernel_rfl, by kernel_rfl⟩ (fun _ _ _ h => h) (by kernel_rfl) hHeld ?_ ?_
          rotate_left
          · (intro w0 hSw; (try dsimp only at hSw); go_simp; (try with_reducible rfl))
          (try simp only [Act.put, List.setIfInBounds_toArray, List.set_cons_zero, List.set_cons_succ])
          refine tk 7 (v := ?_) rfl ⟨by kernel_rfl, by kernel_rfl, by kernel_rfl⟩ (fun _ _ _ h => h) (by kernel_rfl) hHeld ?_ ?_
          rotate_left
          · (intro w0 hSw; (try dsimp only at hSw); go_simp; (try with_reducible rfl))
          (try simp only [Act.put, List.setIfInBounds_toArray, List.set_cons_zero, List.set_cons_succ])
          refine tk 8 (v := ?_) rfl ⟨by kernel_rfl, by kernel_rfl, by kernel_rfl⟩ (fun _ _ _ h => h) (by kernel_rfl) hHeld ?_ ?_
          rotate_left
          · (intro w0 hSw; (try dsimp only at hSw); go_simp; (try with_reducible rfl))
          (try simp only [Act.put, List.setIfInBounds_toArray, List.set_cons_zero, List.set_cons_succ])
          refine tk 9 (v := ?_) rfl ⟨by kernel_rfl, by kernel_rfl, by kernel_rfl⟩ (fun _ _ _ h => h) (by kernel_rfl) hHeld ?_ ?_
          rotate_left
          · (intro w0 hSw; (try dsimp only at hSw); go_simp; (try with_reducible rfl))
          (try simp only [Act.put, List.setIfInBounds_toArray, List.set_cons_zero, List.set_cons_succ])
          refine tk 10 (v := ?_) rfl ⟨by kernel_rfl, by kernel_rfl, by kernel_rfl⟩ (fun _ _ _ h => h) (by kernel_rfl) hHeld ?_ ?_
          rotate_left
          · (intro w0 hSw; (try dsimp only at hSw); go_simp; (try with_reducible rfl))
          (try simp only [Act.put, List.setIfInBounds_toArray, List.set_cons_zero, List.set_cons_succ])
          refine tk 11 (v := ?_) rfl ⟨by kernel_rfl, by kernel_rfl, by kernel_rfl⟩ (fun _ _ _ h => h) (by kernel_rfl) hHeld ?_ ?_
          rotate_left
          · (intro w0 hSw; (try dsimp only at hSw); go_simp; (try with_reducible rfl))
          (try simp only [Act.put, List.setIfInBounds_toArray, List.set_cons_zero, List.set_cons_succ])
          refine tk 12 (v := ?_) rfl ⟨by kernel_rfl, by kernel_rfl, by kernel_rfl⟩ (fun _ _ _ h => h) (by kernel_rfl) hHeld ?_ ?_
          rotate_left
          · (intro w0 hSw; (try dsimp only at hSw); go_simp; (try with_reducible rfl))
          (try simp only [Act.put, List.setIfInBounds_toArray, List.set_cons_zero, List.set_cons_succ])
          refine cr 13 rfl (by kernel_rfl) (fun K hK => ?_)
          go_simp
          clear hHeld
          refine hK.out _ _ ?_ (fun hHeld => ?_)
          · (try dsimp only); go_keep
          clear hK K
          (try simp only [Act.put, List.setIfInBounds_toArray, List.set_cons_zero, List.set_cons_succ])
          refine cr 14 rfl (by kernel_rfl) (fun K hK => ?_)
          (refine goes Try.func12 (by kernel_rfl) rfl #[.slice (some ⟨wr.heap.size, 0, none⟩) 3 3] rfl rfl (by simp only [List.map_toArray, List.map_cons, List.map_nil]; rfl) ?_; refine (HBE.out _ _ (ivs3 _ _ _ _).drew).mono ?_; rintro e w8 ⟨rfl, ⟨n8, rfl⟩⟩; refine ⟨_, rfl, ?_⟩)
          clear hHeld
          refine hK.out _ _ ?_ (fun hHeld => ?_)
          · (try dsimp only); go_keep
          clear hK K
          (try simp only [Act.put, List.setIfInBounds_toArray, List.set_cons_zero, List.set_cons_succ])
          refine tk 15 (v := ?_) rfl ⟨by kernel_rfl, by kernel_rfl, by kernel_rfl⟩ (fun _ _ _ h => h) (by kernel_rfl) hHeld ?_ ?_
          rotate_left
          · (intro w0 hSw; (try dsimp only at hSw); go_simp; (try with_reducible rfl))
          (try simp only [Act.put, List.setIfInBounds_toArray, List.set_cons_zero, List.set_cons_succ])
          refine tk 16 (v := ?_) rfl ⟨by kernel_rfl, by kernel_rfl, by kernel_rfl⟩ (fun _ _ _ h => h) (by kernel_rfl) hHeld ?_ ?_
          rotate_left
          · (intro w0 hSw; (try dsimp only at hSw); go_simp; (try with_reducible rfl))
          (try simp only [Act.put, List.setIfInBounds_toArray, List.set_cons_zero, List.set_cons_succ])
          refine tk 17 (v := ?_) rfl ⟨by kernel_rfl, by kernel_rfl, by kernel_rfl⟩ (fun _ _ _ h => h) (by kernel_rfl) hHeld ?_ ?_
          rotate_left
          · (intro w0 hSw; (try dsimp only at hSw); go_simp; (try with_reducible rfl))
          (try simp only [Act.put, List.setIfInBounds_toArray, List.set_cons_zero, List.set_cons_succ])
          refine tk 18 (v := ?_) rfl ⟨by kernel_rfl, by kernel_rfl, by kernel_rfl⟩ (fun _ _ _ h => h) (by kernel_rfl) hHeld ?_ ?_
          rotate_left
          · (intro w0 hSw; (try dsimp only at hSw); go_simp; (try with_reducible rfl))
          (try simp only [Act.put, List.setIfInBounds_toArray, List.set_cons_zero, List.set_cons_succ])
          refine tk 19 (v := ?_) rfl ⟨by kernel_rfl, by kernel_rfl, by kernel_rfl⟩ (fun _ _ _ h => h) (by kernel_rfl) hHeld ?_ ?_
          rotate_left
          · (intro w0 hSw; (try dsimp only at hSw); go_simp; (try with_reducible rfl))
          (try simp only [Act.put, List.setIfInBounds_toArray, List.set_cons_zero, List.set_cons_succ])
          refine tk 20 (v := ?_) rfl ⟨by kernel_rfl, by kernel_rfl, by kernel_rfl⟩ (fun _ _ _ h => h) (by kernel_rfl) hHeld ?_ ?_
          rotate_left
          · (intro w0 hSw; (try dsimp only at hSw); go_simp; (try with_reducible rfl))
          (try simp only [Act.put, List.setIfInBounds_toArray, List.set_cons_zero, List.set_cons_succ])
          refine tk 21 (v := ?_) rfl ⟨by kernel_rfl, by kernel_rfl, by kernel_rfl⟩ (fun _ _ _ h => h) (by kernel_rfl) hHeld ?_ ?_
          rotate_left
          · (intro w0 hSw; (try dsimp only at hSw); go_simp; (try with_reducible rfl))
          (try simp only [Act.put, List.setIfInBounds_toArray, List.set_cons_zero, List.set_cons_succ])
          refine tk 22 (v := ?_) rfl ⟨by kernel_rfl, by kernel_rfl, by kernel_rfl⟩ (fun _ _ _ h => h) (by kernel_rfl) hHeld ?_ ?_
          rotate_left
          · (intro w0 hSw; (try dsimp only at hSw); go_simp; (try with_reducible rfl))
          (try simp only [Act.put, List.setIfInBounds_toArray, List.set_cons_zero, List.set_cons_succ])
          refine tk 23 (v := ?_) rfl ⟨by kernel_rfl, by kernel_rfl, by kernel_rfl⟩ (fun _ _ _ h => h) (by kernel_rfl) hHeld ?_ ?_
          rotate_left
          · (intro w0 hSw; (try dsimp only at hSw); go_simp; (try with_reducible rfl))
          (try simp only [Act.put, List.setIfInBounds_toArray, List.set_cons_zero, List.set_cons_succ])
          refine tk 24 (v := ?_) rfl ⟨by kernel_rfl, by kernel_rfl, by kernel_rfl⟩ (fun _ _ _ h => h) (by kernel_rfl) hHeld ?_ ?_
          rotate_left
          · (intro w0 hSw; (try dsimp only at hSw); go_simp; (try with_reducible rfl))
          (try simp only [Act.put, List.setIfInBounds_toArray, List.set_cons_zero, List.set_cons_succ])
          refine tk 25 (v := ?_) rfl ⟨by kernel_rfl, by kernel_rfl, by kernel_rfl⟩ (fun _ _ _ h => h) (by kernel_rfl) hHeld ?_ ?_
          rotate_left
          · (intro w0 hSw; (try dsimp only at hSw); go_simp; (try with_reducible rfl))
          (try simp only [Act.put, List.setIfInBounds_toArray, List.set_cons_zero, List.set_cons_succ])
          refine tk 26 (v := ?_) rfl ⟨by kernel_rfl, by kernel_rfl, by kernel_rfl⟩ (fun _ _ _ h => h) (by kernel_rfl) hHeld ?_ ?_
          rotate_left
          · (intro w0 hSw; (try dsimp only at hSw); go_simp; (try with_reducible rfl))
          (try simp only [Act.put, List.setIfInBounds_toArray, List.set_cons_zero, List.set_cons_succ])
          refine tk 27 (v := ?_) rfl ⟨by kernel_rfl, by kernel_rfl, by kernel_rfl⟩ (fun _ _ _ h => h) (by kernel_rfl) hHeld ?_ ?_
          rotate_left
          · (intro w0 hSw; (try dsimp only at hSw); go_simp; (try with_reducible rfl))
          (try simp only [Act.put, List.setIfInBounds_toArray, List.set_cons_zero, List.set_cons_succ])
          refine tk 28 (v := ?_) rfl ⟨by kernel_rfl, by kernel_rfl, by kernel_rfl⟩ (fun _ _ _ h => h) (by kernel_rfl) hHeld ?_ ?_
          rotate_left
          · (intro w0 hSw; (try dsimp only at hSw); go_simp; (try with_reducible rfl))
          (try simp only [Act.put, List.setIfInBounds_toArray, List.set_cons_zero, List.set_cons_succ])
          refine tk 29 (v := ?_) rfl ⟨by kernel_rfl, by kernel_rfl, by kernel_rfl⟩ (fun _ _ _ h => h) (by kernel_rfl) hHeld ?_ ?_
          rotate_left
          · (intro w0 hSw; (try dsimp only at hSw); go_simp; (try with_reducible rfl))
          (try simp only [Act.put, List.setIfInBounds_toArray, List.set_cons_zero, List.set_cons_succ])
          refine tk 30 (v := ?_) rfl ⟨by kernel_rfl, by kernel_rfl, by kernel_rfl⟩ (fun _ _ _ h => h) (by kernel_rfl) hHeld ?_ ?_
          rotate_left
          · (intro w0 hSw; (try dsimp only at hSw); go_simp; (try with_reducible rfl))
          (try simp only [Act.put, List.setIfInBounds_toArray, List.set_cons_zero, List.set_cons_succ])
          refine tk 31 (v := ?_) rfl ⟨by kernel_rfl, by kernel_rfl, by kernel_rfl⟩ (fun _ _ _ h => h) (by kernel_rfl) hHeld ?_ ?_
          rotate_left
          · (intro w0 hSw; (try dsimp only at hSw); go_simp; (try with_reducible rfl))
          (try simp only [Act.put, List.setIfInBounds_toArray, List.set_cons_zero, List.set_cons_succ])
          refine tk 32 (v := ?_) rfl ⟨by kernel_rfl, by kernel_rfl, by kernel_rfl⟩ (fun _ _ _ h => h) (by kernel_rfl) hHeld ?_ ?_
          rotate_left
          · (intro w0 hSw; (try dsimp only at hSw); go_simp; (try with_reducible rfl))
          (try simp only [Act.put, List.setIfInBounds_toArray, List.set_cons_zero, List.set_cons_succ])
          refine tk 33 (v := ?_) rfl ⟨by kernel_rfl, by kernel_rfl, by kernel_rfl⟩ (fun _ _ _ h => h) (by kernel_rfl) hHeld ?_ ?_
          rotate_left
          · (intro w0 hSw; (try dsimp only at hSw); go_simp; (try with_reducible rfl))
          (try simp only [Act.put, List.setIfInBounds_toArray, List.set_cons_zero, List.set_cons_succ])
          refine wpAnyH_done (by kernel_rfl) ?_ _
          clear hHeld
          go_wp2_with fail
          go_ret
          exact ⟨true, rfl, fun h => (by cases h), (by first | exact below_drewN HB7.out _ | exact below_drewN (below_drewN HB7.out 1) _)⟩
        · have t1 : decide ((left : Int) < 4097 + (o.p.length : Int) + (o.s.size : Int)) = false := decide_eq_false (by omega)
          have w1 : IntKind.i64.wrap (4097 + (o.p.length : Int)) = 4097 + (o.p.length : Int) := IntWalk.i64_in _ (by omega)
          have w2 : IntKind.i64.wrap (4097 + (o.p.length : Int) + (o.s.size : Int)) = 4097 + (o.p.length : Int) + (o.s.size : Int) := IntWalk.i64_in _ (by omega)
          go_wp2_with fail
          refine wp_region_held_drew (S := (fun w' => w'.cell? ⟨(ad.add (k * 6)).block, (ad.add (k * 6)).off + 4, none⟩ = some (.slice o.A o.p.length o.c) ∧ w'.cell? ⟨(ad.add (k * 6)).block, (ad.add (k * 6)).off + 5, none⟩ = some (.string o.s))) (by kernel_rfl) ?_ (fun hHeld => ?_)
          · (try dsimp only); go_keep
          refine tk 0 (v := ?_) rfl ⟨by kernel_rfl, by kernel_rfl, by kernel_rfl⟩ (fun _ _ _ h => h) (by kernel_rfl) hHeld ?_ ?_
          rotate_left
          · (intro w0 hSw; (try dsimp only at hSw); go_simp; (try with_reducible rfl))
          (try simp only [Act.put, List.setIfInBounds_toArray, List.set_cons_zero, List.set_cons_succ])
          refine tk 1 (v := ?_) rfl ⟨by kernel_rfl, by kernel_rfl, by kernel_rfl⟩ (fun _ _ _ h => h) (by kernel_rfl) hHeld ?_ ?_
          rotate_left
          · (intro w0 hSw; (try dsimp only at hSw); go_simp; (try with_reducible rfl))
          (try simp only [Act.put, List.setIfInBounds_toArray, List.set_cons_zero, List.set_cons_succ])
          refine tk 2 (v := ?_) rfl ⟨by kernel_rfl, by kernel_rfl, by kernel_rfl⟩ (fun _ _ _ h => h) (by kernel_rfl) hHeld ?_ ?_
          rotate_left
          · (intro w0 hSw; (try dsimp only at hSw); go_simp; (try with_reducible rfl))
          (try simp only [Act.put, List.setIfInBounds_toArray, List.set_cons_zero, List.set_cons_succ])
          refine tk 3 (v := ?_) rfl ⟨by kernel_rfl, by kernel_rfl, by kernel_rfl⟩ (fun _ _ _ h => h) (by kernel_rfl) hHeld ?_ ?_
          rotate_left
          · (intro w0 hSw; (try dsimp only at hSw); go_simp; (try with_reducible rfl))
          (try simp only [Act.put, List.setIfInBounds_toArray, List.set_cons_zero, List.set_cons_succ])
          refine tk 4 (v := ?_) rfl ⟨by kernel_rfl, by kernel_rfl, by kernel_rfl⟩ (fun _ _ _ h => h) (by kernel_rfl) hHeld ?_ ?_
          rotate_left
          · (intro w0 hSw; (try dsimp only at hSw); go_simp; (try with_reducible rfl))
          (try simp only [Act.put, List.setIfInBounds_toArray, List.set_cons_zero, List.set_cons_succ])
          refine tk 5 (v := ?_) rfl ⟨by kernel_rfl, by kernel_rfl, by kernel_rfl⟩ (fun _ _ _ h => h) (by kernel_rfl) hHeld ?_ ?_
          rotate_left
          · (intro w0 hSw; (try dsimp only at hSw); go_simp; (try with_reducible rfl))
          (try simp only [Act.put, List.setIfInBounds_toArray, List.set_cons_zero, List.set_cons_succ])
          refine tk 6 (v := ?_) rfl ⟨by kernel_rfl, by kernel_rfl, by kernel_rfl⟩ (fun _ _ _ h => h) (by kernel_rfl) hHeld ?_ ?_
          rotate_left
          · (intro w0 hSw; (try dsimp only at hSw); go_simp; (try with_reducible rfl))
          (try simp only [Act.put, List.setIfInBounds_toArray, List.set_cons_zero, List.set_cons_succ])
          refine tk 7 (v := ?_) rfl ⟨by kernel_rfl, by kernel_rfl, by kernel_rfl⟩ (fun _ _ _ h => h) (by kernel_rfl) hHeld ?_ ?_
          rotate_left
          · (intro w0 hSw; (try dsimp only at hSw); go_simp; (try with_reducible rfl))
          (try simp only [Act.put, List.setIfInBounds_toArray, List.set_cons_zero, List.set_cons_succ])
          refine tk 8 (v := ?_) rfl ⟨by kernel_rfl, by kernel_rfl, by kernel_rfl⟩ (fun _ _ _ h => h) (by kernel_rfl) hHeld ?_ ?_
          rotate_left
          · (intro w0 hSw; (try dsimp only at hSw); go_simp; (try with_reducible rfl))
          (try simp only [Act.put, List.setIfInBounds_toArray, List.set_cons_zero, List.set_cons_succ])
          refine tk 9 (v := ?_) rfl ⟨by kernel_rfl, by kernel_rfl, by kernel_rfl⟩ (fun _ _ _ h => h) (by kernel_rfl) hHeld ?_ ?_
          rotate_left
          · (intro w0 hSw; (try dsimp only at hSw); go_simp; (try with_reducible rfl))
          (try simp only [Act.put, List.setIfInBounds_toArray, List.set_cons_zero, List.set_cons_succ])
          refine tk 10 (v := ?_) rfl ⟨by kernel_rfl, by kernel_rfl, by kernel_rfl⟩ (fun _ _ _ h => h) (by kernel_rfl) hHeld ?_ ?_
          rotate_left
          · (intro w0 hSw; (try dsimp only at hSw); go_simp; (try with_reducible rfl))
          (try simp only [Act.put, List.setIfInBounds_toArray, List.set_cons_zero, List.set_cons_succ])
          refine tk 11 (v := ?_) rfl ⟨by kernel_rfl, by kernel_rfl, by kernel_rfl⟩ (fun _ _ _ h => h) (by kernel_rfl) hHeld ?_ ?_
          rotate_left
          · (intro w0 hSw; (try dsimp only at hSw); go_simp; (try with_reducible rfl))
          (try simp only [Act.put, List.setIfInBounds_toArray, List.set_cons_zero, List.set_cons_succ])
          refine tk 12 (v := ?_) rfl ⟨by kernel_rfl, by kernel_rfl, by kernel_rfl⟩ (fun _ _ _ h => h) (by kernel_rfl) hHeld ?_ ?_
          rotate_left
          · (intro w0 hSw; (try dsimp only at hSw); go_simp; (try with_reducible rfl))
          (try simp only [Act.put, List.setIfInBounds_toArray, List.set_cons_zero, List.set_cons_succ])
          refine cr 13 rfl (by kernel_rfl) (fun K hK => ?_)
          go_simp
          clear hHeld
          refine hK.out _ _ ?_ (fun hHeld => ?_)
          · (try dsimp only); go_keep
          clear hK K
          (try simp only [Act.put, List.setIfInBounds_toArray, List.set_cons_zero, List.set_cons_succ])
          refine cr 14 rfl (by kernel_rfl) (fun K hK => ?_)
          (refine goes Try.func12 (by kernel_rfl) rfl #[.slice (some ⟨wr.heap.size, 0, none⟩) 3 3] rfl rfl (by simp only [List.map_toArray, List.map_cons, List.map_nil]; rfl) ?_; refine (HBE.out _ _ (ivs3 _ _ _ _).drew).mono ?_; rintro e w8 ⟨rfl, ⟨n8, rfl⟩⟩; refine ⟨_, rfl, ?_⟩)
          clear hHeld
          refine hK.out _ _ ?_ (fun hHeld => ?_)
          · (try dsimp only); go_keep
          clear hK K
          (try simp only [Act.put, List.setIfInBounds_toArray, List.set_cons_zero, List.set_cons_succ])
          refine tk 15 (v := ?_) rfl ⟨by kernel_rfl, by kernel_rfl, by kernel_rfl⟩ (fun _ _ _ h => h) (by kernel_rfl) hHeld ?_ ?_
          rotate_left
          · (intro w0 hSw; (try dsimp only at hSw); go_simp; (try with_reducible rfl))
          (try simp only [Act.put, List.setIfInBounds_toArray, List.set_cons_zero, List.set_cons_succ])
          refine tk 16 (v := ?_) rfl ⟨by kernel_rfl, by kernel_rfl, by kernel_rfl⟩ (fun _ _ _ h => h) (by kernel_rfl) hHeld ?_ ?_
          rotate_left
          · (intro w0 hSw; (try dsimp only at hSw); go_simp; (try with_reducible rfl))
          (try simp only [Act.put, List.setIfInBounds_toArray, List.set_cons_zero, List.set_cons_succ])
          refine tk 17 (v := ?_) rfl ⟨by kernel_rfl, by kernel_rfl, by kernel_rfl⟩ (fun _ _ _ h => h) (by kernel_rfl) hHeld ?_ ?_
          rotate_left
          · (intro w0 hSw; (try dsimp only at hSw); go_simp; (try with_reducible rfl))
          (try simp only [Act.put, List.setIfInBounds_toArray, List.set_cons_zero, List.set_cons_succ])
          refine tk 18 (v := ?_) rfl ⟨by kernel_rfl, by kernel_rfl, by kernel_rfl⟩ (fun _ _ _ h => h) (by kernel_rfl) hHeld ?_ ?_
          rotate_left
          · (intro w0 hSw; (try dsimp only at hSw); go_simp; (try with_reducible rfl))
          (try simp only [Act.put, List.setIfInBounds_toArray, List.set_cons_zero, List.set_cons_succ])
          refine tk 19 (v := ?_) rfl ⟨by kernel_rfl, by kernel_rfl, by kernel_rfl⟩ (fun _ _ _ h => h) (by kernel_rfl) hHeld ?_ ?_
          rotate_left
          · (intro w0 hSw; (try dsimp only at hSw); go_simp; (try with_reducible rfl))
          (try simp only [Act.put, List.setIfInBounds_toArray, List.set_cons_zero, List.set_cons_succ])
          refine tk 20 (v := ?_) rfl ⟨by kernel_rfl, by kernel_rfl, by kernel_rfl⟩ (fun _ _ _ h => h) (by kernel_rfl) hHeld ?_ ?_
          rotate_left
          · (intro w0 hSw; (try dsimp only at hSw); go_simp; (try with_reducible rfl))
          (try simp only [Act.put, List.setIfInBounds_toArray, List.set_cons_zero, List.set_cons_succ])
          refine tk 21 (v := ?_) rfl ⟨by kernel_rfl, by kernel_rfl, by kernel_rfl⟩ (fun _ _ _ h => h) (by kernel_rfl) hHeld ?_ ?_
          rotate_left
          · (intro w0 hSw; (try dsimp only at hSw); go_simp; (try with_reducible rfl))
          (try simp only [Act.put, List.setIfInBounds_toArray, List.set_cons_zero, List.set_cons_succ])
          refine tk 22 (v := ?_) rfl ⟨by kernel_rfl, by kernel_rfl, by kernel_rfl⟩ (fun _ _ _ h => h) (by kernel_rfl) hHeld ?_ ?_
          rotate_left
          · (intro w0 hSw; (try dsimp only at hSw); go_simp; (try with_reducible rfl))
          (try simp only [Act.put, List.setIfInBounds_toArray, List.set_cons_zero, List.set_cons_succ])
          refine tk 23 (v := ?_) rfl ⟨by kernel_rfl, by kernel_rfl, by kernel_rfl⟩ (fun _ _ _ h => h) (by kernel_rfl) hHeld ?_ ?_
          rotate_left
          · (intro w0 hSw; (try dsimp only at hSw); go_simp; (try with_reducible rfl))
          (try simp only [Act.put, List.setIfInBounds_toArray, List.set_cons_zero, List.set_cons_succ])
          refine tk 24 (v := ?_) rfl ⟨by kernel_rfl, by kernel_rfl, by kernel_rfl⟩ (fun _ _ _ h => h) (by kernel_rfl) hHeld ?_ ?_
          rotate_left
          · (intro w0 hSw; (try dsimp only at hSw); go_simp; (try with_reducible rfl))
          (try simp only [Act.put, List.setIfInBounds_toArray, List.set_cons_zero, List.set_cons_succ])
          refine tk 25 (v := ?_) rfl ⟨by kernel_rfl, by kernel_rfl, by kernel_rfl⟩ (fun _ _ _ h => h) (by kernel_rfl) hHeld ?_ ?_
          rotate_left
          · (intro w0 hSw; (try dsimp only at hSw); go_simp; (try with_reducible rfl))
          (try simp only [Act.put, List.setIfInBounds_toArray, List.set_cons_zero, List.set_cons_succ])
          refine tk 26 (v := ?_) rfl ⟨by kernel_rfl, by kernel_rfl, by kernel_rfl⟩ (fun _ _ _ h => h) (by kernel_rfl) hHeld ?_ ?_
          rotate_left
          · (intro w0 hSw; (try dsimp only at hSw); go_simp; (try with_reducible rfl))
          (try simp only [Act.put, List.setIfInBounds_toArray, List.set_cons_zero, List.set_cons_succ])
          refine tk 27 (v := ?_) rfl ⟨by kernel_rfl, by kernel_rfl, by kernel_rfl⟩ (fun _ _ _ h => h) (by kernel_rfl) hHeld ?_ ?_
          rotate_left
          · (intro w0 hSw; (try dsimp only at hSw); go_simp; (try with_reducible rfl))
          (try simp only [Act.put, List.setIfInBounds_toArray, List.set_cons_zero, List.set_cons_succ])
          refine tk 28 (v := ?_) rfl ⟨by kernel_rfl, by kernel_rfl, by kernel_rfl⟩ (fun _ _ _ h => h) (by kernel_rfl) hHeld ?_ ?_
          rotate_left
          · (intro w0 hSw; (try dsimp only at hSw); go_simp; (try with_reducible rfl))
          (try simp only [Act.put, List.setIfInBounds_toArray, List.set_cons_zero, List.set_cons_succ])
          refine tk 29 (v := ?_) rfl ⟨by kernel_rfl, by kernel_rfl, by kernel_rfl⟩ (fun _ _ _ h => h) (by kernel_rfl) hHeld ?_ ?_
          rotate_left
          · (intro w0 hSw; (try dsimp only at hSw); go_simp; (try with_reducible rfl))
          (try simp only [Act.put, List.setIfInBounds_toArray, List.set_cons_zero, List.set_cons_succ])
          refine tk 30 (v := ?_) rfl ⟨by kernel_rfl, by kernel_rfl, by kernel_rfl⟩ (fun _ _ _ h => h) (by kernel_rfl) hHeld ?_ ?_
          rotate_left
          · (intro w0 hSw; (try dsimp only at hSw); go_simp; (try with_reducible rfl))
          (try simp only [Act.put, List.setIfInBounds_toArray, List.set_cons_zero, List.set_cons_succ])
          refine tk 31 (v := ?_) rfl ⟨by kernel_rfl, by kernel_rfl, by kernel_rfl⟩ (fun _ _ _ h => h) (by kernel_rfl) hHeld ?_ ?_
          rotate_left
          · (intro w0 hSw; (try dsimp only at hSw); go_simp; (try with_reducible rfl))
          (try simp only [Act.put, List.setIfInBounds_toArray, List.set_cons_zero, List.set_cons_succ])
          refine tk 32 (v := ?_) rfl ⟨by kernel_rfl, by kernel_rfl, by kernel_rfl⟩ (fun _ _ _ h => h) (by kernel_rfl) hHeld ?_ ?_
          rotate_left
          · (intro w0 hSw; (try dsimp only at hSw); go_simp; (try with_reducible rfl))
          (try simp only [Act.put, List.setIfInBounds_toArray, List.set_cons_zero, List.set_cons_succ])
          refine tk 33 (v := ?_) rfl ⟨by kernel_rfl, by kernel_rfl, by kernel_rfl⟩ (fun _ _ _ h => h) (by kernel_rfl) hHeld ?_ ?_
          rotate_left
          · (intro w0 hSw; (try dsimp only at hSw); go_simp; (try with_reducible rfl))
          (try simp only [Act.put, List.setIfInBounds_toArray, List.set_cons_zero, List.set_cons_succ])
          refine wpAnyH_done (by kernel_rfl) ?_ _
          obtain ⟨q4, q5⟩ := hHeld
          go_wp2_with fail
          have w3 : IntKind.i64.wrap ((left : Int) - 4097) = (left : Int) - 4097 := IntWalk.i64_in _ (by clear w1 w2; omega)
          have w4 : IntKind.i64.wrap ((left : Int) - 4097 - (o.p.length : Int)) = (left : Int) - 4097 - (o.p.length : Int) := IntWalk.i64_in _ (by clear w1 w2 w3; omega)
          have w5 : IntKind.i64.wrap ((left : Int) - 4097 - (o.p.length : Int) - (o.s.size : Int)) = (left : Int) - 4097 - (o.p.length : Int) - (o.s.size : Int) := IntWalk.i64_in _ (by clear w1 w2 w3 w4; omega)
          clear w1 w2
          refine wp_region_held_drew (S := (fun w' => w'.cell? ⟨(ad.add (k * 6)).block, (ad.add (k * 6)).off + 4, none⟩ = some (.slice o.A o.p.length o.c) ∧ w'.cell? ⟨(ad.add (k * 6)).block, (ad.add (k * 6)).off + 5, none⟩ = some (.string o.s))) (by kernel_rfl) ?_ (fun hHeld => ?_)
          · (try dsimp only); go_keep
          refine tk 0 (v := ?_) rfl ⟨by kernel_rfl, by kernel_rfl, by kernel_rfl⟩ (fun _ _ _ h => h) (by kernel_rfl) hHeld ?_ ?_
          rotate_left
          · (intro w0 hSw; (try dsimp only at hSw); go_simp; (try with_reducible rfl))
          (try simp only [Act.put, List.setIfInBounds_toArray, List.set_cons_zero, List.set_cons_succ])
          refine tk 1 (v := ?_) rfl ⟨by kernel_rfl, by kernel_rfl, by kernel_rfl⟩ (fun _ _ _ h => h) (by kernel_rfl) hHeld ?_ ?_
          rotate_left
          · (intro w0 hSw; (try dsimp only at hSw); go_simp; (try with_reducible rfl))
          (try simp only [Act.put, List.setIfInBounds_toArray, List.set_cons_zero, List.set_cons_succ])
          refine tk 2 (v := ?_) rfl ⟨by kernel_rfl, by kernel_rfl, by kernel_rfl⟩ (fun _ _ _ h => h) (by kernel_rfl) hHeld ?_ ?_
          rotate_left
          · (intro w0 hSw; (try dsimp only at hSw); go_simp; (try with_reducible rfl))
          (try simp only [Act.put, List.setIfInBounds_toArray, List.set_cons_zero, List.set_cons_succ])
          refine tk 3 (v := ?_) rfl ⟨by kernel_rfl, by kernel_rfl, by kernel_rfl⟩ (fun _ _ _ h => h) (by kernel_rfl) hHeld ?_ ?_
          rotate_left
          · (intro w0 hSw; (try dsimp only at hSw); go_simp; (try with_reducible rfl))
          (try simp only [Act.put, List.setIfInBounds_toArray, List.set_cons_zero, List.set_cons_succ])
          refine tk 4 (v := ?_) rfl ⟨by kernel_rfl, by kernel_rfl, by kernel_rfl⟩ (fun _ _ _ h => h) (by kernel_rfl) hHeld ?_ ?_
          rotate_left
          · (intro w0 hSw; (try dsimp only at hSw); go_simp; (try with_reducible rfl))
          (try simp only [Act.put, List.setIfInBounds_toArray, List.set_cons_zero, List.set_cons_succ])
          refine tk 5 (v := ?_) rfl ⟨by kernel_rfl, by kernel_rfl, by kernel_rfl⟩ (fun _ _ _ h => h) (by kernel_rfl) hHeld ?_ ?_
          rotate_left
          · (intro w0 hSw; (try dsimp only at hSw); go_simp; (try with_reducible rfl))
          (try simp only [Act.put, List.setIfInBounds_toArray, List.set_cons_zero, List.set_cons_succ])
          refine tk 6 (v := ?_) rfl ⟨by kernel_rfl, by kernel_rfl, by kernel_rfl⟩ (fun _ _ _ h => h) (by kernel_rfl) hHeld ?_ ?_
          rotate_left
          · (intro w0 hSw; (try dsimp only at hSw); go_simp; (try with_reducible rfl))
          (try simp only [Act.put, List.setIfInBounds_toArray, List.set_cons_zero, List.set_cons_succ])
          refine tk 7 (v := ?_) rfl ⟨by kernel_rfl, by kernel_rfl, by kernel_rfl⟩ (fun _ _ _ h => h) (by kernel_rfl) hHeld ?_ ?_
          rotate_left
          · (intro w0 hSw; (try dsimp only at hSw); go_simp; (try with_reducible rfl))
          (try simp only [Act.put, List.setIfInBounds_toArray, List.set_cons_zero, List.set_cons_succ])
          refine tk 8 (v := ?_) rfl ⟨by kernel_rfl, by kernel_rfl, by kernel_rfl⟩ (fun _ _ _ h => h) (by kernel_rfl) hHeld ?_ ?_
          rotate_left
          · (intro w0 hSw; (try dsimp only at hSw); go_simp; (try with_reducible rfl))
          (try simp only [Act.put, List.setIfInBounds_toArray, List.set_cons_zero, List.set_cons_succ])
          refine tk 9 (v := ?_) rfl ⟨by kernel_rfl, by kernel_rfl, by kernel_rfl⟩ (fun _ _ _ h => h) (by kernel_rfl) hHeld ?_ ?_
          rotate_left
          · (intro w0 hSw; (try dsimp only at hSw); go_simp; (try with_reducible rfl))
          (try simp only [Act.put, List.setIfInBounds_toArray, List.set_cons_zero, List.set_cons_succ])
          refine tk 10 (v := ?_) rfl ⟨by kernel_rfl, by kernel_rfl, by kernel_rfl⟩ (fun _ _ _ h => h) (by kernel_rfl) hHeld ?_ ?_
          rotate_left
          · (intro w0 hSw; (try dsimp only at hSw); go_simp; (try with_reducible rfl))
          (try simp only [Act.put, List.setIfInBounds_toArray, List.set_cons_zero, List.set_cons_succ])
          refine tk 11 (v := ?_) rfl ⟨by kernel_rfl, by kernel_rfl, by kernel_rfl⟩ (fun _ _ _ h => h) (by kernel_rfl) hHeld ?_ ?_
          rotate_left
          · (intro w0 hSw; (try dsimp only at hSw); go_simp; (try with_reducible rfl))
          (try simp only [Act.put, List.setIfInBounds_toArray, List.set_cons_zero, List.set_cons_succ])
          refine tk 12 (v := ?_) rfl ⟨by kernel_rfl, by kernel_rfl, by kernel_rfl⟩ (fun _ _ _ h => h) (by kernel_rfl) hHeld ?_ ?_
          rotate_left
          · (intro w0 hSw; (try dsimp only at hSw); go_simp; (try with_reducible rfl))
          (try simp only [Act.put, List.setIfInBounds_toArray, List.set_cons_zero, List.set_cons_succ])
          refine tk 13 (v := ?_) rfl ⟨by kernel_rfl, by kernel_rfl, by kernel_rfl⟩ (fun _ _ _ h => h) (by kernel_rfl) hHeld ?_ ?_
          rotate_left
          · (intro w0 hSw; (try dsimp only at hSw); go_simp; (try with_reducible rfl))
          (try simp only [Act.put, List.setIfInBounds_toArray, List.set_cons_zero, List.set_cons_succ])
          refine tk 14 (v := ?_) rfl ⟨by kernel_rfl, by kernel_rfl, by kernel_rfl⟩ (fun _ _ _ h => h) (by kernel_rfl) hHeld ?_ ?_
          rotate_left
          · (intro w0 hSw; (try dsimp only at hSw); go_simp; (try with_reducible rfl))
          (try simp only [Act.put, List.setIfInBounds_toArray, List.set_cons_zero, List.set_cons_succ])
          refine tk 15 (v := ?_) rfl ⟨by kernel_rfl, by kernel_rfl, by kernel_rfl⟩ (fun _ _ _ h => h) (by kernel_rfl) hHeld ?_ ?_
          rotate_left
          · (intro w0 hSw; (try dsimp only at hSw); go_simp; (try with_reducible rfl))
          (try simp only [Act.put, List.setIfInBounds_toArray, List.set_cons_zero, List.set_cons_succ])
          refine tk 16 (v := ?_) rfl ⟨by kernel_rfl, by kernel_rfl, by kernel_rfl⟩ (fun _ _ _ h => h) (by kernel_rfl) hHeld ?_ ?_
          rotate_left
          · (intro w0 hSw; (try dsimp only at hSw); go_simp; (try with_reducible rfl))
          (try simp only [Act.put, List.setIfInBounds_toArray, List.set_cons_zero, List.set_cons_succ])
          refine tk 17 (v := ?_) rfl ⟨by kernel_rfl, by kernel_rfl, by kernel_rfl⟩ (fun _ _ _ h => h) (by kernel_rfl) hHeld ?_ ?_
          rotate_left
          · (intro w0 hSw; (try dsimp only at hSw); go_simp; (try with_reducible rfl))
          (try simp only [Act.put, List.setIfInBounds_toArray, List.set_cons_zero, List.set_cons_succ])
          refine wpAnyH_done (by kernel_rfl) ?_ _
          clear w3 w4 w5 hHeld
          go_wp2_with fail
          go_roundw
          case rel => exact ⟨k + 1, left - (4097 + o.p.length + o.s.size), by omega, by go_num, by go_num, by omega, Lib.hid (by rw [HTS.out]; have := HT.out; omega), below_drewN HB7.out _⟩
          case measure => simp [intOf]; omega
    · obtain rfl : k = m := by omega
      have HL2 := Lib.hid (show total L ≤ 2147483647 by have := HT.out; rw [List.take_of_length_le (by rw [HM.out]; exact Nat.le_refl _)] at this; omega)
      go_wp2
      go_ret
      exact ⟨false, rfl, fun _ => HL2.out, hB⟩
end Go.Proofs.Ythdjddpomaendaa.B
