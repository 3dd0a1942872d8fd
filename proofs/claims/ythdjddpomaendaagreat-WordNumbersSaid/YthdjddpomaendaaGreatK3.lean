/- The walk of Stays. Printed by gen_stays.py. -/
import Derived.Test.YthdjddpomaendaaGreatK1
namespace Go.Proofs.YthdjddpomaendaaGreat.B
open Go.RowKit
set_option linter.unusedVariables false
set_option linter.unusedSimpArgs false

theorem row_one {w : World} {base : Nat} {t : TypeId} {A : Option Addr} {n c : Nat} {L : List (List Value)} (h : Row w base t 1 (.slice A n c) L) (i : Nat) (v : Value) (hi : L[i]? = some [v]) : ∃ ad, A = some ad ∧ w.cell? (ad.add i) = some v := by
  obtain ⟨ad, rfl, _, hc⟩ := h.cell i [v] hi
  refine ⟨ad, rfl, ?_⟩
  have := hc 0 v rfl
  simpa using this
theorem lsc_get {I : List Kp} {k : Nat} {i : Kp} (h : I[k]? = some i) : (lsc I)[k]? = some [i.l] := by simp [lsc, h]
theorem wsc_get {I : List Kp} {k : Nat} {i : Kp} (h : I[k]? = some i) : (wsc I)[k]? = some [i.was] := by simp [wsc, h]

set_option maxHeartbeats 6400000 in
set_option maxRecDepth 100000 in
theorem stays_ (base g o : Nat) (t : TypeId) (pre post : List Value) (vl vw : Value) (I : List Kp) (n : Int) (w : World) (hC : BookC w base g o t pre post vl vw (lsc I) (wsc I) n) (hI : KpsOk w base I) :
    Calls Tryz.prog 83 #[.pointer (some ⟨g, o, none⟩)] w fun r w' => r = .returned (.bool true) ∧ BookC w' base g o t pre post vl vw (lsc I) (wsc I) n ∧ KpsOk w' base I ∧ Fr (bookS w base g) w w' := by
  obtain ⟨Al, cl, hvl, hcl⟩ := hC.rl.shape
  obtain ⟨Aw, cw, hvw, hcw⟩ := hC.rw_.shape
  have hmx := hC.rl.max
  rw [lsc_length] at hvl hcl hmx
  rw [wsc_length] at hvw hcw
  obtain ⟨m, hm⟩ : ∃ m, I.length = m := ⟨_, rfl⟩
  have HM := Lib.hid hm
  rw [hm] at hvl hvw hcl hcw hmx
  subst hvl hvw
  clear hm
  have HB0 := Lib.hid (And.intro hC (And.intro hI (Fr.refl (bookS w base g) w)))
  clear hC hI
  go_enter Tryz.func83, Tryz.ntmps83
  go_wp2_with fail
  go_loopw [3] (fun i wr => ∃ k : Nat, k ≤ m ∧ i = .int .i64 (k : Int) ∧ Hid (BookC wr base g o t pre post (.slice Al m cl) (.slice Aw m cw) (lsc I) (wsc I) n ∧ KpsOk wr base I ∧ Fr (bookS w base g) w wr)) (fun i _ => m - (intOf i).toNat)
  case atStart => exact ⟨0, Nat.zero_le _, rfl, HB0⟩
  case round =>
    clear HB0
    obtain ⟨k, hk, rfl, HB⟩ := hrel
    obtain ⟨k0, k1, k2, k3, f0, f1, f2, f3⟩ := HB.out.1.get
    by_cases hlt : k < m
    · obtain ⟨i0, hi0⟩ : ∃ i0, I[k]? = some i0 := ⟨_, List.getElem?_eq_getElem (by rw [HM.out]; exact hlt)⟩
      obtain ⟨al, hal, m0⟩ := row_one HB.out.1.rl k i0.l (lsc_get hi0)
      obtain ⟨aw, haw, m1⟩ := row_one HB.out.1.rw_ k i0.was (wsc_get hi0)
      subst hal haw
      change wr.cell? (al.add k) = some (.slice i0.A i0.xs.length i0.c) at m0
      change wr.cell? (aw.add k) = some (.slice i0.A2 i0.xs.length i0.c2) at m1
      have HS0 := Lib.hid (HB.out.2.1.own i0 (List.mem_of_getElem? hi0))
      have p0 : (0 : Int) ≤ (k : Int) := by omega
      have p1 : (k : Int) < (m : Int) := by omega
      clear hi0
      go_wp2_with fail
      refine region_last (S := (fun w' => w'.cell? ⟨g, o + 3, none⟩ = some (.bool false) ∧ w'.cell? ⟨g, o, none⟩ = some (.slice (some al) m cl) ∧ w'.cell? ⟨g, o + 1, none⟩ = some (.slice (some aw) m cw) ∧ w'.cell? (al.add k) = some (.slice i0.A i0.xs.length i0.c) ∧ w'.cell? (aw.add k) = some (.slice i0.A2 i0.xs.length i0.c2))) (ds := [25]) (by kernel_rfl) ?_ (fun hHeld => ?_)
      · (try dsimp only); go_keep
      refine lk 0 (v := ?_) rfl (by kernel_rfl) (fun _ _ _ h => h) (by kernel_rfl) hHeld ?_ ?_
      rotate_left
      · (intro w0 hSw; (try dsimp only at hSw); go_simp; (try with_reducible rfl))
      (try simp only [Act.put, List.setIfInBounds_toArray, List.set_cons_zero, List.set_cons_succ])
      refine lk 1 (v := ?_) rfl (by kernel_rfl) (fun _ _ _ h => h) (by kernel_rfl) hHeld ?_ ?_
      rotate_left
      · (intro w0 hSw; (try dsimp only at hSw); go_simp; (try with_reducible rfl))
      (try simp only [Act.put, List.setIfInBounds_toArray, List.set_cons_zero, List.set_cons_succ])
      refine lk 2 (v := ?_) rfl (by kernel_rfl) (fun _ _ _ h => h) (by kernel_rfl) hHeld ?_ ?_
      rotate_left
      · (intro w0 hSw; (try dsimp only at hSw); go_simp; (try with_reducible rfl))
      (try simp only [Act.put, List.setIfInBounds_toArray, List.set_cons_zero, List.set_cons_succ])
      refine lk 3 (v := ?_) rfl (by kernel_rfl) (fun _ _ _ h => h) (by kernel_rfl) hHeld ?_ ?_
      rotate_left
      · (intro w0 hSw; (try dsimp only at hSw); go_simp; (try with_reducible rfl))
      (try simp only [Act.put, List.setIfInBounds_toArray, List.set_cons_zero, List.set_cons_succ])
      refine lk 4 (v := ?_) rfl (by kernel_rfl) (fun _ _ _ h => h) (by kernel_rfl) hHeld ?_ ?_
      rotate_left
      · (intro w0 hSw; (try dsimp only at hSw); go_simp; (try with_reducible rfl))
      (try simp only [Act.put, List.setIfInBounds_toArray, List.set_cons_zero, List.set_cons_succ])
      refine lk 5 (v := ?_) rfl (by kernel_rfl) (fun _ _ _ h => h) (by kernel_rfl) hHeld ?_ ?_
      rotate_left
      · (intro w0 hSw; (try dsimp only at hSw); go_simp; (try with_reducible rfl))
      (try simp only [Act.put, List.setIfInBounds_toArray, List.set_cons_zero, List.set_cons_succ])
      refine lk 6 (v := ?_) rfl (by kernel_rfl) (fun _ _ _ h => h) (by kernel_rfl) hHeld ?_ ?_
      rotate_left
      · (intro w0 hSw; (try dsimp only at hSw); go_simp; (try with_reducible rfl))
      (try simp only [Act.put, List.setIfInBounds_toArray, List.set_cons_zero, List.set_cons_succ])
      refine lk 7 (v := ?_) rfl (by kernel_rfl) (fun _ _ _ h => h) (by kernel_rfl) hHeld ?_ ?_
      rotate_left
      · (intro w0 hSw; (try dsimp only at hSw); go_simp; (try with_reducible rfl))
      (try simp only [Act.put, List.setIfInBounds_toArray, List.set_cons_zero, List.set_cons_succ])
      refine lk 8 (v := ?_) rfl (by kernel_rfl) (fun _ _ _ h => h) (by kernel_rfl) hHeld ?_ ?_
      rotate_left
      · (intro w0 hSw; (try dsimp only at hSw); go_simp; (try with_reducible rfl))
      (try simp only [Act.put, List.setIfInBounds_toArray, List.set_cons_zero, List.set_cons_succ])
      refine lk 9 (v := ?_) rfl (by kernel_rfl) (fun _ _ _ h => h) (by kernel_rfl) hHeld ?_ ?_
      rotate_left
      · (intro w0 hSw; (try dsimp only at hSw); go_simp; (try with_reducible rfl))
      (try simp only [Act.put, List.setIfInBounds_toArray, List.set_cons_zero, List.set_cons_succ])
      refine lk 10 (v := ?_) rfl (by kernel_rfl) (fun _ _ _ h => h) (by kernel_rfl) hHeld ?_ ?_
      rotate_left
      · (intro w0 hSw; (try dsimp only at hSw); go_simp; (try with_reducible rfl))
      (try simp only [Act.put, List.setIfInBounds_toArray, List.set_cons_zero, List.set_cons_succ])
      refine lk 11 (v := ?_) rfl (by kernel_rfl) (fun _ _ _ h => h) (by kernel_rfl) hHeld ?_ ?_
      rotate_left
      · (intro w0 hSw; (try dsimp only at hSw); go_simp; (try with_reducible rfl))
      (try simp only [Act.put, List.setIfInBounds_toArray, List.set_cons_zero, List.set_cons_succ])
      refine lk 12 (v := ?_) rfl (by kernel_rfl) (fun _ _ _ h => h) (by kernel_rfl) hHeld ?_ ?_
      rotate_left
      · (intro w0 hSw; (try dsimp only at hSw); go_simp; (try with_reducible rfl))
      (try simp only [Act.put, List.setIfInBounds_toArray, List.set_cons_zero, List.set_cons_succ])
      refine lk 13 (v := ?_) rfl (by kernel_rfl) (fun _ _ _ h => h) (by kernel_rfl) hHeld ?_ ?_
      rotate_left
      · (intro w0 hSw; (try dsimp only at hSw); go_simp; (try with_reducible rfl))
      (try simp only [Act.put, List.setIfInBounds_toArray, List.set_cons_zero, List.set_cons_succ])
      refine lk 14 (v := ?_) rfl (by kernel_rfl) (fun _ _ _ h => h) (by kernel_rfl) hHeld ?_ ?_
      rotate_left
      · (intro w0 hSw; (try dsimp only at hSw); go_simp; (try with_reducible rfl))
      (try simp only [Act.put, List.setIfInBounds_toArray, List.set_cons_zero, List.set_cons_succ])
      refine lk 15 (v := ?_) rfl (by kernel_rfl) (fun _ _ _ h => h) (by kernel_rfl) hHeld ?_ ?_
      rotate_left
      · (intro w0 hSw; (try dsimp only at hSw); go_simp; (try with_reducible rfl))
      (try simp only [Act.put, List.setIfInBounds_toArray, List.set_cons_zero, List.set_cons_succ])
      refine lk 16 (v := ?_) rfl (by kernel_rfl) (fun _ _ _ h => h) (by kernel_rfl) hHeld ?_ ?_
      rotate_left
      · (intro w0 hSw; (try dsimp only at hSw); go_simp; (try with_reducible rfl))
      (try simp only [Act.put, List.setIfInBounds_toArray, List.set_cons_zero, List.set_cons_succ])
      refine lk 17 (v := ?_) rfl (by kernel_rfl) (fun _ _ _ h => h) (by kernel_rfl) hHeld ?_ ?_
      rotate_left
      · (intro w0 hSw; (try dsimp only at hSw); go_simp; (try with_reducible rfl))
      (try simp only [Act.put, List.setIfInBounds_toArray, List.set_cons_zero, List.set_cons_succ])
      refine lk 18 (v := ?_) rfl (by kernel_rfl) (fun _ _ _ h => h) (by kernel_rfl) hHeld ?_ ?_
      rotate_left
      · (intro w0 hSw; (try dsimp only at hSw); go_simp; (try with_reducible rfl))
      (try simp only [Act.put, List.setIfInBounds_toArray, List.set_cons_zero, List.set_cons_succ])
      refine lk 19 (v := ?_) rfl (by kernel_rfl) (fun _ _ _ h => h) (by kernel_rfl) hHeld ?_ ?_
      rotate_left
      · (intro w0 hSw; (try dsimp only at hSw); go_simp; (try with_reducible rfl))
      (try simp only [Act.put, List.setIfInBounds_toArray, List.set_cons_zero, List.set_cons_succ])
      refine lr 20 rfl (by kernel_rfl) (by decide) (fun K hK => ?_)
      (refine goes Tryz.func24 (by kernel_rfl) rfl #[.slice i0.A i0.xs.length i0.c, .slice i0.A2 i0.xs.length i0.c2] rfl rfl (by simp only [List.map_toArray, List.map_cons, List.map_nil]; rfl) ?_; refine (same i0.A i0.A2 i0.xs.length i0.c i0.xs.length i0.c2 i0.xs i0.xs _ (show Rd wr.drew i0.A i0.xs.length (bvs i0.xs) from Own.rd_ HS0.out.1) (show Rd wr.drew i0.A2 i0.xs.length (bvs i0.xs) from Own.rd_ HS0.out.2.1)).mono ?_; rintro r wS ⟨rfl, ⟨nS, rfl⟩⟩; refine ⟨_, rfl, ?_⟩; rw [decide_eq_true rfl])
      clear hHeld
      refine hK.out _ _ ?_ (fun hHeld => ?_)
      · (try dsimp only); go_keep
      clear hK K
      (try simp only [Act.put, List.setIfInBounds_toArray, List.set_cons_zero, List.set_cons_succ])
      refine lk 21 (v := ?_) rfl (by kernel_rfl) (fun _ _ _ h => h) (by kernel_rfl) hHeld ?_ ?_
      rotate_left
      · (intro w0 hSw; (try dsimp only at hSw); go_simp; (try with_reducible rfl))
      (try simp only [Act.put, List.setIfInBounds_toArray, List.set_cons_zero, List.set_cons_succ])
      refine lk 22 (v := ?_) rfl (by kernel_rfl) (fun _ _ _ h => h) (by kernel_rfl) hHeld ?_ ?_
      rotate_left
      · (intro w0 hSw; (try dsimp only at hSw); go_simp; (try with_reducible rfl))
      (try simp only [Act.put, List.setIfInBounds_toArray, List.set_cons_zero, List.set_cons_succ])
      refine lk 23 (v := ?_) rfl (by kernel_rfl) (fun _ _ _ h => h) (by kernel_rfl) hHeld ?_ ?_
      rotate_left
      · (intro w0 hSw; (try dsimp only at hSw); go_simp; (try with_reducible rfl))
      (try simp only [Act.put, List.setIfInBounds_toArray, List.set_cons_zero, List.set_cons_succ])
      refine lk 24 (v := ?_) rfl (by kernel_rfl) (fun _ _ _ h => h) (by kernel_rfl) hHeld ?_ ?_
      rotate_left
      · (intro w0 hSw; (try dsimp only at hSw); go_simp; (try with_reducible rfl))
      (try simp only [Act.put, List.setIfInBounds_toArray, List.set_cons_zero, List.set_cons_succ])
      refine ll 25 rfl (by kernel_rfl) (by decide) (fun K hK => ?_)
      go_simp
      (try clear hHeld)
      refine hK.out _ _ ?_
      clear hK K
      (try simp only [Act.put, List.setIfInBounds_toArray, List.set_cons_zero, List.set_cons_succ])
      refine last_done (by kernel_rfl) ?_ _
      have hX4 := (HB.out.1.below (below_drewN (Below.refl _ wr) (1 + nS))).set_b
      have hF4 := (Fr.of_below (below_drewN (Below.refl _ wr) (1 + nS)) (bookS wr base g)).book hX4.2
      have HX4 := Lib.hid (And.intro hX4.1 (And.intro (HB.out.2.1.fr hF4 (HB.out.2.1.ne_book HB.out.1)) (HB.out.2.2.book hF4)))
      clear hX4 hF4 k0 k1 k2 k3 f0 f1 f2 f3 m0 m1
      go_wp2_with fail
      go_roundw
      case rel => exact ⟨k + 1, by omega, by go_num, HX4⟩
      case measure => simp [intOf]; omega
    · obtain rfl : k = m := by omega
      go_wp2_with fail
      go_ret
      exact ⟨rfl, HB.out⟩
end Go.Proofs.YthdjddpomaendaaGreat.B
