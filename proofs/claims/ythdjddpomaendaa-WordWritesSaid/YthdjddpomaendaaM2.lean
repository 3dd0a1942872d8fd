/- The walk of tells. Printed by gen_tells.py. -/
import Derived.Test.YthdjddpomaendaaM1
import Derived.Test.YthdjddpomaendaaH
namespace Go.Proofs.Ythdjddpomaendaa.B
open Go.RowKit
set_option linter.unusedVariables false
set_option linter.unusedSimpArgs false

theorem ptr_at {w : World} {base m c : Nat} {t : TypeId} {a : Addr} {L : List (List Value)} {i : Nat} {v : Value} (h : Row w base t 1 (.slice (some a) m c) L) (hi : L[i]? = some [v]) : w.cell? (a.add i) = some v := by
  obtain ⟨ad, e, hc⟩ := row_one h i v hi
  injection e with e
  subst e
  exact hc
theorem wpc_get {P : List Wp} {i : Nat} {p : Wp} (h : P[i]? = some p) : (wpc P)[i]? = some [.pointer (some ⟨p.g, 0, none⟩)] := by simp [wpc, h]
theorem vpc_get {P : List Wp} {i : Nat} {p : Wp} (h : P[i]? = some p) : (vpc P)[i]? = some [.pointer (some ⟨p.gv, 0, none⟩)] := by simp [vpc, h]
/-- The two rows begin somewhere. -/
theorem RowC.shape {w : World} {base gx : Nat} {vws vis vl vw : Value} {n : Int} {P : List Wp} {I : List Kp} (h : RowC w base gx vws vis vl vw n (wpc P) (vpc P) P I) (hP : P ≠ []) :
    ∃ aw cw av cv, vws = .slice (some aw) P.length cw ∧ vis = .slice (some av) P.length cv := by
  obtain ⟨A, c, e, _⟩ := h.rw_.shape
  obtain ⟨A2, c2, e2, _⟩ := h.rv.shape
  subst e e2
  obtain ⟨p, hp⟩ : ∃ p, P[0]? = some p := by
    cases P with
    | nil => exact absurd rfl hP
    | cons p r => exact ⟨p, rfl⟩
  obtain ⟨ad, rfl, _⟩ := row_one h.rw_ 0 _ (wpc_get hp)
  obtain ⟨ad2, rfl, _⟩ := row_one h.rv 0 _ (vpc_get hp)
  exact ⟨ad, c, ad2, c2, by rw [wpc_length], by rw [vpc_length]⟩

/-- What the walk reads of the state, at one pair. -/
structure Seen (w : World) (gx : Nat) (aw av : Addr) (m cw cv i : Nat) (p : Wp) (A : Option Addr) (c : Nat) : Prop where
  ws : w.cell? ⟨gx, 0, none⟩ = some (.slice (some aw) m cw)
  vs : w.cell? ⟨gx, 1, none⟩ = some (.slice (some av) m cv)
  wi : w.cell? (aw.add i) = some (.pointer (some ⟨p.g, 0, none⟩))
  vi : w.cell? (av.add i) = some (.pointer (some ⟨p.gv, 0, none⟩))
  vb : w.cell? ⟨p.gv, 0, none⟩ = some (.slice A p.bs.length c)
  ve : w.cell? ⟨p.gv, 1, none⟩ = some (.int .i64 p.e)
  rd : Rd w A p.bs.length (bvs p.bs)
theorem RowC.seen {w : World} {base gx m cw cv i : Nat} {aw av : Addr} {vl vw : Value} {n : Int} {W V : List (List Value)} {P : List Wp} {I : List Kp} {p : Wp} (h : RowC w base gx (.slice (some aw) m cw) (.slice (some av) m cv) vl vw n (wpc P) (vpc P) P I) (hi : P[i]? = some p) :
    ∃ A c, Seen w gx aw av m cw cv i p A c := by
  obtain ⟨A, c, _, _, hk, ho⟩ := (h.ok p (List.mem_of_getElem? hi)).hv
  exact ⟨A, c, h.blk.cell 0 _ rfl, h.blk.cell 1 _ rfl, ptr_at h.rw_ (wpc_get hi), ptr_at h.rv (vpc_get hi), hk.cell 0 _ rfl, hk.cell 1 _ rfl, ho.rd_⟩

set_option maxHeartbeats 6400000 in
set_option maxRecDepth 100000 in
theorem tells_ (base gx : Nat) (vws vis vl vw : Value) (n : Int) (P : List Wp) (I : List Kp) (i : Nat) (p : Wp) (w : World) (hR : RowC w base gx vws vis vl vw n (wpc P) (vpc P) P I) (hi : P[i]? = some p) (hl : p.bs.length ≤ 140737488351232) :
    Calls Try.prog 28 #[.pointer (some ⟨gx, 0, none⟩), .int .i64 (i : Int)] w fun r w' => r = .returned (.bool true) ∧ ∃ vl' vw' n' I', RowC w' base gx vws vis vl' vw' n' (wpc P) (vpc P) P I' ∧ Below base w w' := by
  obtain ⟨aw, cw, av, cv, rfl, rfl⟩ := hR.shape (by rintro rfl; simp at hi)
  have hmx := hR.rw_.max
  rw [wpc_length] at hmx
  have p0 : (0 : Int) ≤ (i : Int) := by omega
  have p1 : (i : Int) < (P.length : Int) := by have := (List.getElem?_eq_some_iff.1 hi).1; omega
  obtain ⟨m, hm⟩ : ∃ m, P.length = m := ⟨_, rfl⟩
  rw [hm] at hR p1 hmx ⊢
  clear hm
  have HI := Lib.hid hi
  have HB0 := Lib.hid (And.intro hR (Below.refl base w))
  clear hR hi
  go_enter Try.func28, Try.ntmps28
  go_wp2_with fail
  go_loopw [5] (fun j wr => ∃ (k : Nat) (vl vw : Value) (n : Int) (I : List Kp), k ≤ 2 ∧ j = .int .i64 (k : Int) ∧ Hid (RowC wr base gx (.slice (some aw) m cw) (.slice (some av) m cv) vl vw n (wpc P) (vpc P) P I ∧ Below base w wr)) (fun j _ => 2 - (intOf j).toNat)
  case atStart => exact ⟨0, _, _, _, _, by omega, rfl, HB0⟩
  case round =>
    clear HB0
    obtain ⟨k, vl1, vw1, n1, I1, hk, rfl, HB⟩ := hrel
    by_cases hlt : k < 2
    · obtain ⟨A0, c0, hs⟩ := HB.out.1.seen (W := []) (V := []) HI.out
      have e0 := hs.ws
      have e1 := hs.wi
      clear hs
      go_wp2_with fail
      refine (wAll base p.g p.vb p.bs p.e _ (HB.out.1.ok p (List.mem_of_getElem? HI.out)).hw (by omega)).mono ?_
      rintro r w1 ⟨A9, c9, rfl, hO9, hb9⟩
      clear e0 e1
      have hR1 := HB.out.1.below hb9
      have HR1 : Hid (RowC w1.drew base gx (.slice (some aw) m cw) (.slice (some av) m cv) vl1 vw1 n1 (wpc P) (vpc P) P I1) := Lib.hid (hR1.below (below_drewN (Below.refl _ w1) 1))
      obtain ⟨A2, c2, hs⟩ := hR1.seen (W := []) (V := []) HI.out
      have e0 := hs.ws
      have e1 := hs.vs
      have e2 := hs.wi
      have e3 := hs.vi
      have e4 := hs.vb
      have e5 := hs.ve
      have HRa : Hid (Rd w1.drew A9 p.bs.length (bvs p.bs)) := Lib.hid hO9.rd_
      have HRb : Hid (Rd w1.drew A2 p.bs.length (bvs p.bs)) := Lib.hid hs.rd
      have HO9 : Hid (Own w1.drew base (.slice A9 p.bs.length c9) p.bs ∧ ∀ b, (Value.slice A9 p.bs.length c9).ownBlock = some b → wr.heap.size ≤ b) := Lib.hid ⟨(hO9.mono (by have := HB.out.1.lt; omega)).below (below_drewN (Below.refl _ w1) 1), fun b hb => (hO9.base_le b hb).1⟩
      have HB9 := Lib.hid hb9
      clear hs hR1 hO9 hb9
      go_wp2_with fail
      refine wp_region_held_drew (S := (fun w' => (Rd w' A9 p.bs.length (bvs p.bs) ∧ Rd w' A2 p.bs.length (bvs p.bs)) ∧ w'.cell? ⟨gx, 0, none⟩ = some (.slice (some aw) m cw) ∧ w'.cell? ⟨gx, 1, none⟩ = some (.slice (some av) m cv) ∧ w'.cell? (aw.add i) = some (.pointer (some ⟨p.g, 0, none⟩)) ∧ w'.cell? (av.add i) = some (.pointer (some ⟨p.gv, 0, none⟩)) ∧ w'.cell? ⟨p.gv, 0, none⟩ = some (.slice A2 p.bs.length c2) ∧ w'.cell? ⟨p.gv, 1, none⟩ = some (.int .i64 p.e))) (by kernel_rfl) ?_ (fun hHeld => ?_)
      · (try dsimp only); (refine ⟨⟨HRa.out, HRb.out⟩, ?_⟩; go_keep)
      refine tk 0 (v := ?_) rfl ⟨by kernel_rfl, by kernel_rfl, by kernel_rfl⟩ (fun _ _ _ h => h) (by kernel_rfl) hHeld ?_ ?_
      rotate_left
      · (intro w0 hSw; (try dsimp only at hSw); go_simp; (try with_reducible rfl))
      (try simp only [Act.put, List.setIfInBounds_toArray, List.set_cons_zero, List.set_cons_succ])
      refine tk 1 (v := ?_) rfl ⟨by kernel_rfl, by kernel_rfl, by kernel_rfl⟩ (fun _ _ _ h => h) (by kernel_rfl) hHeld ?_ ?_
      rotate_left
      · (intro w0 hSw; (try dsimp only at hSw); have kc := conv_string (c := c9) hSw.1.1; go_simp; (try with_reducible rfl))
      (try simp only [Act.put, List.setIfInBounds_toArray, List.set_cons_zero, List.set_cons_succ])
      refine tk 2 (v := ?_) rfl ⟨by kernel_rfl, by kernel_rfl, by kernel_rfl⟩ (fun _ _ _ h => h) (by kernel_rfl) hHeld ?_ ?_
      rotate_left
      · (intro w0 hSw; (try dsimp only at hSw); go_simp; (try with_reducible rfl))
      (try simp only [Act.put, List.setIfInBounds_toArray, List.set_cons_zero, List.set_cons_succ])
      refine tk 3 (v := ?_) rfl ⟨by kernel_rfl, by kernel_rfl, by kernel_rfl⟩ (fun _ _ _ h => h) (by kernel_rfl) hHeld ?_ ?_
      rotate_left
      · (intro w0 hSw; (try dsimp only at hSw); go_simp; (try with_reducible rfl))
      (try simp only [Act.put, List.setIfInBounds_toArray, List.set_cons_zero, List.set_cons_succ])
      refine tk 4 (v := ?_) rfl ⟨by kernel_rfl, by kernel_rfl, by kernel_rfl⟩ (fun _ _ _ h => h) (by kernel_rfl) hHeld ?_ ?_
      rotate_left
      · (intro w0 hSw; (try dsimp only at hSw); go_simp; (try with_reducible rfl))
      (try simp only [Act.put, List.setIfInBounds_toArray, List.set_cons_zero, List.set_cons_succ])
      refine tk 5 (v := ?_) rfl ⟨by kernel_rfl, by kernel_rfl, by kernel_rfl⟩ (fun _ _ _ h => h) (by kernel_rfl) hHeld ?_ ?_
      rotate_left
      · (intro w0 hSw; (try dsimp only at hSw); go_simp; (try with_reducible rfl))
      (try simp only [Act.put, List.setIfInBounds_toArray, List.set_cons_zero, List.set_cons_succ])
      refine tk 6 (v := ?_) rfl ⟨by kernel_rfl, by kernel_rfl, by kernel_rfl⟩ (fun _ _ _ h => h) (by kernel_rfl) hHeld ?_ ?_
      rotate_left
      · (intro w0 hSw; (try dsimp only at hSw); go_simp; (try with_reducible rfl))
      (try simp only [Act.put, List.setIfInBounds_toArray, List.set_cons_zero, List.set_cons_succ])
      refine tk 7 (v := ?_) rfl ⟨by kernel_rfl, by kernel_rfl, by kernel_rfl⟩ (fun _ _ _ h => h) (by kernel_rfl) hHeld ?_ ?_
      rotate_left
      · (intro w0 hSw; (try dsimp only at hSw); go_simp; (try with_reducible rfl))
      (try simp only [Act.put, List.setIfInBounds_toArray, List.set_cons_zero, List.set_cons_succ])
      refine tk 8 (v := ?_) rfl ⟨by kernel_rfl, by kernel_rfl, by kernel_rfl⟩ (fun _ _ _ h => h) (by kernel_rfl) hHeld ?_ ?_
      rotate_left
      · (intro w0 hSw; (try dsimp only at hSw); go_simp; (try with_reducible rfl))
      (try simp only [Act.put, List.setIfInBounds_toArray, List.set_cons_zero, List.set_cons_succ])
      refine tk 9 (v := ?_) rfl ⟨by kernel_rfl, by kernel_rfl, by kernel_rfl⟩ (fun _ _ _ h => h) (by kernel_rfl) hHeld ?_ ?_
      rotate_left
      · (intro w0 hSw; (try dsimp only at hSw); go_simp; (try with_reducible rfl))
      (try simp only [Act.put, List.setIfInBounds_toArray, List.set_cons_zero, List.set_cons_succ])
      refine tk 10 (v := ?_) rfl ⟨by kernel_rfl, by kernel_rfl, by kernel_rfl⟩ (fun _ _ _ h => h) (by kernel_rfl) hHeld ?_ ?_
      rotate_left
      · (intro w0 hSw; (try dsimp only at hSw); go_simp; (try with_reducible rfl))
      (try simp only [Act.put, List.setIfInBounds_toArray, List.set_cons_zero, List.set_cons_succ])
      refine tk 11 (v := ?_) rfl ⟨by kernel_rfl, by kernel_rfl, by kernel_rfl⟩ (fun _ _ _ h => h) (by kernel_rfl) hHeld ?_ ?_
      rotate_left
      · (intro w0 hSw; (try dsimp only at hSw); go_simp; (try with_reducible rfl))
      (try simp only [Act.put, List.setIfInBounds_toArray, List.set_cons_zero, List.set_cons_succ])
      refine tk 12 (v := ?_) rfl ⟨by kernel_rfl, by kernel_rfl, by kernel_rfl⟩ (fun _ _ _ h => h) (by kernel_rfl) hHeld ?_ ?_
      rotate_left
      · (intro w0 hSw; (try dsimp only at hSw); have kc := conv_string (c := c2) hSw.1.2; go_simp; (try with_reducible rfl))
      (try simp only [Act.put, List.setIfInBounds_toArray, List.set_cons_zero, List.set_cons_succ])
      refine tk 13 (v := ?_) rfl ⟨by kernel_rfl, by kernel_rfl, by kernel_rfl⟩ (fun _ _ _ h => h) (by kernel_rfl) hHeld ?_ ?_
      rotate_left
      · (intro w0 hSw; (try dsimp only at hSw); go_simp; (try with_reducible rfl))
      (try simp only [Act.put, List.setIfInBounds_toArray, List.set_cons_zero, List.set_cons_succ])
      refine tk 14 (v := ?_) rfl ⟨by kernel_rfl, by kernel_rfl, by kernel_rfl⟩ (fun _ _ _ h => h) (by kernel_rfl) hHeld ?_ ?_
      rotate_left
      · (intro w0 hSw; (try dsimp only at hSw); go_simp; (try with_reducible rfl))
      (try simp only [Act.put, List.setIfInBounds_toArray, List.set_cons_zero, List.set_cons_succ])
      refine tk 15 (v := ?_) rfl ⟨by kernel_rfl, by kernel_rfl, by kernel_rfl⟩ (fun _ _ _ h => h) (by kernel_rfl) hHeld ?_ ?_
      rotate_left
      · (intro w0 hSw; (try dsimp only at hSw); go_simp; (try with_reducible rfl))
      (try simp only [Act.put, List.setIfInBounds_toArray, List.set_cons_zero, List.set_cons_succ])
      refine tk 16 (v := ?_) rfl ⟨by kernel_rfl, by kernel_rfl, by kernel_rfl⟩ (fun _ _ _ h => h) (by kernel_rfl) hHeld ?_ ?_
      rotate_left
      · (intro w0 hSw; (try dsimp only at hSw); go_simp; (try with_reducible rfl))
      (try simp only [Act.put, List.setIfInBounds_toArray, List.set_cons_zero, List.set_cons_succ])
      refine tk 17 (v := ?_) rfl ⟨by kernel_rfl, by kernel_rfl, by kernel_rfl⟩ (fun _ _ _ h => h) (by kernel_rfl) hHeld ?_ ?_
      rotate_left
      · (intro w0 hSw; (try dsimp only at hSw); go_simp; (try with_reducible rfl))
      (try simp only [Act.put, List.setIfInBounds_toArray, List.set_cons_zero, List.set_cons_succ])
      refine tk 18 (v := ?_) rfl ⟨by kernel_rfl, by kernel_rfl, by kernel_rfl⟩ (fun _ _ _ h => h) (by kernel_rfl) hHeld ?_ ?_
      rotate_left
      · (intro w0 hSw; (try dsimp only at hSw); go_simp; (try with_reducible rfl))
      (try simp only [Act.put, List.setIfInBounds_toArray, List.set_cons_zero, List.set_cons_succ])
      refine tk 19 (v := ?_) rfl ⟨by kernel_rfl, by kernel_rfl, by kernel_rfl⟩ (fun _ _ _ h => h) (by kernel_rfl) hHeld ?_ ?_
      rotate_left
      · (intro w0 hSw; (try dsimp only at hSw); go_simp; (try with_reducible rfl))
      (try simp only [Act.put, List.setIfInBounds_toArray, List.set_cons_zero, List.set_cons_succ])
      refine tk 20 (v := ?_) rfl ⟨by kernel_rfl, by kernel_rfl, by kernel_rfl⟩ (fun _ _ _ h => h) (by kernel_rfl) hHeld ?_ ?_
      rotate_left
      · (intro w0 hSw; (try dsimp only at hSw); go_simp; (try with_reducible rfl))
      (try simp only [Act.put, List.setIfInBounds_toArray, List.set_cons_zero, List.set_cons_succ])
      refine tk 21 (v := ?_) rfl ⟨by kernel_rfl, by kernel_rfl, by kernel_rfl⟩ (fun _ _ _ h => h) (by kernel_rfl) hHeld ?_ ?_
      rotate_left
      · (intro w0 hSw; (try dsimp only at hSw); go_simp; (try with_reducible rfl))
      (try simp only [Act.put, List.setIfInBounds_toArray, List.set_cons_zero, List.set_cons_succ])
      refine tk 23 (v := ?_) rfl ⟨by kernel_rfl, by kernel_rfl, by kernel_rfl⟩ (fun _ _ _ h => h) (by kernel_rfl) hHeld ?_ ?_
      rotate_left
      · (intro w0 hSw; (try dsimp only at hSw); go_simp; (try with_reducible rfl))
      (try simp only [Act.put, List.setIfInBounds_toArray, List.set_cons_zero, List.set_cons_succ])
      refine tk 24 (v := ?_) rfl ⟨by kernel_rfl, by kernel_rfl, by kernel_rfl⟩ (fun _ _ _ h => h) (by kernel_rfl) hHeld ?_ ?_
      rotate_left
      · (intro w0 hSw; (try dsimp only at hSw); go_simp; (try with_reducible rfl))
      (try simp only [Act.put, List.setIfInBounds_toArray, List.set_cons_zero, List.set_cons_succ])
      refine tk 25 (v := ?_) rfl ⟨by kernel_rfl, by kernel_rfl, by kernel_rfl⟩ (fun _ _ _ h => h) (by kernel_rfl) hHeld ?_ ?_
      rotate_left
      · (intro w0 hSw; (try dsimp only at hSw); go_simp; (try with_reducible rfl))
      (try simp only [Act.put, List.setIfInBounds_toArray, List.set_cons_zero, List.set_cons_succ])
      refine tk 26 (v := ?_) rfl ⟨by kernel_rfl, by kernel_rfl, by kernel_rfl⟩ (fun _ _ _ h => h) (by kernel_rfl) hHeld ?_ ?_
      rotate_left
      · (intro w0 hSw; (try dsimp only at hSw); go_simp; (try with_reducible rfl))
      (try simp only [Act.put, List.setIfInBounds_toArray, List.set_cons_zero, List.set_cons_succ])
      refine tk 27 (v := ?_) rfl ⟨by kernel_rfl, by kernel_rfl, by kernel_rfl⟩ (fun _ _ _ h => h) (by kernel_rfl) hHeld ?_ ?_
      rotate_left
      · (intro w0 hSw; (try dsimp only at hSw); go_simp; (try with_reducible rfl))
      (try simp only [Act.put, List.setIfInBounds_toArray, List.set_cons_zero, List.set_cons_succ])
      refine tk 28 (v := ?_) rfl ⟨by kernel_rfl, by kernel_rfl, by kernel_rfl⟩ (fun _ _ _ h => h) (by kernel_rfl) hHeld ?_ ?_
      rotate_left
      · (intro w0 hSw; (try dsimp only at hSw); go_simp; (try with_reducible rfl))
      (try simp only [Act.put, List.setIfInBounds_toArray, List.set_cons_zero, List.set_cons_succ])
      refine tk 29 (v := ?_) rfl ⟨by kernel_rfl, by kernel_rfl, by kernel_rfl⟩ (fun _ _ _ h => h) (by kernel_rfl) hHeld ?_ ?_
      rotate_left
      · (intro w0 hSw; (try dsimp only at hSw); go_simp; (try with_reducible rfl))
      (try simp only [Act.put, List.setIfInBounds_toArray, List.set_cons_zero, List.set_cons_succ])
      refine tk 30 (v := ?_) rfl ⟨by kernel_rfl, by kernel_rfl, by kernel_rfl⟩ (fun _ _ _ h => h) (by kernel_rfl) hHeld ?_ ?_
      rotate_left
      · (intro w0 hSw; (try dsimp only at hSw); go_simp; (try with_reducible rfl))
      (try simp only [Act.put, List.setIfInBounds_toArray, List.set_cons_zero, List.set_cons_succ])
      refine tk 31 (v := ?_) rfl ⟨by kernel_rfl, by kernel_rfl, by kernel_rfl⟩ (fun _ _ _ h => h) (by kernel_rfl) hHeld ?_ ?_
      rotate_left
      · (intro w0 hSw; (try dsimp only at hSw); go_simp; (try with_reducible rfl))
      (try simp only [Act.put, List.setIfInBounds_toArray, List.set_cons_zero, List.set_cons_succ])
      refine tk 32 (v := ?_) rfl ⟨by kernel_rfl, by kernel_rfl, by kernel_rfl⟩ (fun _ _ _ h => h) (by kernel_rfl) hHeld ?_ ?_
      rotate_left
      · (intro w0 hSw; (try dsimp only at hSw); go_simp; (try with_reducible rfl))
      (try simp only [Act.put, List.setIfInBounds_toArray, List.set_cons_zero, List.set_cons_succ])
      refine tk 33 (v := ?_) rfl ⟨by kernel_rfl, by kernel_rfl, by kernel_rfl⟩ (fun _ _ _ h => h) (by kernel_rfl) hHeld ?_ ?_
      rotate_left
      · (intro w0 hSw; (try dsimp only at hSw); go_simp; (try with_reducible rfl))
      (try simp only [Act.put, List.setIfInBounds_toArray, List.set_cons_zero, List.set_cons_succ])
      refine cr 22 rfl (by kernel_rfl) (fun K hK => ?_)
      (refine goes Try.func48 (by kernel_rfl) rfl #[.pointer (some ⟨p.g, 0, none⟩)] rfl rfl (by simp only [List.map_toArray, List.map_cons, List.map_nil]; rfl) ?_; refine (wLen base p.g p.vb p.bs p.e _ (HR1.out.ok p (List.mem_of_getElem? HI.out)).hw).mono ?_; rintro r wS ⟨rfl, rfl⟩; refine ⟨_, rfl, ?_⟩)
      clear hHeld
      refine hK.out _ _ ?_ (fun hHeld => ?_)
      · (try dsimp only); (refine ⟨⟨HRa.out, HRb.out⟩, ?_⟩; go_keep)
      clear hK K
      (try simp only [Act.put, List.setIfInBounds_toArray, List.set_cons_zero, List.set_cons_succ])
      refine tk 34 (v := ?_) rfl ⟨by kernel_rfl, by kernel_rfl, by kernel_rfl⟩ (fun _ _ _ h => h) (by kernel_rfl) hHeld ?_ ?_
      rotate_left
      · (intro w0 hSw; (try dsimp only at hSw); go_simp; (try with_reducible rfl))
      (try simp only [Act.put, List.setIfInBounds_toArray, List.set_cons_zero, List.set_cons_succ])
      refine tk 35 (v := ?_) rfl ⟨by kernel_rfl, by kernel_rfl, by kernel_rfl⟩ (fun _ _ _ h => h) (by kernel_rfl) hHeld ?_ ?_
      rotate_left
      · (intro w0 hSw; (try dsimp only at hSw); go_simp; (try with_reducible rfl))
      (try simp only [Act.put, List.setIfInBounds_toArray, List.set_cons_zero, List.set_cons_succ])
      refine tk 36 (v := ?_) rfl ⟨by kernel_rfl, by kernel_rfl, by kernel_rfl⟩ (fun _ _ _ h => h) (by kernel_rfl) hHeld ?_ ?_
      rotate_left
      · (intro w0 hSw; (try dsimp only at hSw); go_simp; (try with_reducible rfl))
      (try simp only [Act.put, List.setIfInBounds_toArray, List.set_cons_zero, List.set_cons_succ])
      refine tk 37 (v := ?_) rfl ⟨by kernel_rfl, by kernel_rfl, by kernel_rfl⟩ (fun _ _ _ h => h) (by kernel_rfl) hHeld ?_ ?_
      rotate_left
      · (intro w0 hSw; (try dsimp only at hSw); go_simp; (try with_reducible rfl))
      (try simp only [Act.put, List.setIfInBounds_toArray, List.set_cons_zero, List.set_cons_succ])
      refine tk 38 (v := ?_) rfl ⟨by kernel_rfl, by kernel_rfl, by kernel_rfl⟩ (fun _ _ _ h => h) (by kernel_rfl) hHeld ?_ ?_
      rotate_left
      · (intro w0 hSw; (try dsimp only at hSw); go_simp; (try with_reducible rfl))
      (try simp only [Act.put, List.setIfInBounds_toArray, List.set_cons_zero, List.set_cons_succ])
      refine tk 39 (v := ?_) rfl ⟨by kernel_rfl, by kernel_rfl, by kernel_rfl⟩ (fun _ _ _ h => h) (by kernel_rfl) hHeld ?_ ?_
      rotate_left
      · (intro w0 hSw; (try dsimp only at hSw); go_simp; (try with_reducible rfl))
      (try simp only [Act.put, List.setIfInBounds_toArray, List.set_cons_zero, List.set_cons_succ])
      refine tk 40 (v := ?_) rfl ⟨by kernel_rfl, by kernel_rfl, by kernel_rfl⟩ (fun _ _ _ h => h) (by kernel_rfl) hHeld ?_ ?_
      rotate_left
      · (intro w0 hSw; (try dsimp only at hSw); go_simp; (try with_reducible rfl))
      (try simp only [Act.put, List.setIfInBounds_toArray, List.set_cons_zero, List.set_cons_succ])
      refine tk 41 (v := ?_) rfl ⟨by kernel_rfl, by kernel_rfl, by kernel_rfl⟩ (fun _ _ _ h => h) (by kernel_rfl) hHeld ?_ ?_
      rotate_left
      · (intro w0 hSw; (try dsimp only at hSw); go_simp; (try with_reducible rfl))
      (try simp only [Act.put, List.setIfInBounds_toArray, List.set_cons_zero, List.set_cons_succ])
      refine tk 42 (v := ?_) rfl ⟨by kernel_rfl, by kernel_rfl, by kernel_rfl⟩ (fun _ _ _ h => h) (by kernel_rfl) hHeld ?_ ?_
      rotate_left
      · (intro w0 hSw; (try dsimp only at hSw); go_simp; (try with_reducible rfl))
      (try simp only [Act.put, List.setIfInBounds_toArray, List.set_cons_zero, List.set_cons_succ])
      refine tk 43 (v := ?_) rfl ⟨by kernel_rfl, by kernel_rfl, by kernel_rfl⟩ (fun _ _ _ h => h) (by kernel_rfl) hHeld ?_ ?_
      rotate_left
      · (intro w0 hSw; (try dsimp only at hSw); go_simp; (try with_reducible rfl))
      (try simp only [Act.put, List.setIfInBounds_toArray, List.set_cons_zero, List.set_cons_succ])
      refine tk 45 (v := ?_) rfl ⟨by kernel_rfl, by kernel_rfl, by kernel_rfl⟩ (fun _ _ _ h => h) (by kernel_rfl) hHeld ?_ ?_
      rotate_left
      · (intro w0 hSw; (try dsimp only at hSw); go_simp; (try with_reducible rfl))
      (try simp only [Act.put, List.setIfInBounds_toArray, List.set_cons_zero, List.set_cons_succ])
      refine tk 46 (v := ?_) rfl ⟨by kernel_rfl, by kernel_rfl, by kernel_rfl⟩ (fun _ _ _ h => h) (by kernel_rfl) hHeld ?_ ?_
      rotate_left
      · (intro w0 hSw; (try dsimp only at hSw); go_simp; (try with_reducible rfl))
      (try simp only [Act.put, List.setIfInBounds_toArray, List.set_cons_zero, List.set_cons_succ])
      refine tk 47 (v := ?_) rfl ⟨by kernel_rfl, by kernel_rfl, by kernel_rfl⟩ (fun _ _ _ h => h) (by kernel_rfl) hHeld ?_ ?_
      rotate_left
      · (intro w0 hSw; (try dsimp only at hSw); go_simp; (try with_reducible rfl))
      (try simp only [Act.put, List.setIfInBounds_toArray, List.set_cons_zero, List.set_cons_succ])
      refine tk 48 (v := ?_) rfl ⟨by kernel_rfl, by kernel_rfl, by kernel_rfl⟩ (fun _ _ _ h => h) (by kernel_rfl) hHeld ?_ ?_
      rotate_left
      · (intro w0 hSw; (try dsimp only at hSw); go_simp; (try with_reducible rfl))
      (try simp only [Act.put, List.setIfInBounds_toArray, List.set_cons_zero, List.set_cons_succ])
      refine tk 49 (v := ?_) rfl ⟨by kernel_rfl, by kernel_rfl, by kernel_rfl⟩ (fun _ _ _ h => h) (by kernel_rfl) hHeld ?_ ?_
      rotate_left
      · (intro w0 hSw; (try dsimp only at hSw); go_simp; (try with_reducible rfl))
      (try simp only [Act.put, List.setIfInBounds_toArray, List.set_cons_zero, List.set_cons_succ])
      refine tk 50 (v := ?_) rfl ⟨by kernel_rfl, by kernel_rfl, by kernel_rfl⟩ (fun _ _ _ h => h) (by kernel_rfl) hHeld ?_ ?_
      rotate_left
      · (intro w0 hSw; (try dsimp only at hSw); go_simp; (try with_reducible rfl))
      (try simp only [Act.put, List.setIfInBounds_toArray, List.set_cons_zero, List.set_cons_succ])
      refine tk 51 (v := ?_) rfl ⟨by kernel_rfl, by kernel_rfl, by kernel_rfl⟩ (fun _ _ _ h => h) (by kernel_rfl) hHeld ?_ ?_
      rotate_left
      · (intro w0 hSw; (try dsimp only at hSw); go_simp; (try with_reducible rfl))
      (try simp only [Act.put, List.setIfInBounds_toArray, List.set_cons_zero, List.set_cons_succ])
      refine tk 52 (v := ?_) rfl ⟨by kernel_rfl, by kernel_rfl, by kernel_rfl⟩ (fun _ _ _ h => h) (by kernel_rfl) hHeld ?_ ?_
      rotate_left
      · (intro w0 hSw; (try dsimp only at hSw); go_simp; (try with_reducible rfl))
      (try simp only [Act.put, List.setIfInBounds_toArray, List.set_cons_zero, List.set_cons_succ])
      refine tk 53 (v := ?_) rfl ⟨by kernel_rfl, by kernel_rfl, by kernel_rfl⟩ (fun _ _ _ h => h) (by kernel_rfl) hHeld ?_ ?_
      rotate_left
      · (intro w0 hSw; (try dsimp only at hSw); go_simp; (try with_reducible rfl))
      (try simp only [Act.put, List.setIfInBounds_toArray, List.set_cons_zero, List.set_cons_succ])
      refine tk 54 (v := ?_) rfl ⟨by kernel_rfl, by kernel_rfl, by kernel_rfl⟩ (fun _ _ _ h => h) (by kernel_rfl) hHeld ?_ ?_
      rotate_left
      · (intro w0 hSw; (try dsimp only at hSw); go_simp; (try with_reducible rfl))
      (try simp only [Act.put, List.setIfInBounds_toArray, List.set_cons_zero, List.set_cons_succ])
      refine cr 44 rfl (by kernel_rfl) (fun K hK => ?_)
      (refine goes Try.func35 (by kernel_rfl) rfl #[.pointer (some ⟨p.g, 0, none⟩)] rfl rfl (by simp only [List.map_toArray, List.map_cons, List.map_nil]; rfl) ?_; refine (wErr base p.g p.vb p.bs p.e _ (HR1.out.ok p (List.mem_of_getElem? HI.out)).hw).mono ?_; rintro r wS ⟨rfl, rfl⟩; refine ⟨_, rfl, ?_⟩)
      clear hHeld
      refine hK.out _ _ ?_ (fun hHeld => ?_)
      · (try dsimp only); (refine ⟨⟨HRa.out, HRb.out⟩, ?_⟩; go_keep)
      clear hK K
      (try simp only [Act.put, List.setIfInBounds_toArray, List.set_cons_zero, List.set_cons_succ])
      refine tk 55 (v := ?_) rfl ⟨by kernel_rfl, by kernel_rfl, by kernel_rfl⟩ (fun _ _ _ h => h) (by kernel_rfl) hHeld ?_ ?_
      rotate_left
      · (intro w0 hSw; (try dsimp only at hSw); go_simp; (try with_reducible rfl))
      (try simp only [Act.put, List.setIfInBounds_toArray, List.set_cons_zero, List.set_cons_succ])
      refine tk 56 (v := ?_) rfl ⟨by kernel_rfl, by kernel_rfl, by kernel_rfl⟩ (fun _ _ _ h => h) (by kernel_rfl) hHeld ?_ ?_
      rotate_left
      · (intro w0 hSw; (try dsimp only at hSw); go_simp; (try with_reducible rfl))
      (try simp only [Act.put, List.setIfInBounds_toArray, List.set_cons_zero, List.set_cons_succ])
      refine wpAnyH_done (by kernel_rfl) ?_ _
      clear hHeld e0 e1 e2 e3 e4 e5
      go_wp2_with fail
      refine (keep_ base gx 2 51 [.slice (some aw) m cw, .slice (some av) m cv] [] vl1 vw1 I1 A9 c9 p.bs _ n1 HR1.out.book HR1.out.hn HR1.out.kps HR1.out.sz HO9.out.1 (by omega) (fun x hx b hb e => by have h1 := HB.out.1.I_lt x hx b (.inl hb); have h2 := HO9.out.2 b e; omega)).mono ?_
      rintro r w5 ⟨rfl, vl5, vw5, I5, n5, hC5, hn5, hK5, hl5, hI5, hF5⟩
      have hR5 := HR1.out.kept hC5 hn5 hK5 hl5 hF5 hI5 (fun q hq b hb hS => by have h1 := HB.out.1.P_lt q hq b hS; have h2 := HO9.out.2 b hb; omega)
      have hB5 : Below base w w5 := (HB.out.2.trans (HB9.out.mono (by have := HB.out.1.lt; omega))).trans ((below_drewN (Below.refl base w1) 1).trans (hF5.below (fun x hx => by rcases hx with rfl | hx; exact HB.out.1.lt.1; exact hx.1) (by have := HR1.out.lt; omega)))
      have HX5 := Lib.hid (And.intro hR5 hB5)
      clear hC5 hn5 hK5 hl5 hF5 hI5 hR5 hB5
      go_wp2_with fail
      go_roundw
      case rel => exact ⟨k + 1, _, _, _, _, by omega, by go_num, HX5⟩
      case measure => simp [intOf]; omega
    · go_wp2_with fail
      go_ret
      exact ⟨rfl, _, _, _, _, HB.out.1, HB.out.2⟩
end Go.Proofs.Ythdjddpomaendaa.B
