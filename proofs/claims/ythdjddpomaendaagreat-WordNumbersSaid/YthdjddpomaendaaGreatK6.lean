/- The walk of Apart. Printed by gen_apart2.py. -/
import Derived.Test.YthdjddpomaendaaGreatK5
namespace Go.Proofs.YthdjddpomaendaaGreat.B
open Go.RowKit
set_option linter.unusedVariables false
set_option linter.unusedSimpArgs false

/-- A call of a function value as one step of a region. -/
theorem goesv {P : Program} {ops : Array Oper} {o : Oper} {a : Act} {w : World} {K : Act → World → Prop} {Q : Exit → Act → World → Prop} {E : Prop} {c : Operand} {f : FuncId} {fn : Func} {xs : Array Operand} {ts : Array TypeId}
    (hf : P.funcs[f]? = some fn) (hname : (fn.name == "runtime.NumGoroutine") = false) (hb : fn.body.isSome = true) (args : Array Value)
    (hw : Region.wanted o (yielded ops a.tmps) = true) (hop : o.op = .call { callee := .value c, args := xs, argTypes := ts }) (hc : a.eval c = .func (.func f) #[] #[]) (hargs : xs.map a.eval = args)
    (h : Calls P f args w fun e w' => ∃ v, e = .returned v ∧ K (a.put o.dst v) w') : if Region.wanted o (yielded ops a.tmps) = true then Oper.wp P o a w K Q else E := by
  rw [if_pos hw]
  have h1 : fn.name ≠ "runtime.NumGoroutine" := by simpa using hname
  obtain ⟨c', hc'⟩ := Option.isSome_iff_exists.1 hb
  have he : (callFunc f args).run P w = .ok (.enter f args) w := by simp [callFunc, hf, h1, hc']
  have hrun : (execOp a.eval o).run P w = .ok (.enter f args) w := by
    unfold execOp
    simp [hop, resolve, hc, Deferred.ofValue, invoke, hargs, he]
  unfold Oper.wp
  rw [hrun, Oper.upon_enter]
  refine h.mono fun e w'' hh => ?_
  obtain ⟨v, rfl, hk⟩ := hh
  exact hk
theorem mark_step {w wq : World} {base g o k j g' : Nat} {t : TypeId} {pre post : List Value} {vl vw : Value} {L W : List (List Value)} {n : Int} {I : List Kp} {i0 : Kp} {l : List Value}
    (h : BookC wq base g o t pre post vl vw L W n ∧ MarkI wq base I k j ∧ Below base w wq) (hp : I.Pairwise (fun i j => ∀ b, i.l.ownBlock = some b → j.l.ownBlock ≠ some b)) (hi : I[k]? = some i0) (hA : i0.A = some ⟨g', 0, none⟩) (hb : base ≤ g') (hk : Blk wq g' l 5) :
    BookC (wq.setCell ⟨g', j, none⟩ (.int .u8 ((markB k j : Nat) : Int))) base g o t pre post vl vw L W n ∧ MarkI (wq.setCell ⟨g', j, none⟩ (.int .u8 ((markB k j : Nat) : Int))) base I k (j + 1) ∧ Below base w (wq.setCell ⟨g', j, none⟩ (.int .u8 ((markB k j : Nat) : Int))) := by
  have hf : Fr (fun b => b = g') wq (wq.setCell ⟨g', j, none⟩ (.int .u8 ((markB k j : Nat) : Int))) := Fr.setCell (p := ⟨g', j, none⟩) (Fr.refl (fun b => b = g') wq) (.inl rfl) _
  refine ⟨h.1.fr hf (typed_ne h.1.blk hk h.1.t2) (fun b hb e => ?_) (fun b hb e => ?_), h.2.1.step hp hi hA, h.2.2.setCell hb _⟩
  · obtain ⟨_, _, cells, hc⟩ := h.1.rl.typed b hb
    exact typed_ne hc hk (by decide) e
  · obtain ⟨_, _, cells, hc⟩ := h.1.rw_.typed b hb
    exact typed_ne hc hk (by decide) e

set_option maxHeartbeats 6400000 in
set_option maxRecDepth 100000 in
theorem apart_ (base g o : Nat) (t : TypeId) (pre post : List Value) (vl vw : Value) (I : List Kp) (n : Int) (w : World) (hC : BookC w base g o t pre post vl vw (lsc I) (wsc I) n) (hI : KpsOk w base I) (hm0 : I.length ≤ 1000000) :
    Calls Tryz.prog 19 #[.pointer (some ⟨g, o, none⟩), (.func (.func 20) #[] #[])] w fun r w' => r = .returned (.bool true) ∧ Below base w w' := by
  obtain ⟨Al, cl, hvl, hcl⟩ := hC.rl.shape
  obtain ⟨Aw, cw, hvw, hcw⟩ := hC.rw_.shape
  rw [lsc_length] at hvl hcl
  rw [wsc_length] at hvw hcw
  obtain ⟨m, hm⟩ : ∃ m, I.length = m := ⟨_, rfl⟩
  have HM := Lib.hid hm
  rw [hm] at hvl hvw hcl hcw hm0
  subst hvl hvw
  clear hm
  have HCAP := Lib.hid (fun i hi => (hI.own i hi).2.2)
  have HLEN := Lib.hid (show ∀ i ∈ I, i.xs.length ≤ i.c from fun i hi => by
    obtain ⟨A, c, e, hc, _⟩ := (hI.own i hi).1.rd
    injection e with _ _ e
    omega)
  have HP := Lib.hid hI.apart
  have HTY := Lib.hid (hI.ne_book hC)
  have hbs : base ≤ w.heap.size := by have := hC.hg; have := hC.lt; omega
  have HC0 := Lib.hid hC
  have HI0 := Lib.hid hI
  clear hC hI
  go_enter Tryz.func19, Tryz.ntmps19
  go_wp2_with fail
  refine (stays_ base g o t pre post _ _ I n _ HC0.out HI0.out).mono ?_
  rintro r w1 ⟨rfl, hC1, hI1, hF1⟩
  have HB1 := Lib.hid (And.intro hC1 (And.intro hI1.marks (hF1.below (fun b hb => hb.elim (fun e => e ▸ hC1.hg) (fun h => h.1)) hbs)))
  clear hC1 hI1 hF1 HC0 HI0
  go_wp2_with fail
  go_loopw [5] (fun i wr => ∃ k : Nat, k ≤ m ∧ i = .int .i64 (k : Int) ∧ Hid (BookC wr base g o t pre post (.slice Al m cl) (.slice Aw m cw) (lsc I) (wsc I) n ∧ MarkI wr base I k 0 ∧ Below base w wr)) (fun i _ => m - (intOf i).toNat)
  case atStart => exact ⟨0, Nat.zero_le _, rfl, HB1⟩
  case round =>
    clear HB1
    obtain ⟨k, hk, rfl, HB⟩ := hrel
    obtain ⟨k0, k1, k2, k3, f0, f1, f2, f3⟩ := HB.out.1.get
    by_cases hlt : k < m
    · obtain ⟨i0, hi0⟩ : ∃ i0, I[k]? = some i0 := ⟨_, List.getElem?_eq_getElem (by rw [HM.out]; exact hlt)⟩
      obtain ⟨al, hal, m0⟩ := row_one HB.out.1.rl k i0.l (lsc_get hi0)
      subst hal
      have HI0 := Lib.hid hi0
      have hcc := HCAP.out i0 (List.mem_of_getElem? hi0)
      have hxc := HLEN.out i0 (List.mem_of_getElem? hi0)
      obtain ⟨iA, ic, iA2, ic2, ixs⟩ := i0
      change wr.cell? (al.add k) = some (.slice iA ixs.length ic) at m0
      dsimp only at hcc hxc
      have p0 : (0 : Int) ≤ (k : Int) := by omega
      have p1 : (k : Int) < (m : Int) := by omega
      have p2 : (0 : Int) ≤ (ic : Int) := by omega
      have p3 : (ic : Int) ≤ (ic : Int) := by omega
      clear hi0
      go_wp2_with fail
      refine wp_region_held_drew (S := (fun w' => w'.cell? ⟨g, o, none⟩ = some (.slice (some al) m cl) ∧ w'.cell? (al.add k) = some (.slice iA ixs.length ic))) (by kernel_rfl) ?_ (fun hHeld => ?_)
      · (try dsimp only); go_keep
      refine tk 0 (v := ?_) rfl ⟨by kernel_rfl, by kernel_rfl, by kernel_rfl⟩ (fun _ _ _ h => h) (by kernel_rfl) hHeld ?_ ?_
      rotate_left
      · (intro w0 hSw; (try dsimp only at hSw); go_simp; (try with_reducible rfl))
      (try simp only [Act.put, List.setIfInBounds_toArray, List.set_cons_zero, List.set_cons_succ])
      refine tk 1 (v := ?_) rfl ⟨by kernel_rfl, by kernel_rfl, by kernel_rfl⟩ (fun _ _ _ h => h) (by kernel_rfl) hHeld ?_ ?_
      rotate_left
      · (intro w0 hSw; (try dsimp only at hSw); go_simp; (try with_reducible rfl))
      (try simp only [Act.put, List.setIfInBounds_toArray, List.set_cons_zero, List.set_cons_succ])
      refine tk 2 (v := ?_) rfl ⟨by kernel_rfl, by kernel_rfl, by kernel_rfl⟩ (fun _ _ _ h => h) (by kernel_rfl) hHeld ?_ ?_
      rotate_left
      · (intro w0 hSw; (try dsimp only at hSw); go_simp; (try with_reducible rfl))
      (try simp only [Act.put, List.setIfInBounds_toArray, List.set_cons_zero, List.set_cons_succ])
      refine tk 3 (v := ?_) rfl ⟨by kernel_rfl, by kernel_rfl, by kernel_rfl⟩ (fun _ _ _ h => h) (by kernel_rfl) hHeld ?_ ?_
      rotate_left
      · (intro w0 hSw; (try dsimp only at hSw); go_simp; (try with_reducible rfl))
      (try simp only [Act.put, List.setIfInBounds_toArray, List.set_cons_zero, List.set_cons_succ])
      refine tk 4 (v := ?_) rfl ⟨by kernel_rfl, by kernel_rfl, by kernel_rfl⟩ (fun _ _ _ h => h) (by kernel_rfl) hHeld ?_ ?_
      rotate_left
      · (intro w0 hSw; (try dsimp only at hSw); go_simp; (try with_reducible rfl))
      (try simp only [Act.put, List.setIfInBounds_toArray, List.set_cons_zero, List.set_cons_succ])
      refine tk 5 (v := ?_) rfl ⟨by kernel_rfl, by kernel_rfl, by kernel_rfl⟩ (fun _ _ _ h => h) (by kernel_rfl) hHeld ?_ ?_
      rotate_left
      · (intro w0 hSw; (try dsimp only at hSw); go_simp; (try with_reducible rfl))
      (try simp only [Act.put, List.setIfInBounds_toArray, List.set_cons_zero, List.set_cons_succ])
      refine tk 6 (v := ?_) rfl ⟨by kernel_rfl, by kernel_rfl, by kernel_rfl⟩ (fun _ _ _ h => h) (by kernel_rfl) hHeld ?_ ?_
      rotate_left
      · (intro w0 hSw; (try dsimp only at hSw); go_simp; (try with_reducible rfl))
      (try simp only [Act.put, List.setIfInBounds_toArray, List.set_cons_zero, List.set_cons_succ])
      refine tk 7 (v := ?_) rfl ⟨by kernel_rfl, by kernel_rfl, by kernel_rfl⟩ (fun _ _ _ h => h) (by kernel_rfl) hHeld ?_ ?_
      rotate_left
      · (intro w0 hSw; (try dsimp only at hSw); go_simp; (try with_reducible rfl))
      (try simp only [Act.put, List.setIfInBounds_toArray, List.set_cons_zero, List.set_cons_succ])
      refine tk 8 (v := ?_) rfl ⟨by kernel_rfl, by kernel_rfl, by kernel_rfl⟩ (fun _ _ _ h => h) (by kernel_rfl) hHeld ?_ ?_
      rotate_left
      · (intro w0 hSw; (try dsimp only at hSw); go_simp; (try with_reducible rfl))
      (try simp only [Act.put, List.setIfInBounds_toArray, List.set_cons_zero, List.set_cons_succ])
      refine tk 9 (v := ?_) rfl ⟨by kernel_rfl, by kernel_rfl, by kernel_rfl⟩ (fun _ _ _ h => h) (by kernel_rfl) hHeld ?_ ?_
      rotate_left
      · (intro w0 hSw; (try dsimp only at hSw); go_simp; (try with_reducible rfl))
      (try simp only [Act.put, List.setIfInBounds_toArray, List.set_cons_zero, List.set_cons_succ])
      refine tk 10 (v := ?_) rfl ⟨by kernel_rfl, by kernel_rfl, by kernel_rfl⟩ (fun _ _ _ h => h) (by kernel_rfl) hHeld ?_ ?_
      rotate_left
      · (intro w0 hSw; (try dsimp only at hSw); go_simp; (try with_reducible rfl))
      (try simp only [Act.put, List.setIfInBounds_toArray, List.set_cons_zero, List.set_cons_succ])
      refine tk 11 (v := ?_) rfl ⟨by kernel_rfl, by kernel_rfl, by kernel_rfl⟩ (fun _ _ _ h => h) (by kernel_rfl) hHeld ?_ ?_
      rotate_left
      · (intro w0 hSw; (try dsimp only at hSw); go_simp; (try with_reducible rfl))
      (try simp only [Act.put, List.setIfInBounds_toArray, List.set_cons_zero, List.set_cons_succ])
      refine tk 12 (v := ?_) rfl ⟨by kernel_rfl, by kernel_rfl, by kernel_rfl⟩ (fun _ _ _ h => h) (by kernel_rfl) hHeld ?_ ?_
      rotate_left
      · (intro w0 hSw; (try dsimp only at hSw); go_simp; (try with_reducible rfl))
      (try simp only [Act.put, List.setIfInBounds_toArray, List.set_cons_zero, List.set_cons_succ])
      refine tk 13 (v := ?_) rfl ⟨by kernel_rfl, by kernel_rfl, by kernel_rfl⟩ (fun _ _ _ h => h) (by kernel_rfl) hHeld ?_ ?_
      rotate_left
      · (intro w0 hSw; (try dsimp only at hSw); go_simp; (try with_reducible rfl))
      (try simp only [Act.put, List.setIfInBounds_toArray, List.set_cons_zero, List.set_cons_succ])
      refine tk 14 (v := ?_) rfl ⟨by kernel_rfl, by kernel_rfl, by kernel_rfl⟩ (fun _ _ _ h => h) (by kernel_rfl) hHeld ?_ ?_
      rotate_left
      · (intro w0 hSw; (try dsimp only at hSw); go_simp; (try with_reducible rfl))
      (try simp only [Act.put, List.setIfInBounds_toArray, List.set_cons_zero, List.set_cons_succ])
      refine tk 15 (v := ?_) rfl ⟨by kernel_rfl, by kernel_rfl, by kernel_rfl⟩ (fun _ _ _ h => h) (by kernel_rfl) hHeld ?_ ?_
      rotate_left
      · (intro w0 hSw; (try dsimp only at hSw); go_simp; (try with_reducible rfl))
      (try simp only [Act.put, List.setIfInBounds_toArray, List.set_cons_zero, List.set_cons_succ])
      refine tk 16 (v := ?_) rfl ⟨by kernel_rfl, by kernel_rfl, by kernel_rfl⟩ (fun _ _ _ h => h) (by kernel_rfl) hHeld ?_ ?_
      rotate_left
      · (intro w0 hSw; (try dsimp only at hSw); go_simp; (try with_reducible rfl))
      (try simp only [Act.put, List.setIfInBounds_toArray, List.set_cons_zero, List.set_cons_succ])
      refine wpAnyH_done (by kernel_rfl) ?_ _
      have HB6 : Hid (BookC wr.drew base g o t pre post (.slice (some al) m cl) (.slice Aw m cw) (lsc I) (wsc I) n ∧ MarkI wr.drew base I k 0 ∧ Below base w wr.drew) :=
        Lib.hid ⟨HB.out.1.below (below_drewN (Below.refl _ wr) 1), HB.out.2.1.fr (S := fun _ => False) (Fr.of_below (below_drewN (Below.refl _ wr) 1) _) (fun _ _ _ _ h => h), below_drewN HB.out.2.2 1⟩
      clear HB k0 k1 k2 k3 f0 f1 f2 f3 m0 hHeld
      go_wp2_with fail
      go_loopw [7] (fun i wq => ∃ j : Nat, j ≤ ic ∧ i = .int .i64 (j : Int) ∧ Hid (BookC wq base g o t pre post (.slice (some al) m cl) (.slice Aw m cw) (lsc I) (wsc I) n ∧ MarkI wq base I k j ∧ Below base w wq)) (fun i _ => ic - (intOf i).toNat)
      case atStart => exact ⟨0, Nat.zero_le _, rfl, HB6⟩
      case round =>
        clear HB6
        obtain ⟨j, hj, rfl, HB⟩ := hrel
        by_cases hjc : j < ic
        · rcases HB.out.2.1.part k _ HI0.out rfl with ⟨_, h0⟩ | ⟨g', l, hA, hbg, hkb, hll, _⟩
          · dsimp only at h0; omega
          · dsimp only at hA hll
            obtain ⟨u, hu⟩ : ∃ u, l[j]? = some u := ⟨_, List.getElem?_eq_getElem (by omega)⟩
            have hcell := hkb.cell j u hu
            have hfree := hkb.free j
            have hst := mark_step HB.out HP.out HI0.out hA hbg hkb
            have HST := Lib.hid hst
            have hj0 : (0 : Int) ≤ (j : Int) := by omega
            have hj1 : (j : Int) < (ic : Int) := by omega
            clear hst hkb hll hu
            subst hA
            go_wp2_with fail
            refine (bytes_ k j _ (by omega) (by omega)).mono ?_
            rintro r w9 ⟨rfl, rfl⟩
            go_wp2_with fail
            go_roundw
            case rel => exact ⟨j + 1, by omega, by go_num, HST⟩
            case measure => simp [intOf]; omega
        · obtain rfl : j = ic := by omega
          have HN : Hid (BookC _ base g o t pre post (.slice (some al) m cl) (.slice Aw m cw) (lsc I) (wsc I) n ∧ MarkI _ base I (k + 1) 0 ∧ Below base w _) := Lib.hid ⟨HB.out.1, HB.out.2.1.next (fun i hi => by rw [HI0.out] at hi; injection hi with hi; subst hi; exact Nat.le_refl _), HB.out.2.2⟩
          clear HB
          go_wp2_with fail
          go_roundw
          case rel => exact ⟨k + 1, by omega, by go_num, HN⟩
          case measure => simp [intOf]; omega
    · obtain rfl : k = m := by omega
      have HB7 := Lib.hid HB.out
      clear HB k1 k2 k3 f0 f1 f2 f3
      go_wp2_with fail
      clear k0
      go_loopw [8] (fun i wq => ∃ k2 : Nat, k2 ≤ k ∧ i = .int .i64 (k2 : Int) ∧ Hid (BookC wq base g o t pre post (.slice Al k cl) (.slice Aw k cw) (lsc I) (wsc I) n ∧ MarkI wq base I k 0 ∧ Below base w wq)) (fun i _ => k - (intOf i).toNat)
      case atStart => exact ⟨0, Nat.zero_le _, rfl, HB7⟩
      case round =>
        clear HB7
        obtain ⟨k2, hk2, rfl, HB⟩ := hrel
        obtain ⟨k0, k1, k3, k4, f0, f1, f2, f3⟩ := HB.out.1.get
        by_cases hlt : k2 < k
        · obtain ⟨i0, hi0⟩ : ∃ i0, I[k2]? = some i0 := ⟨_, List.getElem?_eq_getElem (by rw [HM.out]; exact hlt)⟩
          obtain ⟨al, hal, m0⟩ := row_one HB.out.1.rl k2 i0.l (lsc_get hi0)
          subst hal
          have HI0 := Lib.hid hi0
          have hcc := HCAP.out i0 (List.mem_of_getElem? hi0)
          have hxc := HLEN.out i0 (List.mem_of_getElem? hi0)
          obtain ⟨iA, ic, iA2, ic2, ixs⟩ := i0
          change wr.cell? (al.add k2) = some (.slice iA ixs.length ic) at m0
          dsimp only at hcc hxc
          have p0 : (0 : Int) ≤ (k2 : Int) := by omega
          have p1 : (k2 : Int) < (k : Int) := by omega
          have p2 : (0 : Int) ≤ (ic : Int) := by omega
          have p3 : (ic : Int) ≤ (ic : Int) := by omega
          clear hi0
          go_wp2_with fail
          refine wp_region_held_drew (S := (fun w' => w'.cell? ⟨g, o, none⟩ = some (.slice (some al) k cl) ∧ w'.cell? (al.add k2) = some (.slice iA ixs.length ic))) (by kernel_rfl) ?_ (fun hHeld => ?_)
          · (try dsimp only); go_keep
          refine tk 0 (v := ?_) rfl ⟨by kernel_rfl, by kernel_rfl, by kernel_rfl⟩ (fun _ _ _ h => h) (by kernel_rfl) hHeld ?_ ?_
          rotate_left
          · (intro w0 hSw; (try dsimp only at hSw); go_simp; (try with_reducible rfl))
          (try simp only [Act.put, List.setIfInBounds_toArray, List.set_cons_zero, List.set_cons_succ])
          refine tk 1 (v := ?_) rfl ⟨by kernel_rfl, by kernel_rfl, by kernel_rfl⟩ (fun _ _ _ h => h) (by kernel_rfl) hHeld ?_ ?_
          rotate_left
          · (intro w0 hSw; (try dsimp only at hSw); go_simp; (try with_reducible rfl))
          (try simp only [Act.put, List.setIfInBounds_toArray, List.set_cons_zero, List.set_cons_succ])
          refine tk 2 (v := ?_) rfl ⟨by kernel_rfl, by kernel_rfl, by kernel_rfl⟩ (fun _ _ _ h => h) (by kernel_rfl) hHeld ?_ ?_
          rotate_left
          · (intro w0 hSw; (try dsimp only at hSw); go_simp; (try with_reducible rfl))
          (try simp only [Act.put, List.setIfInBounds_toArray, List.set_cons_zero, List.set_cons_succ])
          refine tk 3 (v := ?_) rfl ⟨by kernel_rfl, by kernel_rfl, by kernel_rfl⟩ (fun _ _ _ h => h) (by kernel_rfl) hHeld ?_ ?_
          rotate_left
          · (intro w0 hSw; (try dsimp only at hSw); go_simp; (try with_reducible rfl))
          (try simp only [Act.put, List.setIfInBounds_toArray, List.set_cons_zero, List.set_cons_succ])
          refine tk 4 (v := ?_) rfl ⟨by kernel_rfl, by kernel_rfl, by kernel_rfl⟩ (fun _ _ _ h => h) (by kernel_rfl) hHeld ?_ ?_
          rotate_left
          · (intro w0 hSw; (try dsimp only at hSw); go_simp; (try with_reducible rfl))
          (try simp only [Act.put, List.setIfInBounds_toArray, List.set_cons_zero, List.set_cons_succ])
          refine tk 5 (v := ?_) rfl ⟨by kernel_rfl, by kernel_rfl, by kernel_rfl⟩ (fun _ _ _ h => h) (by kernel_rfl) hHeld ?_ ?_
          rotate_left
          · (intro w0 hSw; (try dsimp only at hSw); go_simp; (try with_reducible rfl))
          (try simp only [Act.put, List.setIfInBounds_toArray, List.set_cons_zero, List.set_cons_succ])
          refine tk 6 (v := ?_) rfl ⟨by kernel_rfl, by kernel_rfl, by kernel_rfl⟩ (fun _ _ _ h => h) (by kernel_rfl) hHeld ?_ ?_
          rotate_left
          · (intro w0 hSw; (try dsimp only at hSw); go_simp; (try with_reducible rfl))
          (try simp only [Act.put, List.setIfInBounds_toArray, List.set_cons_zero, List.set_cons_succ])
          refine tk 7 (v := ?_) rfl ⟨by kernel_rfl, by kernel_rfl, by kernel_rfl⟩ (fun _ _ _ h => h) (by kernel_rfl) hHeld ?_ ?_
          rotate_left
          · (intro w0 hSw; (try dsimp only at hSw); go_simp; (try with_reducible rfl))
          (try simp only [Act.put, List.setIfInBounds_toArray, List.set_cons_zero, List.set_cons_succ])
          refine tk 8 (v := ?_) rfl ⟨by kernel_rfl, by kernel_rfl, by kernel_rfl⟩ (fun _ _ _ h => h) (by kernel_rfl) hHeld ?_ ?_
          rotate_left
          · (intro w0 hSw; (try dsimp only at hSw); go_simp; (try with_reducible rfl))
          (try simp only [Act.put, List.setIfInBounds_toArray, List.set_cons_zero, List.set_cons_succ])
          refine tk 9 (v := ?_) rfl ⟨by kernel_rfl, by kernel_rfl, by kernel_rfl⟩ (fun _ _ _ h => h) (by kernel_rfl) hHeld ?_ ?_
          rotate_left
          · (intro w0 hSw; (try dsimp only at hSw); go_simp; (try with_reducible rfl))
          (try simp only [Act.put, List.setIfInBounds_toArray, List.set_cons_zero, List.set_cons_succ])
          refine tk 10 (v := ?_) rfl ⟨by kernel_rfl, by kernel_rfl, by kernel_rfl⟩ (fun _ _ _ h => h) (by kernel_rfl) hHeld ?_ ?_
          rotate_left
          · (intro w0 hSw; (try dsimp only at hSw); go_simp; (try with_reducible rfl))
          (try simp only [Act.put, List.setIfInBounds_toArray, List.set_cons_zero, List.set_cons_succ])
          refine tk 11 (v := ?_) rfl ⟨by kernel_rfl, by kernel_rfl, by kernel_rfl⟩ (fun _ _ _ h => h) (by kernel_rfl) hHeld ?_ ?_
          rotate_left
          · (intro w0 hSw; (try dsimp only at hSw); go_simp; (try with_reducible rfl))
          (try simp only [Act.put, List.setIfInBounds_toArray, List.set_cons_zero, List.set_cons_succ])
          refine tk 12 (v := ?_) rfl ⟨by kernel_rfl, by kernel_rfl, by kernel_rfl⟩ (fun _ _ _ h => h) (by kernel_rfl) hHeld ?_ ?_
          rotate_left
          · (intro w0 hSw; (try dsimp only at hSw); go_simp; (try with_reducible rfl))
          (try simp only [Act.put, List.setIfInBounds_toArray, List.set_cons_zero, List.set_cons_succ])
          refine tk 13 (v := ?_) rfl ⟨by kernel_rfl, by kernel_rfl, by kernel_rfl⟩ (fun _ _ _ h => h) (by kernel_rfl) hHeld ?_ ?_
          rotate_left
          · (intro w0 hSw; (try dsimp only at hSw); go_simp; (try with_reducible rfl))
          (try simp only [Act.put, List.setIfInBounds_toArray, List.set_cons_zero, List.set_cons_succ])
          refine tk 14 (v := ?_) rfl ⟨by kernel_rfl, by kernel_rfl, by kernel_rfl⟩ (fun _ _ _ h => h) (by kernel_rfl) hHeld ?_ ?_
          rotate_left
          · (intro w0 hSw; (try dsimp only at hSw); go_simp; (try with_reducible rfl))
          (try simp only [Act.put, List.setIfInBounds_toArray, List.set_cons_zero, List.set_cons_succ])
          refine tk 15 (v := ?_) rfl ⟨by kernel_rfl, by kernel_rfl, by kernel_rfl⟩ (fun _ _ _ h => h) (by kernel_rfl) hHeld ?_ ?_
          rotate_left
          · (intro w0 hSw; (try dsimp only at hSw); go_simp; (try with_reducible rfl))
          (try simp only [Act.put, List.setIfInBounds_toArray, List.set_cons_zero, List.set_cons_succ])
          refine tk 16 (v := ?_) rfl ⟨by kernel_rfl, by kernel_rfl, by kernel_rfl⟩ (fun _ _ _ h => h) (by kernel_rfl) hHeld ?_ ?_
          rotate_left
          · (intro w0 hSw; (try dsimp only at hSw); go_simp; (try with_reducible rfl))
          (try simp only [Act.put, List.setIfInBounds_toArray, List.set_cons_zero, List.set_cons_succ])
          refine wpAnyH_done (by kernel_rfl) ?_ _
          have HB6 : Hid (BookC wr.drew base g o t pre post (.slice (some al) k cl) (.slice Aw k cw) (lsc I) (wsc I) n ∧ MarkI wr.drew base I k 0 ∧ Below base w wr.drew) :=
            Lib.hid ⟨HB.out.1.below (below_drewN (Below.refl _ wr) 1), HB.out.2.1.fr (S := fun _ => False) (Fr.of_below (below_drewN (Below.refl _ wr) 1) _) (fun _ _ _ _ h => h), below_drewN HB.out.2.2 1⟩
          clear HB k0 k1 k3 k4 f0 f1 f2 f3 m0 hHeld
          go_wp2_with fail
          go_loopw [10] (fun i wz => ∃ j : Nat, j ≤ ic ∧ i = .int .i64 (j : Int) ∧ Hid (BookC wz base g o t pre post (.slice (some al) k cl) (.slice Aw k cw) (lsc I) (wsc I) n ∧ MarkI wz base I k 0 ∧ Below base w wz)) (fun i _ => ic - (intOf i).toNat)
          case atStart => exact ⟨0, Nat.zero_le _, rfl, HB6⟩
          case round =>
            clear HB6
            obtain ⟨j, hj, rfl, HB⟩ := hrel
            by_cases hjc : j < ic
            · rcases HB.out.2.1.full k2 _ HI0.out hlt with ⟨_, h0⟩ | ⟨g', l, hA, hbg, hkb, hll, hmk⟩
              · dsimp only at h0; omega
              · dsimp only at hA hll hmk
                have hcell := hkb.cell j _ (hmk j hjc hjc)
                have hj0 : (0 : Int) ≤ (j : Int) := by omega
                have hj1 : (j : Int) < (ic : Int) := by omega
                have t1 : (((markB k2 j : Nat) : Int) != ((markB k2 j : Nat) : Int)) = false := by simp
                clear hkb hll hmk
                subst hA
                go_wp2_with fail
                refine wp_region_held_drew (S := (fun w' => w'.cell? ⟨g', j, none⟩ = some (.int .u8 ((markB k2 j : Nat) : Int)))) (by kernel_rfl) ?_ (fun hHeld => ?_)
                · (try dsimp only); go_keep
                refine tk 0 (v := ?_) rfl ⟨by kernel_rfl, by kernel_rfl, by kernel_rfl⟩ (fun _ _ _ h => h) (by kernel_rfl) hHeld ?_ ?_
                rotate_left
                · (intro w0 hSw; (try dsimp only at hSw); go_simp; (try with_reducible rfl))
                (try simp only [Act.put, List.setIfInBounds_toArray, List.set_cons_zero, List.set_cons_succ])
                refine tk 1 (v := ?_) rfl ⟨by kernel_rfl, by kernel_rfl, by kernel_rfl⟩ (fun _ _ _ h => h) (by kernel_rfl) hHeld ?_ ?_
                rotate_left
                · (intro w0 hSw; (try dsimp only at hSw); go_simp; (try with_reducible rfl))
                (try simp only [Act.put, List.setIfInBounds_toArray, List.set_cons_zero, List.set_cons_succ])
                refine tk 2 (v := ?_) rfl ⟨by kernel_rfl, by kernel_rfl, by kernel_rfl⟩ (fun _ _ _ h => h) (by kernel_rfl) hHeld ?_ ?_
                rotate_left
                · (intro w0 hSw; (try dsimp only at hSw); go_simp; (try with_reducible rfl))
                (try simp only [Act.put, List.setIfInBounds_toArray, List.set_cons_zero, List.set_cons_succ])
                refine tk 3 (v := ?_) rfl ⟨by kernel_rfl, by kernel_rfl, by kernel_rfl⟩ (fun _ _ _ h => h) (by kernel_rfl) hHeld ?_ ?_
                rotate_left
                · (intro w0 hSw; (try dsimp only at hSw); go_simp; (try with_reducible rfl))
                (try simp only [Act.put, List.setIfInBounds_toArray, List.set_cons_zero, List.set_cons_succ])
                refine tk 4 (v := ?_) rfl ⟨by kernel_rfl, by kernel_rfl, by kernel_rfl⟩ (fun _ _ _ h => h) (by kernel_rfl) hHeld ?_ ?_
                rotate_left
                · (intro w0 hSw; (try dsimp only at hSw); go_simp; (try with_reducible rfl))
                (try simp only [Act.put, List.setIfInBounds_toArray, List.set_cons_zero, List.set_cons_succ])
                refine tk 5 (v := ?_) rfl ⟨by kernel_rfl, by kernel_rfl, by kernel_rfl⟩ (fun _ _ _ h => h) (by kernel_rfl) hHeld ?_ ?_
                rotate_left
                · (intro w0 hSw; (try dsimp only at hSw); go_simp; (try with_reducible rfl))
                (try simp only [Act.put, List.setIfInBounds_toArray, List.set_cons_zero, List.set_cons_succ])
                refine tk 6 (v := ?_) rfl ⟨by kernel_rfl, by kernel_rfl, by kernel_rfl⟩ (fun _ _ _ h => h) (by kernel_rfl) hHeld ?_ ?_
                rotate_left
                · (intro w0 hSw; (try dsimp only at hSw); go_simp; (try with_reducible rfl))
                (try simp only [Act.put, List.setIfInBounds_toArray, List.set_cons_zero, List.set_cons_succ])
                refine cr 7 rfl (by kernel_rfl) (fun K hK => ?_)
                (refine goesv Tryz.func20 (by kernel_rfl) rfl #[.int .i64 (k2 : Int), .int .i64 (j : Int)] rfl rfl rfl (by simp only [List.map_toArray, List.map_cons, List.map_nil]; rfl) ?_; refine (bytes_ k2 j _ (by omega) (by omega)).mono ?_; rintro r w9 ⟨rfl, rfl⟩; refine ⟨_, rfl, ?_⟩)
                clear hHeld
                refine hK.out _ _ ?_ (fun hHeld => ?_)
                · (try dsimp only); go_keep
                clear hK K
                (try simp only [Act.put, List.setIfInBounds_toArray, List.set_cons_zero, List.set_cons_succ])
                refine tk 8 (v := ?_) rfl ⟨by kernel_rfl, by kernel_rfl, by kernel_rfl⟩ (fun _ _ _ h => h) (by kernel_rfl) hHeld ?_ ?_
                rotate_left
                · (intro w0 hSw; (try dsimp only at hSw); go_simp; (try with_reducible rfl))
                (try simp only [Act.put, List.setIfInBounds_toArray, List.set_cons_zero, List.set_cons_succ])
                refine wpAnyH_done (by kernel_rfl) ?_ _
                have HN : Hid (BookC wr.drew base g o t pre post (.slice (some al) k cl) (.slice Aw k cw) (lsc I) (wsc I) n ∧ MarkI wr.drew base I k 0 ∧ Below base w wr.drew) :=
                  Lib.hid ⟨HB.out.1.below (below_drewN (Below.refl _ wr) 1), HB.out.2.1.fr (S := fun _ => False) (Fr.of_below (below_drewN (Below.refl _ wr) 1) _) (fun _ _ _ _ h => h), below_drewN HB.out.2.2 1⟩
                clear HB hcell hHeld
                go_wp2_with fail
                go_roundw
                case rel => exact ⟨j + 1, by omega, by go_num, HN⟩
                case measure => simp [intOf]; omega
            · obtain rfl : j = ic := by omega
              go_wp2_with fail
              go_roundw
              case rel => exact ⟨k2 + 1, by omega, by go_num, HB⟩
              case measure => simp [intOf]; omega
        · have hX1 := HB.out.1.set_l (v' := .slice none 0 0) (L' := []) (Row.nil _ _ _ _) (fun b hb => by cases hb)
          have hX2 := hX1.1.set_w (v' := .slice none 0 0) (L' := []) (Row.nil _ _ _ _) (fun b _ hb => by cases hb)
          obtain ⟨_, q1, _, _, _, r1, _, _⟩ := hX1.1.get
          obtain ⟨_, _, q2, _, _, _, r2, _⟩ := hX2.1.get
          have HE := Lib.hid ((((HB.out.2.2).setCell (p := ⟨g, o, none⟩) HB.out.1.hg (.slice none 0 0)).setCell (p := ⟨g, o + 1, none⟩) HB.out.1.hg (.slice none 0 0)).setCell (p := ⟨g, o + 2, none⟩) HB.out.1.hg (.int .i64 0))
          clear hX1 hX2
          go_wp2_with fail
          go_ret
          exact ⟨rfl, HE.out⟩
end Go.Proofs.YthdjddpomaendaaGreat.B
