/- The walk of Keep. Printed by gen_keep.py. -/
import Derived.Test.YthdjddpomaendaaGreatK1
namespace Go.Proofs.YthdjddpomaendaaGreat.B
open Go.RowKit
set_option linter.unusedVariables false
set_option linter.unusedSimpArgs false

theorem own_ne_book {w : World} {base g o : Nat} {t : TypeId} {pre post : List Value} {vl vw v : Value} {L W : List (List Value)} {n : Int} {xs : List UInt8} (hC : BookC w base g o t pre post vl vw L W n) (hO : Own w base v xs) : ∀ b, v.ownBlock = some b → ¬ bookS w base g b := by
  intro b hb hS
  obtain ⟨cells, hc⟩ := own_typed hO b hb
  rcases hS with rfl | ⟨_, cells', hc'⟩
  · exact typed_ne hc hC.blk hC.t2.symm rfl
  · exact typed_ne hc hc' (by decide) rfl
/-- What an int holds. -/
def I64 (n : Int) : Prop := -9223372036854775808 ≤ n ∧ n ≤ 9223372036854775807
theorem wrap_ex (x : Int) : ∃ y, IntKind.i64.wrap x = y ∧ wrap64 x = y ∧ I64 y := ⟨_, rfl, by rw [IntKind.wrap_i64, wrap64], by unfold I64; rw [IntKind.wrap_i64]; omega⟩
theorem Own.cap {w : World} {base : Nat} {A : Option Addr} {n c : Nat} {xs : List UInt8} (h : Own w base (.slice A n c) xs) : c ≤ 9223372036854775807 := by
  rcases h.2 with ⟨e, _⟩ | ⟨g, cap, cur, e, _, _, _, hm, _⟩
  · injection e with _ _ e; omega
  · injection e with _ _ e; subst e; simpa [maxLen] using hm
theorem KpsOk.snoc {w : World} {base : Nat} {I : List Kp} (h : KpsOk w base I) (i : Kp) (h1 : Own w base i.l i.xs) (h2 : Own w base i.was i.xs) (h3 : i.c ≤ 9223372036854775807) (h4 : ∀ j ∈ I, ∀ b, j.l.ownBlock = some b → i.l.ownBlock ≠ some b) : KpsOk w base (I ++ [i]) := by
  refine ⟨fun j hj => ?_, List.pairwise_append.2 ⟨h.apart, by simp, fun j hj k hk => ?_⟩⟩
  · rcases List.mem_append.1 hj with hj | hj
    · exact h.own j hj
    · rw [List.mem_singleton.1 hj]; exact ⟨h1, h2, h3⟩
  · rw [List.mem_singleton.1 hk]; exact h4 j hj

theorem row_head {w : World} {base : Nat} {t : TypeId} {A : Option Addr} {n c : Nat} {v : Value} {r : List (List Value)} (h : Row w base t 1 (.slice A n c) ([v] :: r)) : ∃ ad, A = some ad ∧ w.cell? ad = some v := by
  obtain ⟨ad, rfl, _, hc⟩ := h.cell 0 [v] rfl
  refine ⟨ad, rfl, ?_⟩
  have := hc 0 v rfl
  simpa [Addr.add] using this
/-- Behind the two appends. -/
theorem keep_mid {w w2 w3 w6 : World} {base g o : Nat} {t : TypeId} {pre post : List Value} {vl vw vl1 vw6 : Value} {I : List Kp} {A A2 : Option Addr} {c c2 : Nat} {xs : List UInt8} {n : Int} {Lx Wx L6 W6 : List (List Value)}
    (hC : BookC w base g o t pre post vl vw (lsc I) (wsc I) n) (hI : KpsOk w base I) (hO : Own w base (.slice A xs.length c) xs) (hF : ∀ i ∈ I, ∀ b, i.l.ownBlock = some b → (Value.slice A xs.length c).ownBlock ≠ some b) (hc : c ≤ 9223372036854775807)
    (hF2 : Fr (bookS w base g) w w2) (hC3 : BookC w3 base g o t pre post vl1 vw Lx Wx n) (hO3 : Own w3 base (.slice A2 xs.length c2) ([] ++ xs)) (hg3 : w2.grownBy w3 (Value.slice none 0 0).ownBlock)
    (hat3 : (Value.slice A2 xs.length c2).ownBlock = (Value.slice none 0 0).ownBlock ∨ (Value.slice A2 xs.length c2).ownBlock = some w2.heap.size) (hC6 : BookC w6 base g o t pre post vl1 vw6 L6 W6 n)
    (hF6 : Fr (bookS (w3.alloc (.cells [Value.slice A2 xs.length c2].toArray 23)) base g) (w3.alloc (.cells [Value.slice A2 xs.length c2].toArray 23)) w6) :
    KpsOk w6 base (I ++ [⟨A, c, A2, c2, xs⟩]) ∧ (∀ b, (Value.slice A2 xs.length c2).ownBlock = some b → w.heap.size ≤ b) ∧ Fr (bookS w base g) w w6 := by
  have f3 : Fr (bookS w2 base g) w2 w3 := Fr.of_grown hg3 (fun b hb => by cases hb)
  have f4 : Fr (bookS w3 base g) w3 w6 := (Fr.of_below (below_alloc (Below.refl w3.heap.size w3) _) (bookS w3 base g)).book hF6
  have f6 : Fr (bookS w base g) w w6 := (hF2.book f3).book f4
  refine ⟨(hI.fr f6 (hI.ne_book hC)).snoc _ (hO.fr f6 (own_ne_book hC hO)) ?_ hc hF, fun b hb => ?_, f6⟩
  · rw [List.nil_append] at hO3
    exact hO3.fr f4 (own_ne_book hC3 hO3)
  · rcases hat3 with h | h
    · rw [h] at hb; cases hb
    · rw [h] at hb
      obtain rfl := Option.some.inj hb
      exact hF2.size

set_option maxHeartbeats 6400000 in
set_option maxRecDepth 100000 in
theorem keep_ (base g o : Nat) (t : TypeId) (pre post : List Value) (vl vw : Value) (I : List Kp) (A : Option Addr) (c : Nat) (xs : List UInt8) (w : World) (n : Int) (hC : BookC w base g o t pre post vl vw (lsc I) (wsc I) n) (hn : I64 n) (hI : KpsOk w base I)
    (hlen : I.length ≤ 4000) (hO : Own w base (.slice A xs.length c) xs) (hx : xs.length ≤ 140737488355328)
    (hfresh : ∀ i ∈ I, ∀ b, i.l.ownBlock = some b → (Value.slice A xs.length c).ownBlock ≠ some b) :
    Calls Tryz.prog 26 #[.pointer (some ⟨g, o, none⟩), .slice A xs.length c] w fun r w' => r = .returned (.tuple #[]) ∧ ∃ vl' vw' I' n', BookC w' base g o t pre post vl' vw' (lsc I') (wsc I') n' ∧ I64 n' ∧ KpsOk w' base I' ∧
      I'.length ≤ 4000 ∧ (∀ i ∈ I', i ∈ I ∨ (i.l = .slice A xs.length c ∧ ∀ b, i.was.ownBlock = some b → w.heap.size ≤ b)) ∧ Fr (bookS w base g) w w' := by
  have hc := hO.cap
  have hn0 := hn.1
  have hn1 := hn.2
  obtain ⟨y1, u1, u1', hy1⟩ := wrap_ex (n + (c : Int))
  obtain ⟨y2, u2, u2', hy2⟩ := wrap_ex (y1 + 1)
  have hy10 := hy1.1
  have hy11 := hy1.2
  have hbase : base ≤ w.heap.size := by have := hC.hg; have := hC.lt; omega
  obtain ⟨h0, h1, h2, h3, f0, f1, f2, f3⟩ := hC.get
  have hb1 := below_alloc (Below.refl w.heap.size w) (.cells [Value.slice A xs.length c].toArray 23)
  have hC1 := hC.below hb1
  have HX := Lib.hid (And.intro hC1 (box_cells w [Value.slice A xs.length c] 23))
  have hll : (lsc I).length ≤ 4000 := by rw [lsc_length]; exact hlen
  have HC := Lib.hid hC
  have HI := Lib.hid hI
  have HO := Lib.hid hO
  have HF := Lib.hid hfresh
  clear hC hI hO hb1 hC1 hfresh h1 h2 h3 f0 f1 f2 f3
  go_enter Tryz.func26, Tryz.ntmps26
  go_wp2_with ((with_reducible refine at_builtin_ (b := .append) rfl ?_); go_must (refine app_row rfl _ _ 23 26 rfl base 1 24 _ Tryz.underlying26 infoSl rfl (by decide) vl (lsc I) rfl ⟨w.heap.size, 0, none⟩ 1 rfl HX.out.1.rl [Value.slice A xs.length c] rfl (by intro u hu; rw [List.mem_singleton.1 hu]; rfl) HX.out.2 (by omega) (by omega) (by simp; omega) _ rfl ?_); intro A1 c1 w1 hrow1 hg1 hat1; have hA1 := HX.out.1.app_l hrow1 hg1 hat1; obtain ⟨q0, q1⟩ := hA1.1)
  have hF2 := (Fr.of_below (below_alloc (Below.refl w.heap.size w) (.cells [Value.slice A xs.length c].toArray 23)) (bookS w base g)).book hA1.2.2
  have hC2 := hA1.2.1
  generalize hw2 : w1.setCell ⟨g, o, none⟩ (.slice A1 ((lsc I).length + 1) c1) = w2 at *
  have hC2d := hC2.below (below_drewN (Below.refl _ w2) 1)
  have hF2d := hF2.drewN 1
  have hOd := HO.out.fr hF2d (own_ne_book HC.out HO.out)
  have hs2 : w.heap.size ≤ w2.heap.size := hF2.size
  have g1 := hC2.get.2.1
  have n1 := World.new_ne w2 _ g1
  have HD := Lib.hid (And.intro hC2d (And.intro hF2d hOd.rd_))
  have hwl : (wsc I).length ≤ 4000 := by rw [wsc_length]; exact hlen
  clear hA1 hrow1 hg1 hat1 q0 q1 h0 hC2 hF2 hC2d hF2d hOd hw2
  refine region_last (S := (fun w' => w'.cell? ⟨g, o + 1, none⟩ = some vw)) (ds := [11]) (by kernel_rfl) ?_ (fun hHeld => ?_)
  · (try dsimp only); go_keep
  refine lk 0 (v := ?_) rfl (by kernel_rfl) (fun _ _ _ h => h) (by kernel_rfl) hHeld ?_ ?_
  rotate_left
  · (intro w0 hSw; (try dsimp only at hSw); go_simp; (try with_reducible rfl))
  (try simp only [Act.put, List.setIfInBounds_toArray, List.set_cons_zero, List.set_cons_succ])
  refine lk 1 (v := ?_) rfl (by kernel_rfl) (fun _ _ _ h => h) (by kernel_rfl) hHeld ?_ ?_
  rotate_left
  · (intro w0 hSw; (try dsimp only at hSw); go_simp; (try with_reducible rfl))
  (try simp only [Act.put, List.setIfInBounds_toArray, List.set_cons_zero, List.set_cons_succ])
  refine lk 2 (v := ?_) rfl (by kernel_rfl) (fun _ _ _ h => h) (by kernel_rfl) hHeld ?_ ?_
  rotate_left
  · (intro w0 hSw; (try dsimp only at hSw); go_simp; (try with_reducible rfl))
  (try simp only [Act.put, List.setIfInBounds_toArray, List.set_cons_zero, List.set_cons_succ])
  refine lk 3 (v := ?_) rfl (by kernel_rfl) (fun _ _ _ h => h) (by kernel_rfl) hHeld ?_ ?_
  rotate_left
  · (intro w0 hSw; (try dsimp only at hSw); go_simp; (try with_reducible rfl))
  (try simp only [Act.put, List.setIfInBounds_toArray, List.set_cons_zero, List.set_cons_succ])
  refine lk 4 (v := ?_) rfl (by kernel_rfl) (fun _ _ _ h => h) (by kernel_rfl) hHeld ?_ ?_
  rotate_left
  · (intro w0 hSw; (try dsimp only at hSw); go_simp; (try with_reducible rfl))
  (try simp only [Act.put, List.setIfInBounds_toArray, List.set_cons_zero, List.set_cons_succ])
  refine lk 5 (v := ?_) rfl (by kernel_rfl) (fun _ _ _ h => h) (by kernel_rfl) hHeld ?_ ?_
  rotate_left
  · (intro w0 hSw; (try dsimp only at hSw); go_simp; (try with_reducible rfl))
  (try simp only [Act.put, List.setIfInBounds_toArray, List.set_cons_zero, List.set_cons_succ])
  refine lr 6 rfl (by kernel_rfl) (by decide) (fun K hK => ?_)
  (refine step_app_u8 rfl _ _ rfl base (.slice none 0 0) [] A xs.length c xs rfl rfl (Own.nil _ _) HD.out.2.2 (Nat.le_trans hbase hs2) xs.length (by simp) hx ?_; intro A2 c2 w3 hO3 hg3 hat3; have hC3 := HD.out.1.fr (S := fun _ => False) (Fr.of_grown hg3 (fun b hb => by cases hb)) (fun h => h) (fun _ _ h => h) (fun _ _ h => h); have HC3 := Lib.hid (And.intro hC3 (And.intro hO3 (And.intro hg3 (below_alloc (Below.refl w3.heap.size w3) (.cells [Value.slice A2 xs.length c2].toArray 23))))); have g3 := hC3.get.2.1; have hs3 : w2.heap.size ≤ w3.heap.size := hg3.size; clear hO3 hg3 hC3)
  clear hHeld
  refine hK.out _ _ ?_ (fun hHeld => ?_)
  · (try dsimp only); go_keep
  clear hK K
  (try simp only [Act.put, List.setIfInBounds_toArray, List.set_cons_zero, List.set_cons_succ])
  refine lr 7 rfl (by kernel_rfl) (by decide) (fun K hK => ?_)
  go_simp
  clear hHeld
  refine hK.out _ _ ?_ (fun hHeld => ?_)
  · (try dsimp only); go_keep
  clear hK K
  (try simp only [Act.put, List.setIfInBounds_toArray, List.set_cons_zero, List.set_cons_succ])
  refine lr 8 rfl (by kernel_rfl) (by decide) (fun K hK => ?_)
  (refine step_app_row rfl _ _ 23 26 rfl base 1 24 _ Tryz.underlying26 infoSl rfl (by decide) vw (wsc I) rfl ⟨w3.heap.size, 0, none⟩ 1 rfl (HC3.out.1.below HC3.out.2.2.2).rw_ [Value.slice A2 xs.length c2] rfl (by intro u hu; rw [List.mem_singleton.1 hu]; rfl) (box_cells w3 [Value.slice A2 xs.length c2] 23) (by omega) (by omega) (by simp; omega) _ rfl ?_; intro A5 c5 w5 hrow5 hg5 hat5; have hA5 := (HC3.out.1.below HC3.out.2.2.2).app_w hrow5 hg5 hat5; obtain ⟨q0, q1⟩ := hA5.1; have HC5 := Lib.hid hA5.2; clear hA5 hrow5 hg5 hat5)
  clear hHeld
  refine hK.out _ _ ?_ (fun hHeld => ?_)
  · (try dsimp only); go_keep
  clear hK K
  (try simp only [Act.put, List.setIfInBounds_toArray, List.set_cons_zero, List.set_cons_succ])
  refine lk 9 (v := ?_) rfl (by kernel_rfl) (fun _ _ _ h => h) (by kernel_rfl) hHeld ?_ ?_
  rotate_left
  · (intro w0 hSw; (try dsimp only at hSw); go_simp; (try with_reducible rfl))
  (try simp only [Act.put, List.setIfInBounds_toArray, List.set_cons_zero, List.set_cons_succ])
  refine lk 10 (v := ?_) rfl (by kernel_rfl) (fun _ _ _ h => h) (by kernel_rfl) hHeld ?_ ?_
  rotate_left
  · (intro w0 hSw; (try dsimp only at hSw); go_simp; (try with_reducible rfl))
  (try simp only [Act.put, List.setIfInBounds_toArray, List.set_cons_zero, List.set_cons_succ])
  refine ll 11 rfl (by kernel_rfl) (by decide) (fun K hK => ?_)
  go_simp
  (try clear hHeld)
  refine hK.out _ _ ?_
  clear hK K
  (try simp only [Act.put, List.setIfInBounds_toArray, List.set_cons_zero, List.set_cons_succ])
  refine last_done (by kernel_rfl) ?_ _
  have HM := Lib.hid (keep_mid HC.out HI.out HO.out HF.out hc HD.out.2.1 HC3.out.1 HC3.out.2.1 HC3.out.2.2.1 hat3 HC5.out.1 HC5.out.2)
  have hC6 := HC5.out.1
  have e1 : lsc I ++ [[Value.slice A xs.length c]] = lsc (I ++ [⟨A, c, A2, c2, xs⟩]) := lsc_snoc I ⟨A, c, A2, c2, xs⟩
  have e2 : wsc I ++ [[Value.slice A2 xs.length c2]] = wsc (I ++ [⟨A, c, A2, c2, xs⟩]) := wsc_snoc I ⟨A, c, A2, c2, xs⟩
  rw [e1, e2] at hC6
  have HLN := Lib.hid (show (I ++ [(⟨A, c, A2, c2, xs⟩ : Kp)]).length = I.length + 1 by simp)
  have HNW := Lib.hid (show ∀ i ∈ I ++ [(⟨A, c, A2, c2, xs⟩ : Kp)], i ∈ I ∨ (i.l = .slice A xs.length c ∧ ∀ b, i.was.ownBlock = some b → w.heap.size ≤ b) from by
    intro i hi
    rcases List.mem_append.1 hi with hi | hi
    · exact .inl hi
    · rw [List.mem_singleton.1 hi]; exact .inr ⟨rfl, HM.out.2.1⟩)
  generalize hw6 : w5.setCell ⟨g, o + 1, none⟩ (.slice A5 ((wsc I).length + 1) c5) = w6 at *
  generalize hJ : I ++ [(⟨A, c, A2, c2, xs⟩ : Kp)] = J at *
  have HC6 := Lib.hid hC6
  obtain ⟨k0, k1, k2, k3, f0, f1, f2, f3⟩ := hC6.get
  obtain ⟨hC7, hF7⟩ := hC6.set_n y2
  have HC7 := Lib.hid (And.intro hC7 (HM.out.2.2.book hF7))
  have HK7 := Lib.hid (HM.out.1.fr hF7 (HM.out.1.ne_book hC6))
  clear hC6 e1 e2 hC7 hF7 hw6 hJ HC5 HC3 HD HX g1 n1 g3 q0 q1 hat3
  go_wp2_with fail
  have hJ1 : 1 ≤ J.length := by have := HLN.out; omega
  have HC8 := Lib.hid HC7.out.1
  have HJL := Lib.hid (show J.length ≤ 4001 by have := HLN.out; omega)
  clear k0 k1 k2 k3 f0 f1 f2 f3 HC6 u1 u1' u2 u2' hy10 hy11 hn0 hn1
  go_loopg [] (J.length) (fun k wr => ∃ vl vw I' hd, I'.length = k ∧ 1 ≤ I'.length ∧ Hid (I64 hd) ∧ Hid (BookC wr base g o t pre post vl vw (lsc I') (wsc I') hd ∧ KpsOk wr base I' ∧ Fr (bookS w base g) w wr ∧ (∀ i ∈ I', i ∈ J)))
  case atStart => exact ⟨_, _, J, _, rfl, hJ1, Lib.hid hy2, Lib.hid ⟨HC8.out, HK7.out, HC7.out.2, fun i hi => hi⟩⟩
  case round =>
    clear HC8 HK7 HC7 HM
    obtain ⟨vl1, vw1, I1, hd, hk, hI1, HHD, HB⟩ := hrel
    have HK := Lib.hid hk
    clear hk
    obtain ⟨k0, k1, k2, k3, f0, f1, f2, f3⟩ := HB.out.1.get
    obtain ⟨Al, cl, hvl, hcl⟩ := HB.out.1.rl.shape
    obtain ⟨Aw, cw, hvw, hcw⟩ := HB.out.1.rw_.shape
    rw [lsc_length] at hvl hcl
    rw [wsc_length] at hvw hcw
    subst hvl hvw
    have hend : ∀ W : World, W = wr → I1.length ≤ 4000 → (∃ vl' vw' I' n', BookC W base g o t pre post vl' vw' (lsc I') (wsc I') n' ∧ I64 n' ∧ KpsOk W base I' ∧ I'.length ≤ 4000 ∧ (∀ i ∈ I', i ∈ I ∨ (i.l = .slice A xs.length c ∧ ∀ b, i.was.ownBlock = some b → w.heap.size ≤ b)) ∧ Fr (bookS w base g) w W) := by
      rintro W rfl hs
      exact ⟨_, _, I1, _, HB.out.1, HHD.out, HB.out.2.1, hs, fun i hi => HNW.out i (HB.out.2.2.2 i hi), HB.out.2.2.1⟩
    have HEND := Lib.hid hend
    clear hend
    by_cases c1 : 1 < I1.length
    · by_cases c2 : 1000000 < hd ∨ 4000 < I1.length
      · clear HEND
        obtain ⟨i0, rest, rfl⟩ : ∃ i0 rest, I1 = i0 :: rest := by
          match I1, hI1 with
          | i0 :: rest, _ => exact ⟨i0, rest, rfl⟩
        obtain ⟨al, hal, m0⟩ := row_head (v := i0.l) HB.out.1.rl
        obtain ⟨aw, haw, m1⟩ := row_head (v := i0.was) HB.out.1.rw_
        subst hal haw
        change wr.cell? al = some (.slice i0.A i0.xs.length i0.c) at m0
        change wr.cell? aw = some (.slice i0.A2 i0.xs.length i0.c2) at m1
        obtain ⟨n1, hn1⟩ : ∃ n1, (i0 :: rest).length = n1 := ⟨_, rfl⟩
        have HN1 := Lib.hid hn1
        rw [hn1] at c1 c2 k0 k1 hcl hcw
        have HR := Lib.hid (show rest.length + 1 = n1 by rw [← hn1]; rfl)
        clear hn1 hI1
        have HS0 := Lib.hid (HB.out.2.1.own i0 (by simp))
        have t1 : decide (1 < n1) = true := decide_eq_true c1
        have t1' : decide ((1 : Int) < (n1 : Int)) = true := decide_eq_true (by omega)
        have p0 : (0 : Int) < (n1 : Int) := by omega
        have p1 : 0 < n1 := by omega
        have wcap : i0.c ≤ 9223372036854775807 := HS0.out.2.2
        have hd0 := HHD.out.1
        have hd1 := HHD.out.2
        by_cases c2a : 1000000 < hd
        · have t2 : decide ((1000000 : Int) < hd) = true := decide_eq_true c2a
          clear c2
          go_wp2_with fail
          refine region_last (S := (fun w' => w'.cell? ⟨g, o + 3, none⟩ = some (.bool false) ∧ w'.cell? ⟨g, o, none⟩ = some (.slice (some al) n1 cl) ∧ w'.cell? ⟨g, o + 1, none⟩ = some (.slice (some aw) n1 cw) ∧ w'.cell? al = some (.slice i0.A i0.xs.length i0.c) ∧ w'.cell? aw = some (.slice i0.A2 i0.xs.length i0.c2))) (ds := [23]) (by kernel_rfl) ?_ (fun hHeld => ?_)
          · (try dsimp only); go_keep
          refine lk 0 (v := ?_) rfl (by kernel_rfl) (fun _ _ _ h => h) (by kernel_rfl) hHeld ?_ ?_
          rotate_left
          · (intro w0 hSw; (try dsimp only at hSw); go_simp; (try with_reducible rfl))
          (try simp only [Act.put, List.setIfInBounds_toArray, List.set_cons_zero, List.set_cons_succ])
          refine lk 1 (v := ?_) rfl (by kernel_rfl) (fun _ _ _ h => h) (by kernel_rfl) hHeld ?_ ?_
          rotate_left
          · (intro w0 hSw; (try dsimp only at hSw); go_simp; (try with_reducible rfl))
          (try simp only [Act.put, List.setIfInBounds_toArray, List.set_cons_zero, List.set_cons_succ])
          refine lk 2 (v := ?_) rfl (by kernel_rfl) (fun _ _ _ h => h) (by kernel_rfl) hHeld ?_ ?_
          rotate_left
          · (intro w0 hSw; (try dsimp only at hSw); go_simp; (try with_reducible rfl))
          (try simp only [Act.put, List.setIfInBounds_toArray, List.set_cons_zero, List.set_cons_succ])
          refine lk 3 (v := ?_) rfl (by kernel_rfl) (fun _ _ _ h => h) (by kernel_rfl) hHeld ?_ ?_
          rotate_left
          · (intro w0 hSw; (try dsimp only at hSw); go_simp; (try with_reducible rfl))
          (try simp only [Act.put, List.setIfInBounds_toArray, List.set_cons_zero, List.set_cons_succ])
          refine lk 4 (v := ?_) rfl (by kernel_rfl) (fun _ _ _ h => h) (by kernel_rfl) hHeld ?_ ?_
          rotate_left
          · (intro w0 hSw; (try dsimp only at hSw); go_simp; (try with_reducible rfl))
          (try simp only [Act.put, List.setIfInBounds_toArray, List.set_cons_zero, List.set_cons_succ])
          refine lk 5 (v := ?_) rfl (by kernel_rfl) (fun _ _ _ h => h) (by kernel_rfl) hHeld ?_ ?_
          rotate_left
          · (intro w0 hSw; (try dsimp only at hSw); go_simp; (try with_reducible rfl))
          (try simp only [Act.put, List.setIfInBounds_toArray, List.set_cons_zero, List.set_cons_succ])
          refine lk 6 (v := ?_) rfl (by kernel_rfl) (fun _ _ _ h => h) (by kernel_rfl) hHeld ?_ ?_
          rotate_left
          · (intro w0 hSw; (try dsimp only at hSw); go_simp; (try with_reducible rfl))
          (try simp only [Act.put, List.setIfInBounds_toArray, List.set_cons_zero, List.set_cons_succ])
          refine lk 7 (v := ?_) rfl (by kernel_rfl) (fun _ _ _ h => h) (by kernel_rfl) hHeld ?_ ?_
          rotate_left
          · (intro w0 hSw; (try dsimp only at hSw); go_simp; (try with_reducible rfl))
          (try simp only [Act.put, List.setIfInBounds_toArray, List.set_cons_zero, List.set_cons_succ])
          refine lk 8 (v := ?_) rfl (by kernel_rfl) (fun _ _ _ h => h) (by kernel_rfl) hHeld ?_ ?_
          rotate_left
          · (intro w0 hSw; (try dsimp only at hSw); go_simp; (try with_reducible rfl))
          (try simp only [Act.put, List.setIfInBounds_toArray, List.set_cons_zero, List.set_cons_succ])
          refine lk 9 (v := ?_) rfl (by kernel_rfl) (fun _ _ _ h => h) (by kernel_rfl) hHeld ?_ ?_
          rotate_left
          · (intro w0 hSw; (try dsimp only at hSw); go_simp; (try with_reducible rfl))
          (try simp only [Act.put, List.setIfInBounds_toArray, List.set_cons_zero, List.set_cons_succ])
          refine lk 10 (v := ?_) rfl (by kernel_rfl) (fun _ _ _ h => h) (by kernel_rfl) hHeld ?_ ?_
          rotate_left
          · (intro w0 hSw; (try dsimp only at hSw); go_simp; (try with_reducible rfl))
          (try simp only [Act.put, List.setIfInBounds_toArray, List.set_cons_zero, List.set_cons_succ])
          refine lk 11 (v := ?_) rfl (by kernel_rfl) (fun _ _ _ h => h) (by kernel_rfl) hHeld ?_ ?_
          rotate_left
          · (intro w0 hSw; (try dsimp only at hSw); go_simp; (try with_reducible rfl))
          (try simp only [Act.put, List.setIfInBounds_toArray, List.set_cons_zero, List.set_cons_succ])
          refine lk 12 (v := ?_) rfl (by kernel_rfl) (fun _ _ _ h => h) (by kernel_rfl) hHeld ?_ ?_
          rotate_left
          · (intro w0 hSw; (try dsimp only at hSw); go_simp; (try with_reducible rfl))
          (try simp only [Act.put, List.setIfInBounds_toArray, List.set_cons_zero, List.set_cons_succ])
          refine lk 13 (v := ?_) rfl (by kernel_rfl) (fun _ _ _ h => h) (by kernel_rfl) hHeld ?_ ?_
          rotate_left
          · (intro w0 hSw; (try dsimp only at hSw); go_simp; (try with_reducible rfl))
          (try simp only [Act.put, List.setIfInBounds_toArray, List.set_cons_zero, List.set_cons_succ])
          refine lk 14 (v := ?_) rfl (by kernel_rfl) (fun _ _ _ h => h) (by kernel_rfl) hHeld ?_ ?_
          rotate_left
          · (intro w0 hSw; (try dsimp only at hSw); go_simp; (try with_reducible rfl))
          (try simp only [Act.put, List.setIfInBounds_toArray, List.set_cons_zero, List.set_cons_succ])
          refine lk 15 (v := ?_) rfl (by kernel_rfl) (fun _ _ _ h => h) (by kernel_rfl) hHeld ?_ ?_
          rotate_left
          · (intro w0 hSw; (try dsimp only at hSw); go_simp; (try with_reducible rfl))
          (try simp only [Act.put, List.setIfInBounds_toArray, List.set_cons_zero, List.set_cons_succ])
          refine lk 16 (v := ?_) rfl (by kernel_rfl) (fun _ _ _ h => h) (by kernel_rfl) hHeld ?_ ?_
          rotate_left
          · (intro w0 hSw; (try dsimp only at hSw); go_simp; (try with_reducible rfl))
          (try simp only [Act.put, List.setIfInBounds_toArray, List.set_cons_zero, List.set_cons_succ])
          refine lk 17 (v := ?_) rfl (by kernel_rfl) (fun _ _ _ h => h) (by kernel_rfl) hHeld ?_ ?_
          rotate_left
          · (intro w0 hSw; (try dsimp only at hSw); go_simp; (try with_reducible rfl))
          (try simp only [Act.put, List.setIfInBounds_toArray, List.set_cons_zero, List.set_cons_succ])
          refine lr 18 rfl (by kernel_rfl) (by decide) (fun K hK => ?_)
          (refine goes Tryz.func24 (by kernel_rfl) rfl #[.slice i0.A i0.xs.length i0.c, .slice i0.A2 i0.xs.length i0.c2] rfl rfl (by simp only [List.map_toArray, List.map_cons, List.map_nil]; rfl) ?_; refine (same i0.A i0.A2 i0.xs.length i0.c i0.xs.length i0.c2 i0.xs i0.xs _ (show Rd wr.drew i0.A i0.xs.length (bvs i0.xs) from Own.rd_ HS0.out.1) (show Rd wr.drew i0.A2 i0.xs.length (bvs i0.xs) from Own.rd_ HS0.out.2.1)).mono ?_; rintro r wS ⟨rfl, ⟨nS, rfl⟩⟩; refine ⟨_, rfl, ?_⟩; rw [decide_eq_true rfl])
          clear hHeld
          refine hK.out _ _ ?_ (fun hHeld => ?_)
          · (try dsimp only); go_keep
          clear hK K
          (try simp only [Act.put, List.setIfInBounds_toArray, List.set_cons_zero, List.set_cons_succ])
          refine lk 19 (v := ?_) rfl (by kernel_rfl) (fun _ _ _ h => h) (by kernel_rfl) hHeld ?_ ?_
          rotate_left
          · (intro w0 hSw; (try dsimp only at hSw); go_simp; (try with_reducible rfl))
          (try simp only [Act.put, List.setIfInBounds_toArray, List.set_cons_zero, List.set_cons_succ])
          refine lk 20 (v := ?_) rfl (by kernel_rfl) (fun _ _ _ h => h) (by kernel_rfl) hHeld ?_ ?_
          rotate_left
          · (intro w0 hSw; (try dsimp only at hSw); go_simp; (try with_reducible rfl))
          (try simp only [Act.put, List.setIfInBounds_toArray, List.set_cons_zero, List.set_cons_succ])
          refine lk 21 (v := ?_) rfl (by kernel_rfl) (fun _ _ _ h => h) (by kernel_rfl) hHeld ?_ ?_
          rotate_left
          · (intro w0 hSw; (try dsimp only at hSw); go_simp; (try with_reducible rfl))
          (try simp only [Act.put, List.setIfInBounds_toArray, List.set_cons_zero, List.set_cons_succ])
          refine lk 22 (v := ?_) rfl (by kernel_rfl) (fun _ _ _ h => h) (by kernel_rfl) hHeld ?_ ?_
          rotate_left
          · (intro w0 hSw; (try dsimp only at hSw); go_simp; (try with_reducible rfl))
          (try simp only [Act.put, List.setIfInBounds_toArray, List.set_cons_zero, List.set_cons_succ])
          refine ll 23 rfl (by kernel_rfl) (by decide) (fun K hK => ?_)
          go_simp
          (try clear hHeld)
          refine hK.out _ _ ?_
          clear hK K
          (try simp only [Act.put, List.setIfInBounds_toArray, List.set_cons_zero, List.set_cons_succ])
          refine last_done (by kernel_rfl) ?_ _
          have hX4 := (HB.out.1.below (below_drewN (Below.refl _ wr) (1 + nS))).set_b
          have hF4 := (Fr.of_below (below_drewN (Below.refl _ wr) (1 + nS)) (bookS wr base g)).book hX4.2
          obtain ⟨w4, hw4⟩ : ∃ w4, (wr.drewN (1 + nS)).setCell ⟨g, o + 3, none⟩ (.bool false) = w4 := ⟨_, rfl⟩
          rw [hw4] at hX4 hF4 ⊢
          have HX4 := Lib.hid (And.intro hX4.1 hF4)
          clear hX4 hF4 hw4 k0 k1 k2 k3 f0 f1 f2 f3 m0 m1 t1 t1' t2
          obtain ⟨k0, k1, k2, k3, f0, f1, f2, f3⟩ := HX4.out.1.get
          rw [HN1.out] at k0 k1
          obtain ⟨al', hal, m0⟩ := row_head (v := i0.l) HX4.out.1.rl
          injection hal with hal
          subst hal
          change w4.cell? al = some (.slice i0.A i0.xs.length i0.c) at m0
          obtain ⟨y1, u1, u1', hy1⟩ := wrap_ex (hd - (i0.c : Int))
          obtain ⟨y2, u2, u2', hy2⟩ := wrap_ex (y1 - 1)
          have hy10 := hy1.1
          have hy11 := hy1.2
          go_wp2_with fail
          refine region_last (S := (fun w' => w'.cell? ⟨g, o + 2, none⟩ = some (.int .i64 hd) ∧ w'.cell? ⟨g, o, none⟩ = some (.slice (some al) n1 cl) ∧ w'.cell? al = some (.slice i0.A i0.xs.length i0.c))) (ds := [16]) (by kernel_rfl) ?_ (fun hHeld => ?_)
          · (try dsimp only); go_keep
          refine lk 0 (v := ?_) rfl (by kernel_rfl) (fun _ _ _ h => h) (by kernel_rfl) hHeld ?_ ?_
          rotate_left
          · (intro w0 hSw; (try dsimp only at hSw); go_simp; (try with_reducible rfl))
          (try simp only [Act.put, List.setIfInBounds_toArray, List.set_cons_zero, List.set_cons_succ])
          refine lk 1 (v := ?_) rfl (by kernel_rfl) (fun _ _ _ h => h) (by kernel_rfl) hHeld ?_ ?_
          rotate_left
          · (intro w0 hSw; (try dsimp only at hSw); go_simp; (try with_reducible rfl))
          (try simp only [Act.put, List.setIfInBounds_toArray, List.set_cons_zero, List.set_cons_succ])
          refine lk 2 (v := ?_) rfl (by kernel_rfl) (fun _ _ _ h => h) (by kernel_rfl) hHeld ?_ ?_
          rotate_left
          · (intro w0 hSw; (try dsimp only at hSw); go_simp; (try with_reducible rfl))
          (try simp only [Act.put, List.setIfInBounds_toArray, List.set_cons_zero, List.set_cons_succ])
          refine lk 3 (v := ?_) rfl (by kernel_rfl) (fun _ _ _ h => h) (by kernel_rfl) hHeld ?_ ?_
          rotate_left
          · (intro w0 hSw; (try dsimp only at hSw); go_simp; (try with_reducible rfl))
          (try simp only [Act.put, List.setIfInBounds_toArray, List.set_cons_zero, List.set_cons_succ])
          refine lk 4 (v := ?_) rfl (by kernel_rfl) (fun _ _ _ h => h) (by kernel_rfl) hHeld ?_ ?_
          rotate_left
          · (intro w0 hSw; (try dsimp only at hSw); go_simp; (try with_reducible rfl))
          (try simp only [Act.put, List.setIfInBounds_toArray, List.set_cons_zero, List.set_cons_succ])
          refine lk 5 (v := ?_) rfl (by kernel_rfl) (fun _ _ _ h => h) (by kernel_rfl) hHeld ?_ ?_
          rotate_left
          · (intro w0 hSw; (try dsimp only at hSw); go_simp; (try with_reducible rfl))
          (try simp only [Act.put, List.setIfInBounds_toArray, List.set_cons_zero, List.set_cons_succ])
          refine lk 6 (v := ?_) rfl (by kernel_rfl) (fun _ _ _ h => h) (by kernel_rfl) hHeld ?_ ?_
          rotate_left
          · (intro w0 hSw; (try dsimp only at hSw); go_simp; (try with_reducible rfl))
          (try simp only [Act.put, List.setIfInBounds_toArray, List.set_cons_zero, List.set_cons_succ])
          refine lk 7 (v := ?_) rfl (by kernel_rfl) (fun _ _ _ h => h) (by kernel_rfl) hHeld ?_ ?_
          rotate_left
          · (intro w0 hSw; (try dsimp only at hSw); go_simp; (try with_reducible rfl))
          (try simp only [Act.put, List.setIfInBounds_toArray, List.set_cons_zero, List.set_cons_succ])
          refine lk 8 (v := ?_) rfl (by kernel_rfl) (fun _ _ _ h => h) (by kernel_rfl) hHeld ?_ ?_
          rotate_left
          · (intro w0 hSw; (try dsimp only at hSw); go_simp; (try with_reducible rfl))
          (try simp only [Act.put, List.setIfInBounds_toArray, List.set_cons_zero, List.set_cons_succ])
          refine lk 9 (v := ?_) rfl (by kernel_rfl) (fun _ _ _ h => h) (by kernel_rfl) hHeld ?_ ?_
          rotate_left
          · (intro w0 hSw; (try dsimp only at hSw); go_simp; (try with_reducible rfl))
          (try simp only [Act.put, List.setIfInBounds_toArray, List.set_cons_zero, List.set_cons_succ])
          refine lk 10 (v := ?_) rfl (by kernel_rfl) (fun _ _ _ h => h) (by kernel_rfl) hHeld ?_ ?_
          rotate_left
          · (intro w0 hSw; (try dsimp only at hSw); go_simp; (try with_reducible rfl))
          (try simp only [Act.put, List.setIfInBounds_toArray, List.set_cons_zero, List.set_cons_succ])
          refine lk 11 (v := ?_) rfl (by kernel_rfl) (fun _ _ _ h => h) (by kernel_rfl) hHeld ?_ ?_
          rotate_left
          · (intro w0 hSw; (try dsimp only at hSw); go_simp; (try with_reducible rfl))
          (try simp only [Act.put, List.setIfInBounds_toArray, List.set_cons_zero, List.set_cons_succ])
          refine lk 12 (v := ?_) rfl (by kernel_rfl) (fun _ _ _ h => h) (by kernel_rfl) hHeld ?_ ?_
          rotate_left
          · (intro w0 hSw; (try dsimp only at hSw); go_simp; (try with_reducible rfl))
          (try simp only [Act.put, List.setIfInBounds_toArray, List.set_cons_zero, List.set_cons_succ])
          refine lk 13 (v := ?_) rfl (by kernel_rfl) (fun _ _ _ h => h) (by kernel_rfl) hHeld ?_ ?_
          rotate_left
          · (intro w0 hSw; (try dsimp only at hSw); go_simp; (try with_reducible rfl))
          (try simp only [Act.put, List.setIfInBounds_toArray, List.set_cons_zero, List.set_cons_succ])
          refine lk 14 (v := ?_) rfl (by kernel_rfl) (fun _ _ _ h => h) (by kernel_rfl) hHeld ?_ ?_
          rotate_left
          · (intro w0 hSw; (try dsimp only at hSw); go_simp; (try with_reducible rfl))
          (try simp only [Act.put, List.setIfInBounds_toArray, List.set_cons_zero, List.set_cons_succ])
          refine lk 15 (v := ?_) rfl (by kernel_rfl) (fun _ _ _ h => h) (by kernel_rfl) hHeld ?_ ?_
          rotate_left
          · (intro w0 hSw; (try dsimp only at hSw); go_simp; (try with_reducible rfl))
          (try simp only [Act.put, List.setIfInBounds_toArray, List.set_cons_zero, List.set_cons_succ])
          refine ll 16 rfl (by kernel_rfl) (by decide) (fun K hK => ?_)
          go_simp
          (try clear hHeld)
          refine hK.out _ _ ?_
          clear hK K
          (try simp only [Act.put, List.setIfInBounds_toArray, List.set_cons_zero, List.set_cons_succ])
          refine last_done (by kernel_rfl) ?_ _
          clear u1 u2 u1' u2'
          have hX5 := (HX4.out.1.set_n y2)
          have hF5 := hX5.2.drewN 1
          have hX5 := hX5.1.below (below_drewN (Below.refl _ _) 1)
          obtain ⟨w5', hw5⟩ : ∃ w5', (w4.setCell ⟨g, o + 2, none⟩ (.int .i64 y2)).drew = w5' := ⟨_, rfl⟩
          change BookC ((w4.setCell ⟨g, o + 2, none⟩ (.int .i64 y2)).drew) _ _ _ _ _ _ _ _ _ _ _ at hX5
          change Fr _ w4 ((w4.setCell ⟨g, o + 2, none⟩ (.int .i64 y2)).drew) at hF5
          rw [hw5] at hX5 hF5 ⊢
          have HX5 := Lib.hid (And.intro hX5 (HX4.out.2.book hF5))
          clear hX5 hF5 hw5 k0 k1 k2 k3 f0 f1 f2 f3 m0
          obtain ⟨k0, k1, k2, k3, f0, f1, f2, f3⟩ := HX5.out.1.get
          rw [HN1.out] at k0 k1
          have hrl := HX5.out.1.rl
          rw [HN1.out] at hrl
          obtain ⟨Al2, hcutl, hobl, hrl2⟩ := row_cut1 Tryz.underlying26 infoSl hrl (by omega) hcl
          have hX6 := HX5.out.1.set_l (v' := .slice Al2 (n1 - 1) (cl - 1)) (L' := lsc rest) hrl2 (fun b hb => HX5.out.1.ne b (by rw [HN1.out]; rw [hobl] at hb; exact hb))
          have hrw := hX6.1.rw_
          rw [HN1.out] at hrw
          obtain ⟨Aw2, hcutw, hobw, hrw2⟩ := row_cut1 Tryz.underlying26 infoSl hrw (by omega) hcw
          have hX7 := hX6.1.set_w (v' := .slice Aw2 (n1 - 1) (cw - 1)) (L' := wsc rest) hrw2 (fun b hb e => hX6.1.ne b hb (by rw [HN1.out]; rw [hobw] at e; exact e))
          have k6 := hX6.1.get.2.1
          have f6 := hX6.1.get.2.2.2.2.2.1
          rw [HN1.out] at k6
          have HX7 := Lib.hid (And.intro hX7.1 ((HX5.out.2.book hX6.2).book hX7.2))
          clear hX6 hX7 hrl hrl2 hrw hrw2 hobl hobw
          go_wp2_with fail
          go_roundg (rest.length)
          case measure => rw [← HK.out]; simp
          case rel =>
            exact ⟨.slice Al2 (n1 - 1) (cl - 1), .slice Aw2 (n1 - 1) (cw - 1), rest, y2, rfl, by have := HR.out; omega, Lib.hid hy2, Lib.hid ⟨HX7.out.1, (HB.out.2.1.tail).fr HX7.out.2 (fun i hi b hb => HB.out.2.1.ne_book HB.out.1 i (by simp [hi]) b hb), HB.out.2.2.1.book HX7.out.2, fun i hi => HB.out.2.2.2 i (by simp [hi])⟩⟩
        · have t2 : decide ((1000000 : Int) < hd) = false := decide_eq_false c2a
          have t3 : decide (4000 < n1) = true := decide_eq_true (by omega)
          have t3' : decide ((4000 : Int) < (n1 : Int)) = true := decide_eq_true (by omega)
          clear c2
          go_wp2_with fail
          refine region_last (S := (fun w' => w'.cell? ⟨g, o + 3, none⟩ = some (.bool false) ∧ w'.cell? ⟨g, o, none⟩ = some (.slice (some al) n1 cl) ∧ w'.cell? ⟨g, o + 1, none⟩ = some (.slice (some aw) n1 cw) ∧ w'.cell? al = some (.slice i0.A i0.xs.length i0.c) ∧ w'.cell? aw = some (.slice i0.A2 i0.xs.length i0.c2))) (ds := [23]) (by kernel_rfl) ?_ (fun hHeld => ?_)
          · (try dsimp only); go_keep
          refine lk 0 (v := ?_) rfl (by kernel_rfl) (fun _ _ _ h => h) (by kernel_rfl) hHeld ?_ ?_
          rotate_left
          · (intro w0 hSw; (try dsimp only at hSw); go_simp; (try with_reducible rfl))
          (try simp only [Act.put, List.setIfInBounds_toArray, List.set_cons_zero, List.set_cons_succ])
          refine lk 1 (v := ?_) rfl (by kernel_rfl) (fun _ _ _ h => h) (by kernel_rfl) hHeld ?_ ?_
          rotate_left
          · (intro w0 hSw; (try dsimp only at hSw); go_simp; (try with_reducible rfl))
          (try simp only [Act.put, List.setIfInBounds_toArray, List.set_cons_zero, List.set_cons_succ])
          refine lk 2 (v := ?_) rfl (by kernel_rfl) (fun _ _ _ h => h) (by kernel_rfl) hHeld ?_ ?_
          rotate_left
          · (intro w0 hSw; (try dsimp only at hSw); go_simp; (try with_reducible rfl))
          (try simp only [Act.put, List.setIfInBounds_toArray, List.set_cons_zero, List.set_cons_succ])
          refine lk 3 (v := ?_) rfl (by kernel_rfl) (fun _ _ _ h => h) (by kernel_rfl) hHeld ?_ ?_
          rotate_left
          · (intro w0 hSw; (try dsimp only at hSw); go_simp; (try with_reducible rfl))
          (try simp only [Act.put, List.setIfInBounds_toArray, List.set_cons_zero, List.set_cons_succ])
          refine lk 4 (v := ?_) rfl (by kernel_rfl) (fun _ _ _ h => h) (by kernel_rfl) hHeld ?_ ?_
          rotate_left
          · (intro w0 hSw; (try dsimp only at hSw); go_simp; (try with_reducible rfl))
          (try simp only [Act.put, List.setIfInBounds_toArray, List.set_cons_zero, List.set_cons_succ])
          refine lk 5 (v := ?_) rfl (by kernel_rfl) (fun _ _ _ h => h) (by kernel_rfl) hHeld ?_ ?_
          rotate_left
          · (intro w0 hSw; (try dsimp only at hSw); go_simp; (try with_reducible rfl))
          (try simp only [Act.put, List.setIfInBounds_toArray, List.set_cons_zero, List.set_cons_succ])
          refine lk 6 (v := ?_) rfl (by kernel_rfl) (fun _ _ _ h => h) (by kernel_rfl) hHeld ?_ ?_
          rotate_left
          · (intro w0 hSw; (try dsimp only at hSw); go_simp; (try with_reducible rfl))
          (try simp only [Act.put, List.setIfInBounds_toArray, List.set_cons_zero, List.set_cons_succ])
          refine lk 7 (v := ?_) rfl (by kernel_rfl) (fun _ _ _ h => h) (by kernel_rfl) hHeld ?_ ?_
          rotate_left
          · (intro w0 hSw; (try dsimp only at hSw); go_simp; (try with_reducible rfl))
          (try simp only [Act.put, List.setIfInBounds_toArray, List.set_cons_zero, List.set_cons_succ])
          refine lk 8 (v := ?_) rfl (by kernel_rfl) (fun _ _ _ h => h) (by kernel_rfl) hHeld ?_ ?_
          rotate_left
          · (intro w0 hSw; (try dsimp only at hSw); go_simp; (try with_reducible rfl))
          (try simp only [Act.put, List.setIfInBounds_toArray, List.set_cons_zero, List.set_cons_succ])
          refine lk 9 (v := ?_) rfl (by kernel_rfl) (fun _ _ _ h => h) (by kernel_rfl) hHeld ?_ ?_
          rotate_left
          · (intro w0 hSw; (try dsimp only at hSw); go_simp; (try with_reducible rfl))
          (try simp only [Act.put, List.setIfInBounds_toArray, List.set_cons_zero, List.set_cons_succ])
          refine lk 10 (v := ?_) rfl (by kernel_rfl) (fun _ _ _ h => h) (by kernel_rfl) hHeld ?_ ?_
          rotate_left
          · (intro w0 hSw; (try dsimp only at hSw); go_simp; (try with_reducible rfl))
          (try simp only [Act.put, List.setIfInBounds_toArray, List.set_cons_zero, List.set_cons_succ])
          refine lk 11 (v := ?_) rfl (by kernel_rfl) (fun _ _ _ h => h) (by kernel_rfl) hHeld ?_ ?_
          rotate_left
          · (intro w0 hSw; (try dsimp only at hSw); go_simp; (try with_reducible rfl))
          (try simp only [Act.put, List.setIfInBounds_toArray, List.set_cons_zero, List.set_cons_succ])
          refine lk 12 (v := ?_) rfl (by kernel_rfl) (fun _ _ _ h => h) (by kernel_rfl) hHeld ?_ ?_
          rotate_left
          · (intro w0 hSw; (try dsimp only at hSw); go_simp; (try with_reducible rfl))
          (try simp only [Act.put, List.setIfInBounds_toArray, List.set_cons_zero, List.set_cons_succ])
          refine lk 13 (v := ?_) rfl (by kernel_rfl) (fun _ _ _ h => h) (by kernel_rfl) hHeld ?_ ?_
          rotate_left
          · (intro w0 hSw; (try dsimp only at hSw); go_simp; (try with_reducible rfl))
          (try simp only [Act.put, List.setIfInBounds_toArray, List.set_cons_zero, List.set_cons_succ])
          refine lk 14 (v := ?_) rfl (by kernel_rfl) (fun _ _ _ h => h) (by kernel_rfl) hHeld ?_ ?_
          rotate_left
          · (intro w0 hSw; (try dsimp only at hSw); go_simp; (try with_reducible rfl))
          (try simp only [Act.put, List.setIfInBounds_toArray, List.set_cons_zero, List.set_cons_succ])
          refine lk 15 (v := ?_) rfl (by kernel_rfl) (fun _ _ _ h => h) (by kernel_rfl) hHeld ?_ ?_
          rotate_left
          · (intro w0 hSw; (try dsimp only at hSw); go_simp; (try with_reducible rfl))
          (try simp only [Act.put, List.setIfInBounds_toArray, List.set_cons_zero, List.set_cons_succ])
          refine lk 16 (v := ?_) rfl (by kernel_rfl) (fun _ _ _ h => h) (by kernel_rfl) hHeld ?_ ?_
          rotate_left
          · (intro w0 hSw; (try dsimp only at hSw); go_simp; (try with_reducible rfl))
          (try simp only [Act.put, List.setIfInBounds_toArray, List.set_cons_zero, List.set_cons_succ])
          refine lk 17 (v := ?_) rfl (by kernel_rfl) (fun _ _ _ h => h) (by kernel_rfl) hHeld ?_ ?_
          rotate_left
          · (intro w0 hSw; (try dsimp only at hSw); go_simp; (try with_reducible rfl))
          (try simp only [Act.put, List.setIfInBounds_toArray, List.set_cons_zero, List.set_cons_succ])
          refine lr 18 rfl (by kernel_rfl) (by decide) (fun K hK => ?_)
          (refine goes Tryz.func24 (by kernel_rfl) rfl #[.slice i0.A i0.xs.length i0.c, .slice i0.A2 i0.xs.length i0.c2] rfl rfl (by simp only [List.map_toArray, List.map_cons, List.map_nil]; rfl) ?_; refine (same i0.A i0.A2 i0.xs.length i0.c i0.xs.length i0.c2 i0.xs i0.xs _ (show Rd wr.drew i0.A i0.xs.length (bvs i0.xs) from Own.rd_ HS0.out.1) (show Rd wr.drew i0.A2 i0.xs.length (bvs i0.xs) from Own.rd_ HS0.out.2.1)).mono ?_; rintro r wS ⟨rfl, ⟨nS, rfl⟩⟩; refine ⟨_, rfl, ?_⟩; rw [decide_eq_true rfl])
          clear hHeld
          refine hK.out _ _ ?_ (fun hHeld => ?_)
          · (try dsimp only); go_keep
          clear hK K
          (try simp only [Act.put, List.setIfInBounds_toArray, List.set_cons_zero, List.set_cons_succ])
          refine lk 19 (v := ?_) rfl (by kernel_rfl) (fun _ _ _ h => h) (by kernel_rfl) hHeld ?_ ?_
          rotate_left
          · (intro w0 hSw; (try dsimp only at hSw); go_simp; (try with_reducible rfl))
          (try simp only [Act.put, List.setIfInBounds_toArray, List.set_cons_zero, List.set_cons_succ])
          refine lk 20 (v := ?_) rfl (by kernel_rfl) (fun _ _ _ h => h) (by kernel_rfl) hHeld ?_ ?_
          rotate_left
          · (intro w0 hSw; (try dsimp only at hSw); go_simp; (try with_reducible rfl))
          (try simp only [Act.put, List.setIfInBounds_toArray, List.set_cons_zero, List.set_cons_succ])
          refine lk 21 (v := ?_) rfl (by kernel_rfl) (fun _ _ _ h => h) (by kernel_rfl) hHeld ?_ ?_
          rotate_left
          · (intro w0 hSw; (try dsimp only at hSw); go_simp; (try with_reducible rfl))
          (try simp only [Act.put, List.setIfInBounds_toArray, List.set_cons_zero, List.set_cons_succ])
          refine lk 22 (v := ?_) rfl (by kernel_rfl) (fun _ _ _ h => h) (by kernel_rfl) hHeld ?_ ?_
          rotate_left
          · (intro w0 hSw; (try dsimp only at hSw); go_simp; (try with_reducible rfl))
          (try simp only [Act.put, List.setIfInBounds_toArray, List.set_cons_zero, List.set_cons_succ])
          refine ll 23 rfl (by kernel_rfl) (by decide) (fun K hK => ?_)
          go_simp
          (try clear hHeld)
          refine hK.out _ _ ?_
          clear hK K
          (try simp only [Act.put, List.setIfInBounds_toArray, List.set_cons_zero, List.set_cons_succ])
          refine last_done (by kernel_rfl) ?_ _
          have hX4 := (HB.out.1.below (below_drewN (Below.refl _ wr) (1 + nS))).set_b
          have hF4 := (Fr.of_below (below_drewN (Below.refl _ wr) (1 + nS)) (bookS wr base g)).book hX4.2
          obtain ⟨w4, hw4⟩ : ∃ w4, (wr.drewN (1 + nS)).setCell ⟨g, o + 3, none⟩ (.bool false) = w4 := ⟨_, rfl⟩
          rw [hw4] at hX4 hF4 ⊢
          have HX4 := Lib.hid (And.intro hX4.1 hF4)
          clear hX4 hF4 hw4 k0 k1 k2 k3 f0 f1 f2 f3 m0 m1 t1 t1' t2
          obtain ⟨k0, k1, k2, k3, f0, f1, f2, f3⟩ := HX4.out.1.get
          rw [HN1.out] at k0 k1
          obtain ⟨al', hal, m0⟩ := row_head (v := i0.l) HX4.out.1.rl
          injection hal with hal
          subst hal
          change w4.cell? al = some (.slice i0.A i0.xs.length i0.c) at m0
          obtain ⟨y1, u1, u1', hy1⟩ := wrap_ex (hd - (i0.c : Int))
          obtain ⟨y2, u2, u2', hy2⟩ := wrap_ex (y1 - 1)
          have hy10 := hy1.1
          have hy11 := hy1.2
          go_wp2_with fail
          refine region_last (S := (fun w' => w'.cell? ⟨g, o + 2, none⟩ = some (.int .i64 hd) ∧ w'.cell? ⟨g, o, none⟩ = some (.slice (some al) n1 cl) ∧ w'.cell? al = some (.slice i0.A i0.xs.length i0.c))) (ds := [16]) (by kernel_rfl) ?_ (fun hHeld => ?_)
          · (try dsimp only); go_keep
          refine lk 0 (v := ?_) rfl (by kernel_rfl) (fun _ _ _ h => h) (by kernel_rfl) hHeld ?_ ?_
          rotate_left
          · (intro w0 hSw; (try dsimp only at hSw); go_simp; (try with_reducible rfl))
          (try simp only [Act.put, List.setIfInBounds_toArray, List.set_cons_zero, List.set_cons_succ])
          refine lk 1 (v := ?_) rfl (by kernel_rfl) (fun _ _ _ h => h) (by kernel_rfl) hHeld ?_ ?_
          rotate_left
          · (intro w0 hSw; (try dsimp only at hSw); go_simp; (try with_reducible rfl))
          (try simp only [Act.put, List.setIfInBounds_toArray, List.set_cons_zero, List.set_cons_succ])
          refine lk 2 (v := ?_) rfl (by kernel_rfl) (fun _ _ _ h => h) (by kernel_rfl) hHeld ?_ ?_
          rotate_left
          · (intro w0 hSw; (try dsimp only at hSw); go_simp; (try with_reducible rfl))
          (try simp only [Act.put, List.setIfInBounds_toArray, List.set_cons_zero, List.set_cons_succ])
          refine lk 3 (v := ?_) rfl (by kernel_rfl) (fun _ _ _ h => h) (by kernel_rfl) hHeld ?_ ?_
          rotate_left
          · (intro w0 hSw; (try dsimp only at hSw); go_simp; (try with_reducible rfl))
          (try simp only [Act.put, List.setIfInBounds_toArray, List.set_cons_zero, List.set_cons_succ])
          refine lk 4 (v := ?_) rfl (by kernel_rfl) (fun _ _ _ h => h) (by kernel_rfl) hHeld ?_ ?_
          rotate_left
          · (intro w0 hSw; (try dsimp only at hSw); go_simp; (try with_reducible rfl))
          (try simp only [Act.put, List.setIfInBounds_toArray, List.set_cons_zero, List.set_cons_succ])
          refine lk 5 (v := ?_) rfl (by kernel_rfl) (fun _ _ _ h => h) (by kernel_rfl) hHeld ?_ ?_
          rotate_left
          · (intro w0 hSw; (try dsimp only at hSw); go_simp; (try with_reducible rfl))
          (try simp only [Act.put, List.setIfInBounds_toArray, List.set_cons_zero, List.set_cons_succ])
          refine lk 6 (v := ?_) rfl (by kernel_rfl) (fun _ _ _ h => h) (by kernel_rfl) hHeld ?_ ?_
          rotate_left
          · (intro w0 hSw; (try dsimp only at hSw); go_simp; (try with_reducible rfl))
          (try simp only [Act.put, List.setIfInBounds_toArray, List.set_cons_zero, List.set_cons_succ])
          refine lk 7 (v := ?_) rfl (by kernel_rfl) (fun _ _ _ h => h) (by kernel_rfl) hHeld ?_ ?_
          rotate_left
          · (intro w0 hSw; (try dsimp only at hSw); go_simp; (try with_reducible rfl))
          (try simp only [Act.put, List.setIfInBounds_toArray, List.set_cons_zero, List.set_cons_succ])
          refine lk 8 (v := ?_) rfl (by kernel_rfl) (fun _ _ _ h => h) (by kernel_rfl) hHeld ?_ ?_
          rotate_left
          · (intro w0 hSw; (try dsimp only at hSw); go_simp; (try with_reducible rfl))
          (try simp only [Act.put, List.setIfInBounds_toArray, List.set_cons_zero, List.set_cons_succ])
          refine lk 9 (v := ?_) rfl (by kernel_rfl) (fun _ _ _ h => h) (by kernel_rfl) hHeld ?_ ?_
          rotate_left
          · (intro w0 hSw; (try dsimp only at hSw); go_simp; (try with_reducible rfl))
          (try simp only [Act.put, List.setIfInBounds_toArray, List.set_cons_zero, List.set_cons_succ])
          refine lk 10 (v := ?_) rfl (by kernel_rfl) (fun _ _ _ h => h) (by kernel_rfl) hHeld ?_ ?_
          rotate_left
          · (intro w0 hSw; (try dsimp only at hSw); go_simp; (try with_reducible rfl))
          (try simp only [Act.put, List.setIfInBounds_toArray, List.set_cons_zero, List.set_cons_succ])
          refine lk 11 (v := ?_) rfl (by kernel_rfl) (fun _ _ _ h => h) (by kernel_rfl) hHeld ?_ ?_
          rotate_left
          · (intro w0 hSw; (try dsimp only at hSw); go_simp; (try with_reducible rfl))
          (try simp only [Act.put, List.setIfInBounds_toArray, List.set_cons_zero, List.set_cons_succ])
          refine lk 12 (v := ?_) rfl (by kernel_rfl) (fun _ _ _ h => h) (by kernel_rfl) hHeld ?_ ?_
          rotate_left
          · (intro w0 hSw; (try dsimp only at hSw); go_simp; (try with_reducible rfl))
          (try simp only [Act.put, List.setIfInBounds_toArray, List.set_cons_zero, List.set_cons_succ])
          refine lk 13 (v := ?_) rfl (by kernel_rfl) (fun _ _ _ h => h) (by kernel_rfl) hHeld ?_ ?_
          rotate_left
          · (intro w0 hSw; (try dsimp only at hSw); go_simp; (try with_reducible rfl))
          (try simp only [Act.put, List.setIfInBounds_toArray, List.set_cons_zero, List.set_cons_succ])
          refine lk 14 (v := ?_) rfl (by kernel_rfl) (fun _ _ _ h => h) (by kernel_rfl) hHeld ?_ ?_
          rotate_left
          · (intro w0 hSw; (try dsimp only at hSw); go_simp; (try with_reducible rfl))
          (try simp only [Act.put, List.setIfInBounds_toArray, List.set_cons_zero, List.set_cons_succ])
          refine lk 15 (v := ?_) rfl (by kernel_rfl) (fun _ _ _ h => h) (by kernel_rfl) hHeld ?_ ?_
          rotate_left
          · (intro w0 hSw; (try dsimp only at hSw); go_simp; (try with_reducible rfl))
          (try simp only [Act.put, List.setIfInBounds_toArray, List.set_cons_zero, List.set_cons_succ])
          refine ll 16 rfl (by kernel_rfl) (by decide) (fun K hK => ?_)
          go_simp
          (try clear hHeld)
          refine hK.out _ _ ?_
          clear hK K
          (try simp only [Act.put, List.setIfInBounds_toArray, List.set_cons_zero, List.set_cons_succ])
          refine last_done (by kernel_rfl) ?_ _
          clear u1 u2 u1' u2'
          have hX5 := (HX4.out.1.set_n y2)
          have hF5 := hX5.2.drewN 1
          have hX5 := hX5.1.below (below_drewN (Below.refl _ _) 1)
          obtain ⟨w5', hw5⟩ : ∃ w5', (w4.setCell ⟨g, o + 2, none⟩ (.int .i64 y2)).drew = w5' := ⟨_, rfl⟩
          change BookC ((w4.setCell ⟨g, o + 2, none⟩ (.int .i64 y2)).drew) _ _ _ _ _ _ _ _ _ _ _ at hX5
          change Fr _ w4 ((w4.setCell ⟨g, o + 2, none⟩ (.int .i64 y2)).drew) at hF5
          rw [hw5] at hX5 hF5 ⊢
          have HX5 := Lib.hid (And.intro hX5 (HX4.out.2.book hF5))
          clear hX5 hF5 hw5 k0 k1 k2 k3 f0 f1 f2 f3 m0
          obtain ⟨k0, k1, k2, k3, f0, f1, f2, f3⟩ := HX5.out.1.get
          rw [HN1.out] at k0 k1
          have hrl := HX5.out.1.rl
          rw [HN1.out] at hrl
          obtain ⟨Al2, hcutl, hobl, hrl2⟩ := row_cut1 Tryz.underlying26 infoSl hrl (by omega) hcl
          have hX6 := HX5.out.1.set_l (v' := .slice Al2 (n1 - 1) (cl - 1)) (L' := lsc rest) hrl2 (fun b hb => HX5.out.1.ne b (by rw [HN1.out]; rw [hobl] at hb; exact hb))
          have hrw := hX6.1.rw_
          rw [HN1.out] at hrw
          obtain ⟨Aw2, hcutw, hobw, hrw2⟩ := row_cut1 Tryz.underlying26 infoSl hrw (by omega) hcw
          have hX7 := hX6.1.set_w (v' := .slice Aw2 (n1 - 1) (cw - 1)) (L' := wsc rest) hrw2 (fun b hb e => hX6.1.ne b hb (by rw [HN1.out]; rw [hobw] at e; exact e))
          have k6 := hX6.1.get.2.1
          have f6 := hX6.1.get.2.2.2.2.2.1
          rw [HN1.out] at k6
          have HX7 := Lib.hid (And.intro hX7.1 ((HX5.out.2.book hX6.2).book hX7.2))
          clear hX6 hX7 hrl hrl2 hrw hrw2 hobl hobw
          go_wp2_with fail
          go_roundg (rest.length)
          case measure => rw [← HK.out]; simp
          case rel =>
            exact ⟨.slice Al2 (n1 - 1) (cl - 1), .slice Aw2 (n1 - 1) (cw - 1), rest, y2, rfl, by have := HR.out; omega, Lib.hid hy2, Lib.hid ⟨HX7.out.1, (HB.out.2.1.tail).fr HX7.out.2 (fun i hi b hb => HB.out.2.1.ne_book HB.out.1 i (by simp [hi]) b hb), HB.out.2.2.1.book HX7.out.2, fun i hi => HB.out.2.2.2 i (by simp [hi])⟩⟩
      · have t1 : decide (1 < I1.length) = true := decide_eq_true c1
        have t1' : decide ((1 : Int) < (I1.length : Int)) = true := decide_eq_true (by omega)
        have t2 : decide ((1000000 : Int) < hd) = false := decide_eq_false (by omega)
        have t3 : decide (4000 < I1.length) = false := decide_eq_false (by omega)
        have t3' : decide ((4000 : Int) < (I1.length : Int)) = false := decide_eq_false (by omega)
        have hs := HEND.out wr rfl (by omega)
        have HS := Lib.hid hs
        clear hs c2 HEND
        go_wp2_with fail
        go_end0
        exact ⟨rfl, HS.out⟩
    · have t1 : decide (1 < I1.length) = false := decide_eq_false c1
      have t1' : decide ((1 : Int) < (I1.length : Int)) = false := decide_eq_false (by omega)
      have HS := Lib.hid (HEND.out wr rfl (by omega))
      clear HEND
      go_wp2_with fail
      go_end0
      exact ⟨rfl, HS.out⟩
end Go.Proofs.YthdjddpomaendaaGreat.B
