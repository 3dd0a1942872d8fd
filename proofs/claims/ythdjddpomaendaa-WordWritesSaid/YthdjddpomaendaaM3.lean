/- The walk of step: a further writer. -/
import Derived.Test.YthdjddpomaendaaM2
import Derived.Test.YthdjddpomaendaaO9
import Derived.Outline
namespace Go.Proofs.Ythdjddpomaendaa.B
open Go.RowKit
set_option linter.unusedVariables false
set_option linter.unusedSimpArgs false

set_option maxRecDepth 100000 in
theorem infoPw : (Try.prog.info? 58).map (fun i => (i.zero, i.size, i.bytes)) = some (some (.pointer none), 1, 8) := by kernel_rfl
set_option maxRecDepth 100000 in
theorem infoPv : (Try.prog.info? 102).map (fun i => (i.zero, i.size, i.bytes)) = some (some (.pointer none), 1, 8) := by kernel_rfl
theorem IsW.mono {w : World} {base base' g : Nat} {vb : Option Nat} {bs : List UInt8} {e : Int} (h : IsW w base g vb bs e) (hb : base' ≤ base) : IsW w base' g vb bs e := by
  obtain ⟨A, c, h1, h2, h3, h4⟩ := h
  exact ⟨A, c, h1, Nat.le_trans hb h2, h3, h4.mono hb⟩
theorem newWriter' (w : World) : Calls Try.prog 31 #[] w fun r w' => ∃ g, w.heap.size ≤ g ∧ r = .returned (.pointer (some ⟨g, 0, none⟩)) ∧ IsW w' w.heap.size g none [] 0 ∧ Below w.heap.size w w' :=
  (newWriter w).mono fun _ _ h => ⟨_, Nat.le_refl _, h.1, h.2.1, h.2.2⟩
theorem IsV.new (W : World) (base : Nat) (hb : base ≤ W.heap.size) : IsV (W.alloc (.cells #[.slice none 0 0, .int .i64 0] 104)) base W.heap.size none [] 0 :=
  ⟨none, 0, rfl, hb, Blk.new W [.slice none 0 0, .int .i64 0] 104, Own.nil _ _⟩

/-- The reference's writer and the box of its pointer, both new. -/
theorem second_box (w4 : World) (N : Nat) (hN : w4.heap.size = N) : Below w4.heap.size w4 ((w4.alloc (.cells #[.slice none 0 0, .int .i64 0] 104)).alloc (.cells #[.pointer (some ⟨N, 0, none⟩)] 102)) ∧
    IsV ((w4.alloc (.cells #[.slice none 0 0, .int .i64 0] 104)).alloc (.cells #[.pointer (some ⟨N, 0, none⟩)] 102)) w4.heap.size N none [] 0 ∧
    ∀ (j : Nat) (u : Value), [Value.pointer (some ⟨N, 0, none⟩)][j]? = some u → ((w4.alloc (.cells #[.slice none 0 0, .int .i64 0] 104)).alloc (.cells #[.pointer (some ⟨N, 0, none⟩)] 102)).cell? ((⟨N + 1, 0, none⟩ : Addr).add j) = some u := by
  subst hN
  have h1 := below_alloc (Below.refl w4.heap.size w4) (.cells #[.slice none 0 0, .int .i64 0] 104)
  have hv := IsV.new w4 w4.heap.size (Nat.le_refl _)
  have hb := box_cells (w4.alloc (.cells #[.slice none 0 0, .int .i64 0] 104)) [Value.pointer (some ⟨w4.heap.size, 0, none⟩)] 102
  refine ⟨below_alloc h1 _, hv.below (below_alloc (Below.refl _ _) _), fun j u hu => ?_⟩
  have := hb j u hu
  rw [show (w4.alloc (.cells #[.slice none 0 0, .int .i64 0] 104)).heap.size = w4.heap.size + 1 by simp] at this
  exact this

theorem IsW.past {w w1 : World} {base b g gx : Nat} {vb : Option Nat} {bs : List UInt8} {e : Int} {l : List Value} {t : TypeId} {v : Value} {cs : List (List Value)} (h : IsW w b g vb bs e) (hk : Blk w gx l 51) (hr : Row w base t 1 v cs) (ht : t ≠ 108) (ht2 : t ≠ 5)
    (hf : Fr (fun k => k = gx ∨ v.ownBlock = some k) w w1) : IsW w1 b g vb bs e := by
  obtain ⟨A, c, hvb, hbg, hkb, ho⟩ := id h
  refine h.fr hf (fun hs => ?_) (fun k hv hs => ?_)
  · rcases hs with rfl | hs
    · exact typed_ne hkb hk (by decide) rfl
    · obtain ⟨_, _, cells, hc⟩ := hr.typed g hs
      exact typed_ne hc hkb ht rfl
  · obtain ⟨cells0, hc0⟩ := own_typed ho k (hvb.trans hv)
    rcases hs with rfl | hs
    · exact typed_ne hc0 hk (by decide) rfl
    · obtain ⟨_, _, cells, hc⟩ := hr.typed k hs
      exact typed_ne hc hc0 ht2 rfl
theorem IsV.past {w w1 : World} {base b g gx : Nat} {vb : Option Nat} {bs : List UInt8} {e : Int} {l : List Value} {t : TypeId} {v : Value} {cs : List (List Value)} (h : IsV w b g vb bs e) (hk : Blk w gx l 51) (hr : Row w base t 1 v cs) (ht : t ≠ 104) (ht2 : t ≠ 5)
    (hf : Fr (fun k => k = gx ∨ v.ownBlock = some k) w w1) : IsV w1 b g vb bs e := by
  obtain ⟨A, c, hvb, hbg, hkb, ho⟩ := id h
  refine h.fr hf (fun hs => ?_) (fun k hv hs => ?_)
  · rcases hs with rfl | hs
    · exact typed_ne hkb hk (by decide) rfl
    · obtain ⟨_, _, cells, hc⟩ := hr.typed g hs
      exact typed_ne hc hkb ht rfl
  · obtain ⟨cells0, hc0⟩ := own_typed ho k (hvb.trans hv)
    rcases hs with rfl | hs
    · exact typed_ne hc0 hk (by decide) rfl
    · obtain ⟨_, _, cells, hc⟩ := hr.typed k hs
      exact typed_ne hc hc0 ht2 rfl
theorem IsV.mono {w : World} {base base' g : Nat} {vb : Option Nat} {bs : List UInt8} {e : Int} (h : IsV w base g vb bs e) (hb : base' ≤ base) : IsV w base' g vb bs e := by
  obtain ⟨A, c, h1, h2, h3, h4⟩ := h
  exact ⟨A, c, h1, Nat.le_trans hb h2, h3, h4.mono hb⟩
theorem wpc_snoc (P : List Wp) (p : Wp) : wpc P ++ [[.pointer (some ⟨p.g, 0, none⟩)]] = wpc (P ++ [p]) := by simp [wpc]
theorem vpc_snoc (P : List Wp) (p : Wp) : vpc P ++ [[.pointer (some ⟨p.gv, 0, none⟩)]] = vpc (P ++ [p]) := by simp [vpc]

set_option maxHeartbeats 6400000 in
set_option maxRecDepth 100000 in
theorem step_new (base gx : Nat) (vws vis vl vw : Value) (n : Int) (P : List Wp) (I : List Kp) (o : OpV) (w : World) (hR : RowC w base gx vws vis vl vw n (wpc P) (vpc P) P I) (hP : P.length ≤ 1000000) (ho : o.kind = 10) :
    Calls Try.prog 27 #[.pointer (some ⟨gx, 0, none⟩), o.val] w fun r w' => r = .returned (.bool true) ∧ ∃ vws' vis' vl' vw' n' P' I', RowC w' base gx vws' vis' vl' vw' n' (wpc P') (vpc P') P' I' ∧ Below base w w' ∧ P'.length ≤ P.length + 1 ∧ P' ≠ [] ∧ ∀ p' ∈ P', p'.bs = [] ∨ p' ∈ P := by
  obtain ⟨kd, a, nn, num, A2, c2, p, s⟩ := o
  obtain rfl : kd = 10 := ho
  have hb1 : Below w.heap.size w (w.alloc (.cells (OpV.cells ⟨10, a, nn, num, A2, c2, p, s⟩) 54)) := below_alloc (Below.refl _ w) _
  have HR1 := Lib.hid (hR.below hb1)
  have HLT := Lib.hid (And.intro hR.lt (And.intro hR.P_lt hR.I_lt))
  have HB1 := Lib.hid hb1
  have hwl : (wpc P).length ≤ 1000000 := by rw [wpc_length]; exact hP
  have hvl : (vpc P).length ≤ 1000000 := by rw [vpc_length]; exact hP
  clear hR hb1
  show Calls Try.prog 27 #[.pointer (some ⟨gx, 0, none⟩), .agg #[.int .i64 10, .int .i64 a, .int .u64 (nn : Int), .int .i64 num, .slice A2 p.length c2, .string s]] w _
  go_enter Try.func27, Try.ntmps27
  go_wp2_with fail
  refine (newWriter' _).mono ?_
  rintro r w2 ⟨g, hg0, rfl, hW2, hb2⟩
  have hgw : w.heap.size < g := by simp at hg0; omega
  have hW2' := hW2.mono (base' := base) (by have := HLT.out.1; simp; omega)
  have hR2 := HR1.out.below hb2
  have HB2 := Lib.hid (HB1.out.trans (hb2.mono (by simp)))
  have hb3 := below_alloc (Below.refl w2.heap.size w2) (.cells [Value.pointer (some ⟨g, 0, none⟩)].toArray 58)
  have HX := Lib.hid (And.intro (hR2.below hb3) (And.intro (box_cells w2 [Value.pointer (some ⟨g, 0, none⟩)] 58) (hW2'.below hb3)))
  have h0 := hR2.blk.cell 0 _ rfl
  have hbs : base ≤ w2.heap.size := by have := hR2.lt; omega
  have tok1 : True := trivial
  clear hg0 hW2 hW2' hR2 hb2 hb3 HB1 HR1
  go_wp2_with (first
    | ((with_reducible refine at_builtin_ (b := .append) rfl ?_); have _t := tok1; go_must (refine app_row rfl _ _ 58 45 rfl base 1 8 _ Try.underlying45 infoPw rfl (by decide) vws (wpc P) rfl ⟨w2.heap.size, 0, none⟩ 1 rfl HX.out.1.rw_ [Value.pointer (some ⟨g, 0, none⟩)] rfl (by intro u hu; rw [List.mem_singleton.1 hu]; rfl) HX.out.2.1 (by omega) (by omega) (by simp; omega) _ rfl ?_); intro A1 c1 w3 hrow1 hg1 hat1; have hA1 := HX.out.1.app_w hrow1 hg1; have q0 := hA1.1.cell 0 _ rfl; have q1 := hA1.1.cell 1 _ rfl; have q2 := hA1.1.free 0; have q3 := hA1.1.free 1; have hw3 : base ≤ w3.heap.size := (by have := hg1.size; simp at this; omega); have hB := second_box (w3.setCell ⟨gx, 0, none⟩ (.slice A1 ((wpc P).length + 1) c1)) w3.heap.size (by simp [World.setCell]); have HY := Lib.hid (And.intro (hA1.2.1.below hB.1) (And.intro hB hA1.2.2)); clear tok1 _t hB hA1 hrow1 hg1 hat1; have tok2 : True := trivial)
    | ((with_reducible refine at_builtin_ (b := .append) rfl ?_); have _t := tok2; go_must (refine app_row rfl _ _ 102 46 rfl base 1 8 _ Try.underlying46 infoPv rfl (by decide) vis (vpc P) rfl ⟨w3.heap.size + 1, 0, none⟩ 1 rfl HY.out.1.rv [Value.pointer (some ⟨w3.heap.size, 0, none⟩)] rfl (by intro u hu; rw [List.mem_singleton.1 hu]; rfl) HY.out.2.1.2.2 (by omega) (by omega) (by simp; omega) _ rfl ?_); intro A5 c5 w5 hrow5 hg5 hat5; have hA5 := HY.out.1.app_v hrow5 hg5; clear q0 q1 q2 q3; have q0 := hA5.1.cell 1 _ rfl; have q2 := hA5.1.free 1; have HZ := Lib.hid hA5; clear tok2 _t hA5 hrow5 hg5 hat5))
  go_ret
  have hsz3 : w3.heap.size = (w3.setCell ⟨gx, 0, none⟩ (.slice A1 ((wpc P).length + 1) c1)).heap.size := by simp [World.setCell]
  obtain ⟨hR5, ⟨hb5, hv5, _⟩, hF4⟩ := HY.out
  obtain ⟨_, hR6, hF6⟩ := HZ.out
  have hW4 := HX.out.2.2.past HX.out.1.blk HX.out.1.rw_ (by decide) (by decide) hF4
  have hW6 := (hW4.below hb5).past hR5.blk hR5.rv (by decide) (by decide) hF6
  have hV6 := hv5.past hR5.blk hR5.rv (by decide) (by decide) hF6
  have hs4 := hF4.size
  have hs2 := HB2.out.size
  have hbg := HLT.out.1
  have hs2' : w.heap.size ≤ w3.heap.size := by rw [hsz3]; exact Nat.le_trans (by simp; omega) hs4
  have hp : Wp.ok ⟨g, none, w3.heap.size, none, [], 0⟩ _ base := ⟨hW6, hV6.mono (by rw [← hsz3]; omega), fun k hk => by cases hk⟩
  have hR7 := hR6.add ⟨g, none, w3.heap.size, none, [], 0⟩ hp w.heap.size HLT.out.2.1 HLT.out.2.2 (fun k hk => by
    rcases hk with (hk | hk) | (hk | hk)
    · subst hk; exact Nat.le_of_lt hgw
    · cases hk
    · subst hk; exact hs2'
    · cases hk)
  refine ⟨rfl, _, _, _, _, _, P ++ [⟨g, none, w3.heap.size, none, [], 0⟩], _, by rw [← wpc_snoc, ← vpc_snoc]; exact hR7, ?_, by simp, by simp, fun p' hp' => ?_⟩
  · have g1 : Below base w (w2.alloc (.cells [Value.pointer (some ⟨g, 0, none⟩)].toArray 58)) := (HB2.out.mono (by omega)).alloc hbs _
    have g2 := hF4.below (B := base) (fun k hk => by
      rcases hk with rfl | hk
      · exact hbg.1
      · exact (HX.out.1.rw_.typed k hk).1) (by simp; omega)
    have g3 : Below base _ _ := hb5.mono (by rw [← hsz3]; exact hw3)
    have g4 := hF6.below (B := base) (fun k hk => by
      rcases hk with rfl | hk
      · exact hbg.1
      · exact (hR5.rv.typed k hk).1) (by have := hR5.lt; omega)
    exact ((g1.trans g2).trans g3).trans g4
  · rcases List.mem_append.1 hp' with hp' | hp'
    · exact .inr hp'
    · rw [List.mem_singleton.1 hp']; exact .inl rfl
end Go.Proofs.Ythdjddpomaendaa.B
