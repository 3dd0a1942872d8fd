/- lays, kind 5, and lays of every kind. -/
import Derived.Test.YthdjddpomaendaaL2
namespace Go.Proofs.Ythdjddpomaendaa.B
open Go.RowKit
set_option linter.unusedVariables false
set_option linter.unusedSimpArgs false

theorem FrP.more {w w1 w2 : World} {g gv : Nat} {vb vb' vv vv' : Option Nat} (h : FrP w w1 g vb vb' gv vv vv') (hF : Fr (fun k => w.heap.size ≤ k) w1 w2) : FrP w w2 g vb vb' gv vv vv' :=
  ⟨h.1.trans hF (fun i hi => .inr hi), h.2⟩
theorem Pair.lt {w : World} {b g gv : Nat} {vb vv : Option Nat} {bs : List UInt8} {e : Int} (h : Pair w b g vb gv vv bs e) : g < w.heap.size ∧ gv < w.heap.size ∧ (∀ k, vb = some k → k < w.heap.size) ∧ (∀ k, vv = some k → k < w.heap.size) :=
  ⟨h.hw.lt.1, h.hv.lt.1, fun k hk => (h.hw.lt.2.2 k hk).2, fun k hk => (h.hv.lt.2.2 k hk).2⟩
theorem Pair.fr {w w1 : World} {b g gv : Nat} {vb vv : Option Nat} {bs : List UInt8} {e : Int} {S : Nat → Prop} (h : Pair w b g vb gv vv bs e) (hf : Fr S w w1) (h1 : ¬ S g) (h2 : ∀ k, vb = some k → ¬ S k) (h3 : ¬ S gv) (h4 : ∀ k, vv = some k → ¬ S k) : Pair w1 b g vb gv vv bs e :=
  ⟨h.hw.fr hf h1 h2, h.hv.fr hf h3 h4, h.ne⟩

theorem roomy' (A : Option Addr) (n c : Nat) (xs : List UInt8) (m : UInt8) (w : World) (hr : Rd w A n (bvs xs)) (hlen : n ≤ 140737488351232) :
    Calls Try.prog 13 #[.slice A n c, bv m] w fun e w' => ∃ F, w.heap.size ≤ F ∧ e = .returned (.slice (some ⟨F, 0, none⟩) (n + 80) (n + 80)) ∧ Blk w' F (bvs (xs ++ List.replicate 80 m)) 5 ∧ Below w.heap.size w w' :=
  (roomy A n c xs m w hr hlen).mono fun _ _ h => ⟨_, Nat.le_refl _, h.1, h.2.1, h.2.2⟩

set_option maxHeartbeats 6400000 in
set_option maxRecDepth 100000 in
theorem lays5 (b g : Nat) (vb : Option Nat) (gv : Nat) (vv : Option Nat) (bs : List UInt8) (e : Int) (w : World) (hP : Pair w b g vb gv vv bs e) (a : Int) (n : Nat) (num : Int) (A2 : Option Addr) (c2 : Nat) (p : List UInt8) (s : ByteArray) (hl : bs.length + p.length + s.size + 4104 ≤ 140737488351232) (hr : ∀ W : World, Below b w W → Rd W A2 p.length (bvs p)) :
    Calls Try.prog 81 #[.pointer (some ⟨g, 0, none⟩), .pointer (some ⟨gv, 0, none⟩), OpV.val ⟨5, a, n, num, A2, c2, p, s⟩] w fun r w' => r = .returned (.bool true) ∧ ∃ vb' vv', Pair w' b g vb' gv vv' (laidB ⟨5, a, n, num, A2, c2, p, s⟩ bs e) (laidE ⟨5, a, n, num, A2, c2, p, s⟩ bs e) ∧ FrP w w' g vb vb' gv vv vv' := by
  have hb1 : Below w.heap.size w (w.alloc (.cells (OpV.cells ⟨5, a, n, num, A2, c2, p, s⟩) 54)) := below_alloc (Below.refl _ w) _
  have hk1 : Blk (w.alloc (.cells (OpV.cells ⟨5, a, n, num, A2, c2, p, s⟩) 54)) w.heap.size (OpV.cells ⟨5, a, n, num, A2, c2, p, s⟩).toList 54 := Blk.new w _ _
  have HR := Lib.hid hr
  have hbw : b ≤ w.heap.size := by have := hP.hw.lt; omega
  have hr1 := hr _ (hb1.mono hbw)
  have HLT := Lib.hid hP.lt
  have HP1 := Lib.hid (hP.below hb1)
  have HGB := Lib.hid (And.intro hP.hw.lt.2 hP.hv.lt.2)
  clear hP hr
  show Calls Try.prog 81 #[.pointer (some ⟨g, 0, none⟩), .pointer (some ⟨gv, 0, none⟩), .agg #[.int .i64 5, .int .i64 a, .int .u64 (n : Int), .int .i64 num, .slice A2 p.length c2, .string s]] w _
  go_enter Try.func81, Try.ntmps81
  go_wp2_with fail
  refine (roomy' A2 p.length c2 p 165 _ hr1 (by omega)).mono ?_
  rintro r w2 ⟨F, hF0, rfl, hkF, hb2⟩
  have hFw : w.heap.size < F := by simp at hF0; omega
  have hk2 := hk1.below hb2 (by simp)
  have HP2 := Lib.hid (HP1.out.below hb2)
  have HB2 := Lib.hid (hb1.trans (hb2.mono (by simp)))
  have hF2 := hkF.lt
  have q4 := hk2.cell 4 (.slice A2 p.length c2) rfl
  have hrF := (hkF.rd (n := p.length) (off := 0) (bvs p) (by rw [bvs_length]) (by omega) (fun j u hu => by rw [Nat.zero_add, bvs, List.map_append]; exact (List.getElem?_append_left (List.getElem?_eq_some_iff.1 hu).1).trans hu))
  have HK := Lib.hid (And.intro hkF hk2)
  clear hkF hk2 hF0 hb2 hk1 hr1 hb1 HP1
  go_wp2_with fail
  refine (wBytes b g vb bs e _ (some ⟨F, 0, none⟩) p.length (p.length + 80) p hrF HP2.out.hw (by omega)).mono ?_
  rintro r w3 ⟨rfl, vb3, hW3, hF3⟩
  have hnot3 : ∀ k, w.heap.size ≤ k → ¬ (k = g ∨ vb = some k) := fun k hk hs => hs.elim (fun e => by have := HLT.out.1; omega) (fun e => by have := HLT.out.2.2.1 k e; omega)
  obtain ⟨hV3, hne3⟩ := HP2.out.step_w hW3 hF3
  have hkF3 := HK.out.1.fr hF3.1 (hnot3 F (by omega))
  have hk3 := HK.out.2.fr hF3.1 (hnot3 _ (Nat.le_refl _))
  have hB3 := (HB2.out.mono hbw).trans (hF3.below HGB.out.1.1 (fun k hk => (HGB.out.1.2 k hk).1) (Nat.le_trans hbw HB2.out.size))
  have hr3 := HR.out _ hB3
  clear q4 hrF hnot3
  have q4 := hk3.cell 4 (.slice A2 p.length c2) rfl
  have HW3 := Lib.hid (And.intro hW3 (And.intro hV3 (And.intro hne3 (And.intro hF3 (And.intro hkF3 (And.intro hk3 hB3))))))
  clear hW3 hV3 hne3 hF3 hkF3 hk3 hB3
  go_wp2_with fail
  refine (vBytes b gv vv bs e _ A2 p.length c2 p hr3 HW3.out.2.1 (by omega)).mono ?_
  rintro r w4 ⟨rfl, vv4, hV4, hF4⟩
  obtain ⟨hW3, hV3, hne3, hF3, hkF3, hk3, hB3⟩ := HW3.out
  have hP4 := Pair.step_v hW3 hV3 hne3 hV4 hF4
  have hnot4 : ∀ k, w.heap.size ≤ k → ¬ (k = gv ∨ vv = some k) := fun k hk hs => hs.elim (fun e => by have := HLT.out.2.1; omega) (fun e => by have := HLT.out.2.2.2 k e; omega)
  have hkF4 := hkF3.fr hF4.1 (hnot4 F (by omega))
  have hk4 := hk3.fr hF4.1 (hnot4 _ (Nat.le_refl _))
  have hB4 := hB3.trans (hF4.below HGB.out.2.1 (fun k hk => (HGB.out.2.2 k hk).1) (by have := hB3.size; omega))
  have hr4 := HR.out _ hB4
  have hFP := FrP.of HB2.out hF3 hF4
  have hN3 : ∀ k, vb3 = some k → k ≠ F := fun k hk => by
    rcases hF3.2 with h | ⟨x, h, hx⟩
    · rw [h] at hk; have := HLT.out.2.2.1 k hk; omega
    · rw [h] at hk; obtain rfl := Option.some.inj hk; omega
  have hN4 : ∀ k, vv4 = some k → k ≠ F := fun k hk => by
    have hs := hF3.1.size
    rcases hF4.2 with h | ⟨x, h, hx⟩
    · rw [h] at hk; have := HLT.out.2.2.2 k hk; omega
    · rw [h] at hk; obtain rfl := Option.some.inj hk; omega
  have hF4s := hkF4.lt
  clear q4 hr3 hnot4 hW3 hV3 hne3 hF3 hkF3 hk3 hB3 hV4 hF4 HW3
  have q4 := hk4.cell 4 (.slice A2 p.length c2) rfl
  have hrF := (hkF4.rd (n := p.length + 80) (off := 0) (bvs (p ++ List.replicate 80 165)) (by rw [bvs_length, List.length_append, List.length_replicate]) (by omega) (fun j u hu => by rw [Nat.zero_add]; exact hu))
  have HX := Lib.hid (And.intro hP4 (And.intro hFP (And.intro hkF4 (And.intro hN3 hN4))))
  have hint := intact (some ⟨F, 0, none⟩) A2 (p.length + 80) (p.length + 80) p.length c2 (p ++ List.replicate 80 165) p 165 w4 hrF (Nat.le_refl _) hr4 (by omega)
  rw [decide_eq_true rfl] at hint
  have HI := Lib.hid hint
  clear hP4 hFP hkF4 hB4 hr4 hrF hk4 hint hN3 hN4
  go_wp2_with fail
  refine HI.out.mono ?_
  rintro r w5 ⟨rfl, ⟨n5, rfl⟩⟩
  clear HI q4
  go_wp2_with fail
  go_loopw [9] (fun i wr => ∃ (k : Nat) (l : List Value), k ≤ p.length + 80 ∧ i = .int .i64 (k : Int) ∧ l.length = p.length + 80 ∧ Hid (Blk wr F l 5 ∧ Fr (fun x => x = F) w4 wr)) (fun i _ => p.length + 80 - (intOf i).toNat)
  case atStart => exact ⟨0, _, Nat.zero_le _, rfl, by rw [bvs_length, List.length_append, List.length_replicate], Lib.hid ⟨HX.out.2.2.1.drewN n5, (Fr.refl _ w4).drewN n5⟩⟩
  case round =>
    obtain ⟨k, l, hk, rfl, hll, HK⟩ := hrel
    by_cases hlt : k < p.length + 80
    · obtain ⟨u, hu⟩ : ∃ u, l[k]? = some u := ⟨_, List.getElem?_eq_getElem (by omega)⟩
      have hc := HK.out.1.cell k u hu
      have hf := HK.out.1.free k
      clear hu
      go_wp2_with fail
      go_roundw
      case rel => exact ⟨k + 1, l.set k (.int .u8 166), by omega, by go_num, by rw [List.length_set]; exact hll, Lib.hid ⟨HK.out.1.set k _, HK.out.2.setCell (p := ⟨F, k, none⟩) (.inl rfl) _⟩⟩
      case measure => simp [intOf]; omega
    · obtain rfl : k = p.length + 80 := by omega
      go_wp2_with fail
      go_ret
      exact ⟨rfl, vb3, vv4, HX.out.1.fr HK.out.2 (by have := HLT.out.1; omega) HX.out.2.2.2.1 (by have := HLT.out.2.1; omega) HX.out.2.2.2.2, HX.out.2.1.more (HK.out.2.mono (fun k e => .inl (by rw [e]; omega)))⟩

theorem lays_ (b g : Nat) (vb : Option Nat) (gv : Nat) (vv : Option Nat) (bs : List UInt8) (e : Int) (w : World) (hP : Pair w b g vb gv vv bs e) (o : OpV) (hl : bs.length + o.p.length + o.s.size + 4104 ≤ 140737488351232) (hn : o.n < 18446744073709551616) (hr : ∀ W : World, Below b w W → Rd W o.A o.p.length (bvs o.p)) :
    Calls Try.prog 81 #[.pointer (some ⟨g, 0, none⟩), .pointer (some ⟨gv, 0, none⟩), o.val] w fun r w' => r = .returned (.bool true) ∧ ∃ vb' vv', Pair w' b g vb' gv vv' (laidB o bs e) (laidE o bs e) ∧ FrP w w' g vb vb' gv vv vv' := by
  obtain ⟨kd, a, n, num, A2, c2, p, s⟩ := o
  by_cases h1 : kd = 1
  · subst h1; exact lays1 b g vb gv vv bs e w hP a n num A2 c2 p s hl hn
  by_cases h2 : kd = 2
  · subst h2; exact lays2 b g vb gv vv bs e w hP a n num A2 c2 p s hl hn
  by_cases h3 : kd = 3
  · subst h3; exact lays3 b g vb gv vv bs e w hP a n num A2 c2 p s hl hn
  by_cases h4 : kd = 4
  · subst h4; exact lays4 b g vb gv vv bs e w hP a n num A2 c2 p s hl hn
  by_cases h5 : kd = 5
  · subst h5; exact lays5 b g vb gv vv bs e w hP a n num A2 c2 p s hl hr
  by_cases h6 : kd = 6
  · subst h6; exact lays6 b g vb gv vv bs e w hP a n num A2 c2 p s hl
  by_cases h7 : kd = 7
  · subst h7; exact lays7 b g vb gv vv bs e w hP a n num A2 c2 p s hl
  by_cases h8 : kd = 8
  · subst h8; exact lays8 b g vb gv vv bs e w hP a n num A2 c2 p s hl
  have hB : laidB ⟨kd, a, n, num, A2, c2, p, s⟩ bs e = bs := by simp [laidB, h1, h2, h3, h4, h5, h6, h7, h8]
  have hE : laidE ⟨kd, a, n, num, A2, c2, p, s⟩ bs e = e := by simp [laidE, h6, h7, h8]
  rw [hB, hE]
  exact (laysX b g vb gv vv bs e w hP a n num A2 c2 p s hl kd (beqf h1) (beqf h2) (beqf h3) (beqf h4) (beqf h5) (beqf h6) (beqf h7) (beqf h8)).mono fun r w' h => ⟨h.1, vb, vv, h.2.1, h.2.2⟩
end Go.Proofs.Ythdjddpomaendaa.B
