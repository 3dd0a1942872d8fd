/- The walk of WordWrites. -/
import Derived.Test.YthdjddpomaendaaM4
namespace Go.Proofs.Ythdjddpomaendaa.B
open Go.RowKit
set_option linter.unusedVariables false
set_option linter.unusedSimpArgs false

theorem step_ (base gx : Nat) (vws vis vl vw : Value) (n : Int) (P : List Wp) (I : List Kp) (o : OpV) (M : Nat) (w : World) (hR : RowC w base gx vws vis vl vw n (wpc P) (vpc P) P I) (hP : P.length ≤ 1000000) (hne : P ≠ []) (ha : I64 o.at_) (hl : ∀ p ∈ P, p.bs.length ≤ M)
    (hM : M + o.p.length + o.s.size + 4104 ≤ 140737488351232) (hn : o.n < 18446744073709551616) (hr : ∀ W : World, Below base w W → Rd W o.A o.p.length (bvs o.p)) :
    Calls Try.prog 27 #[.pointer (some ⟨gx, 0, none⟩), o.val] w fun r w' => r = .returned (.bool true) ∧ ∃ vws' vis' vl' vw' n' P' I', RowC w' base gx vws' vis' vl' vw' n' (wpc P') (vpc P') P' I' ∧ Below base w w' ∧ P'.length ≤ P.length + 1 ∧ P' ≠ [] ∧ ∀ p ∈ P', p.bs.length ≤ M + 4097 + o.p.length + o.s.size := by
  by_cases h10 : o.kind = 10
  · refine (step_new base gx vws vis vl vw n P I o w hR hP h10).mono ?_
    rintro r w' ⟨e, a1, a2, a3, a4, a5, a6, a7, h1, h2, h3, h4, h5⟩
    refine ⟨e, a1, a2, a3, a4, a5, a6, a7, h1, h2, h3, h4, fun p hp => ?_⟩
    rcases h5 p hp with h | h
    · rw [h]; simp
    · have := hl p h; omega
  by_cases h9 : o.kind = 9
  · refine (step_tell base gx vws vis vl vw n P I o M w hR hP hne h9 ha hl (by omega)).mono ?_
    rintro r w' ⟨e, a3, a4, a5, a7, h1, h2⟩
    exact ⟨e, _, _, a3, a4, a5, P, a7, h1, h2, by omega, hne, fun p hp => by have := hl p hp; omega⟩
  · refine (step_lay base gx vws vis vl vw n P I o M w hR hP hne h10 h9 ha hl hM hn hr).mono ?_
    rintro r w' ⟨e, P', h1, h2, h3, h4⟩
    refine ⟨e, _, _, _, _, _, P', I, h1, h2, by omega, fun h => ?_, h4⟩
    rw [h] at h3
    exact hne (List.length_eq_zero_iff.1 h3.symm)
theorem total_ge (L : List OpV) : ∀ k, k ≤ L.length → 4097 * k ≤ total (L.take k)
  | 0, _ => by simp
  | k + 1, hk => by
    have h := total_succ L k L[k] (List.getElem?_eq_getElem (by omega))
    have h2 := total_ge L k (by omega)
    generalize total (L.take (k + 1)) = x at *
    generalize total (L.take k) = y at *
    omega
theorem total_le (L : List OpV) (k : Nat) : total (L.take k) ≤ total L := by
  conv => rhs; rw [← List.take_append_drop k L]
  unfold total
  rw [List.map_append, List.sum_append]
  omega
/-- The six cells of a step, as the walk reads them. -/
theorem op_cells {w : World} {ad : Addr} {k : Nat} {o : OpV} (hcell : ∀ (j : Nat) (v : Value), o.cells[j]? = some v → w.cell? (ad.add (k * 6 + j)) = some v) :
    w.cell? (ad.add (k * 6)) = some (.int .i64 o.kind) ∧ w.cell? ⟨(ad.add (k * 6)).block, (ad.add (k * 6)).off + 1, none⟩ = some (.int .i64 o.at_) ∧ w.cell? ⟨(ad.add (k * 6)).block, (ad.add (k * 6)).off + 2, none⟩ = some (.int .u64 (o.n : Int)) ∧
    w.cell? ⟨(ad.add (k * 6)).block, (ad.add (k * 6)).off + 3, none⟩ = some (.int .i64 o.num) ∧ w.cell? ⟨(ad.add (k * 6)).block, (ad.add (k * 6)).off + 4, none⟩ = some (.slice o.A o.p.length o.c) ∧ w.cell? ⟨(ad.add (k * 6)).block, (ad.add (k * 6)).off + 5, none⟩ = some (.string o.s) := by
  have e0 := hcell 0 (.int .i64 o.kind) rfl
  rw [Nat.add_zero] at e0
  have e1 := hcell 1 (.int .i64 o.at_) rfl
  rw [add_at _ _ 1 (by decide)] at e1
  have e2 := hcell 2 (.int .u64 (o.n : Int)) rfl
  rw [add_at _ _ 2 (by decide)] at e2
  have e3 := hcell 3 (.int .i64 o.num) rfl
  rw [add_at _ _ 3 (by decide)] at e3
  have e4 := hcell 4 (.slice o.A o.p.length o.c) rfl
  rw [add_at _ _ 4 (by decide)] at e4
  have e5 := hcell 5 (.string o.s) rfl
  rw [add_at _ _ 5 (by decide)] at e5
  exact ⟨e0, e1, e2, e3, e4, e5⟩
/-- A new row of writers. -/
theorem RowC.new (W : World) (base : Nat) (hb : base ≤ W.heap.size) : RowC (W.alloc (.cells #[.slice none 0 0, .slice none 0 0, .slice none 0 0, .slice none 0 0, .int .i64 0, .bool false] 51)) base W.heap.size (.slice none 0 0) (.slice none 0 0) (.slice none 0 0) (.slice none 0 0) 0 (wpc []) (vpc []) [] [] :=
  ⟨⟨hb, rfl, by decide, by decide, Blk.new W _ _, Row.nil _ _ _ _, Row.nil _ _ _ _, fun b hb => by cases hb⟩, by unfold I64; omega, ⟨fun i hi => by simp at hi, List.Pairwise.nil⟩, by simp, Row.nil _ _ _ _, Row.nil _ _ _ _, fun p hp => by simp at hp, fun i j p q hi => by simp at hi, fun p hp => by simp at hp⟩

set_option maxHeartbeats 6400000 in
set_option maxRecDepth 100000 in
theorem writes_walk (As : Option Addr) (m cs : Nat) (L : List OpV) (w : World) (hL : OpsAt w As L) (hm : L.length = m) (hcs : m ≤ cs) (hmm : m ≤ 9223372036854775807) (hat : ∀ o ∈ L, -9223372036854775808 ≤ o.at_ ∧ o.at_ ≤ 9223372036854775807) :
    Calls Try.prog 5 #[.slice As m cs] w fun r w' => r = .returned (.bool true) ∧ Below w.heap.size w w' := by
  have HM := Lib.hid hm
  have HAT := Lib.hid hat
  clear hm hat
  go_enter Try.func5, Try.ntmps5
  go_wp2_with fail
  refine (sbeyond_ As m cs L _ hL HM.out hcs hmm).mono ?_
  rintro r w1 ⟨b, rfl, hb, hB1⟩
  cases b with
  | true =>
    go_wp2_with fail
    go_ret
    exact ⟨rfl, hB1⟩
  | false =>
    have htot := hb rfl
    have HT := Lib.hid htot
    clear hb htot
    have hgs := hB1.size
    have hR := RowC.new w1 w.heap.size hgs
    have hB := below_alloc hB1 (.cells #[.slice none 0 0, .slice none 0 0, .slice none 0 0, .slice none 0 0, .int .i64 0, .bool false] 51)
    have HR := Lib.hid (And.intro hR hB)
    clear hR hB hB1
    go_wp2_with fail
    refine (step_new w.heap.size w1.heap.size _ _ _ _ 0 [] [] ⟨10, 0, 0, 0, none, 0, [], ByteArray.empty⟩ _ HR.out.1 (by simp) rfl).mono ?_
    rintro r w2 ⟨rfl, vws2, vis2, vl2, vw2, n2, P2, I2, hR2, hB2, hP2, hne2, hl2⟩
    have HR2 := Lib.hid (And.intro hR2 (And.intro (HR.out.2.trans hB2) (And.intro hP2 (And.intro hne2 (show ∀ p ∈ P2, p.bs.length ≤ 0 from fun p hp => by rcases hl2 p hp with h | h; (rw [h]; simp); (simp at h))))))
    clear hR2 hB2 hP2 hne2 hl2 HR
    generalize hgx : w1.heap.size = gx at *
    clear hgx
    go_wp2_with fail
    refine (step_ w.heap.size gx _ _ _ _ n2 P2 I2 ⟨2, 0, 515, 0, none, 0, [], ByteArray.empty⟩ 0 _ HR2.out.1 (by have := HR2.out.2.2.1; simp at this; omega) HR2.out.2.2.2.1 (show I64 0 by unfold I64; omega) HR2.out.2.2.2.2 (by decide) (by decide) (fun W _ => Rd.nil _ _)).mono ?_
    rintro r w3 ⟨rfl, vws3, vis3, vl3, vw3, n3, P3, I3, hR3, hB3, hP3, hne3, hl3⟩
    have HR3 := Lib.hid (And.intro hR3 (And.intro (HR2.out.2.1.trans hB3) (And.intro (show P3.length ≤ 2 by have := HR2.out.2.2.1; simp at this; omega) (And.intro hne3 (show ∀ p ∈ P3, p.bs.length ≤ 4097 from fun p hp => hl3 p hp)))))
    clear hR3 hB3 hP3 hne3 hl3 HR2
    go_wp2_with fail
    refine (step_ w.heap.size gx _ _ _ _ n3 P3 I3 ⟨8, 0, 0, 0, none, 0, [], ByteArray.empty⟩ 4097 _ HR3.out.1 (by have := HR3.out.2.2.1; omega) HR3.out.2.2.2.1 (show I64 0 by unfold I64; omega) HR3.out.2.2.2.2 (by decide) (by decide) (fun W _ => Rd.nil _ _)).mono ?_
    rintro r w4 ⟨rfl, vws4, vis4, vl4, vw4, n4, P4, I4, hR4, hB4, hP4, hne4, hl4⟩
    have HR4 := Lib.hid (And.intro hR4 (And.intro (HR3.out.2.1.trans hB4) (And.intro (show P4.length ≤ 3 by have := HR3.out.2.2.1; omega) (And.intro hne4 (show ∀ p ∈ P4, p.bs.length ≤ 8194 from fun p hp => hl4 p hp)))))
    clear hR4 hB4 hP4 hne4 hl4 HR3
    go_wp2_with fail
    obtain ⟨q0, hq0⟩ : ∃ q, P4[0]? = some q := ⟨_, List.getElem?_eq_getElem (List.length_pos_iff.2 HR4.out.2.2.2.1)⟩
    refine (tells_ w.heap.size gx _ _ _ _ n4 P4 I4 0 q0 _ HR4.out.1 hq0 (by have := HR4.out.2.2.2.2 q0 (List.mem_of_getElem? hq0); omega)).mono ?_
    rintro r w5 ⟨rfl, vl5, vw5, n5, I5, hR5, hB5⟩
    have HR5 := Lib.hid (And.intro hR5 (And.intro (HR4.out.2.1.trans hB5) (And.intro HR4.out.2.2.2.1 (And.intro HR4.out.2.2.1 HR4.out.2.2.2.2))))
    clear hR5 hB5 HR4 hq0
    go_wp2_with fail
    go_loopw [5] (fun i wr => ∃ (k : Nat), k ≤ m ∧ i = .int .i64 (k : Int) ∧ Hid (∃ vws vis vl vw n P I, RowC wr w.heap.size gx vws vis vl vw n (wpc P) (vpc P) P I ∧ Below w.heap.size w wr ∧ P ≠ [] ∧ P.length ≤ 3 + k ∧ ∀ p ∈ P, p.bs.length ≤ 8194 + total (L.take k))) (fun i _ => m - (intOf i).toNat)
    case atStart => exact ⟨0, Nat.zero_le _, rfl, Lib.hid ⟨_, _, _, _, _, _, _, HR5.out.1, HR5.out.2.1, HR5.out.2.2.1, HR5.out.2.2.2.1, fun p hp => by have := HR5.out.2.2.2.2 p hp; simp; omega⟩⟩
    case round =>
      clear HR5
      obtain ⟨k, hk, rfl, HS⟩ := hrel
      obtain ⟨vws, vis, vl, vw, n, P, I, hR, hB, hne, hPl, hl⟩ := HS.out
      have HR := Lib.hid (And.intro hR (And.intro hB (And.intro hne (And.intro hPl hl))))
      clear HS hR hB hne hPl hl
      by_cases hlt : k < m
      · obtain ⟨o, ho⟩ : ∃ o, L[k]? = some o := ⟨_, List.getElem?_eq_getElem (by rw [HM.out]; exact hlt)⟩
        obtain ⟨ad, rfl, hcell, hok, hblk⟩ := (hL.below HR.out.2.1) k o ho
        obtain ⟨e0, e1, e2, e3, e4, e5⟩ := op_cells hcell
        have hts := total_succ L k o ho
        have htk := total_le L (k + 1)
        have htt := HT.out
        have hkl := total_ge L k (by have := HM.out; omega)
        have hP1 : P.length ≤ 1000000 := by have := HR.out.2.2.2.1; omega
        have hMM : 8194 + total (L.take k) + o.p.length + o.s.size + 4104 ≤ 140737488351232 := by omega
        have HTS := Lib.hid hts
        have hi0 : (0 : Int) ≤ (k : Int) := by omega
        have hi1 : (k : Int) < (m : Int) := by omega
        have HRD := Lib.hid (show ∀ W : World, Below w.heap.size wr W → Rd W o.A o.p.length (bvs o.p) from fun W hW => by
          obtain ⟨_, _, _, hok', _⟩ := (hL.below (HR.out.2.1.trans hW)) k o ho
          exact hok'.rd)
        have hon := hok.n
        clear hcell htk htt hkl hblk hts hok
        go_wp2_with fail
        refine (step_ w.heap.size gx _ _ _ _ n P I o (8194 + total (L.take k)) _ HR.out.1 hP1 HR.out.2.2.1 (HAT.out o (List.mem_of_getElem? ho)) HR.out.2.2.2.2 hMM hon HRD.out).mono ?_
        rintro r w6 ⟨rfl, vws6, vis6, vl6, vw6, n6, P6, I6, hR6, hB6, hP6, hne6, hl6⟩
        have HX := Lib.hid (show ∃ vws vis vl vw n P I, RowC w6 w.heap.size gx vws vis vl vw n (wpc P) (vpc P) P I ∧ Below w.heap.size w w6 ∧ P ≠ [] ∧ P.length ≤ 3 + (k + 1) ∧ ∀ p ∈ P, p.bs.length ≤ 8194 + total (L.take (k + 1)) from
          ⟨_, _, _, _, _, P6, _, hR6, HR.out.2.1.trans hB6, hne6, by have := HR.out.2.2.2.1; omega, fun p hp => by have := hl6 p hp; rw [HTS.out]; omega⟩)
        clear hR6 hB6 hP6 hne6 hl6 e0 e1 e2 e3 e4 e5
        go_wp2_with fail
        go_roundw
        case rel => exact ⟨k + 1, by omega, by go_num, HX⟩
        case measure => simp [intOf]; omega
      · obtain rfl : k = m := by omega
        have HLL := Lib.hid (show ∀ p ∈ P, p.bs.length ≤ 140737488351232 from fun p hp => by
          have h1 := HR.out.2.2.2.2 p hp
          have h2 := total_le L k
          have h3 := HT.out
          omega)
        clear hlt hk
        go_wp2_with fail
        obtain ⟨aw, cw, av, cv, rfl, rfl⟩ := HR.out.1.shape HR.out.2.2.1
        obtain ⟨pl, hpl⟩ : ∃ pl, P.length = pl := ⟨_, rfl⟩
        have hplm : pl ≤ 1000000000 := by rw [← hpl]; have := HR.out.2.2.2.1; have h2 := total_ge L k (by rw [HM.out]; omega); have h3 := total_le L k; have h4 := HT.out; omega
        have HPL := Lib.hid hpl
        rw [hpl] at HR
        clear hpl
        go_loopw [6] (fun i wr => ∃ (j : Nat), j ≤ pl ∧ i = .int .i64 (j : Int) ∧ Hid (∃ vl vw n I, RowC wr w.heap.size gx (.slice (some aw) pl cw) (.slice (some av) pl cv) vl vw n (wpc P) (vpc P) P I ∧ Below w.heap.size w wr)) (fun i _ => pl - (intOf i).toNat)
        case atStart => exact ⟨0, Nat.zero_le _, rfl, Lib.hid ⟨_, _, _, _, HR.out.1, HR.out.2.1⟩⟩
        case round =>
          clear HR
          obtain ⟨j, hj, rfl, HS⟩ := hrel
          obtain ⟨vl7, vw7, n7, I7, hR7, hB7⟩ := HS.out
          have q0 := hR7.blk.cell 0 _ rfl
          have HR7 := Lib.hid (And.intro hR7 hB7)
          clear HS hR7 hB7
          by_cases hjl : j < pl ∧ j < 50
          · obtain ⟨q, hq⟩ : ∃ q, P[j]? = some q := ⟨_, List.getElem?_eq_getElem (by rw [HPL.out]; exact hjl.1)⟩
            have h1 := hjl.1
            have h2 := hjl.2
            have t1 : decide (j < pl) = true := decide_eq_true h1
            have t1' : decide ((j : Int) < (pl : Int)) = true := decide_eq_true (by omega)
            have t2 : decide (j < 50) = true := decide_eq_true h2
            have t2' : decide ((j : Int) < 50) = true := decide_eq_true (by omega)
            have hql := HLL.out q (List.mem_of_getElem? hq)
            have HQ := Lib.hid hq
            clear hjl hq
            go_wp2_with fail
            refine (tells_ w.heap.size gx _ _ _ _ n7 P I7 j q _ HR7.out.1 HQ.out hql).mono ?_
            rintro r w8 ⟨rfl, vl8, vw8, n8, I8, hR8, hB8⟩
            have HX := Lib.hid (show ∃ vl vw n I, RowC w8 w.heap.size gx (.slice (some aw) pl cw) (.slice (some av) pl cv) vl vw n (wpc P) (vpc P) P I ∧ Below w.heap.size w w8 from ⟨_, _, _, _, hR8, HR7.out.2.trans hB8⟩)
            clear hR8 hB8 q0 t1 t1' t2 t2'
            go_wp2_with fail
            go_roundw
            case rel => exact ⟨j + 1, by omega, by go_num, HX⟩
            case measure => simp [intOf]; omega
          · have hfin : ∀ wz, wz = wr → Calls Try.prog 29 #[.pointer (some ⟨gx, 2, none⟩), (.func (.func 30) #[] #[])] wz fun r w' => r = .returned (.bool true) ∧ Below w.heap.size w w' := fun wz e => by
              subst e
              exact (apart_ w.heap.size gx 2 _ _ _ _ _ I7 n7 _ HR7.out.1.book HR7.out.1.kps (by have := HR7.out.1.sz; omega)).mono fun r w' h => ⟨h.1, HR7.out.2.trans h.2⟩
            have HF := Lib.hid hfin
            clear hfin HR7 HLL
            by_cases h1 : j < pl
            · have t1 : decide (j < pl) = true := decide_eq_true h1
              have t1' : decide ((j : Int) < (pl : Int)) = true := decide_eq_true (by omega)
              have t2 : decide (j < 50) = false := decide_eq_false (by omega)
              have t2' : decide ((j : Int) < 50) = false := decide_eq_false (by omega)
              clear hjl
              go_wp2_with fail
              refine (HF.out _ rfl).mono ?_
              rintro r w9 ⟨rfl, hB9⟩
              go_wp2_with fail
              go_ret
              exact ⟨rfl, hB9⟩
            · have t1 : decide (j < pl) = false := decide_eq_false h1
              have t1' : decide ((j : Int) < (pl : Int)) = false := decide_eq_false (by omega)
              clear hjl
              go_wp2_with fail
              refine (HF.out _ rfl).mono ?_
              rintro r w9 ⟨rfl, hB9⟩
              go_wp2_with fail
              go_ret
              exact ⟨rfl, hB9⟩
end Go.Proofs.Ythdjddpomaendaa.B
