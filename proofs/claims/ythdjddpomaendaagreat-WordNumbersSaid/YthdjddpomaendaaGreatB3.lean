/- Rows of bytes that are the call's own: append. -/
import Derived.Test.YthdjddpomaendaaGreatB2
namespace Go.Proofs.YthdjddpomaendaaGreat.B
open Go.RowKit
set_option linter.unusedVariables false
set_option linter.unusedSimpArgs false

/-- A slice of bytes that is the call's own from block base on: nil, or the head of a block. -/
def Own (w : World) (base : Nat) (v : Value) (xs : List UInt8) : Prop := w.ownsRow base 5 1 v xs.length (bvs xs)
section
variable {w w' : World} {base : Nat} {v : Value} {xs : List UInt8}
theorem Own.nil (w : World) (base : Nat) : Own w base (.slice none 0 0) [] := World.ownsRow_nil w base 5 1
theorem Own.cases (h : Own w base v xs) : ∃ A c, v = .slice A xs.length c ∧ xs.length ≤ c ∧ xs.length ≤ 9223372036854775807 ∧
    ((xs = [] ∧ A = none ∧ c = 0) ∨ ∃ g rest, A = some ⟨g, 0, none⟩ ∧ base ≤ g ∧ Blk w g (bvs xs ++ rest) 5 ∧ rest.length = c - xs.length) := by
  rcases h.2 with ⟨rfl, hn⟩ | ⟨g, cap, cur, rfl, hb, hg, hnc, hcm, hcs, ht⟩
  · obtain rfl : xs = [] := List.eq_nil_of_length_eq_zero hn
    exact ⟨none, 0, rfl, by simp, by simp, .inl ⟨rfl, rfl, rfl⟩⟩
  · refine ⟨_, cap, rfl, hnc, by simp only [maxLen] at hcm; omega, .inr ⟨g, cur.toList.drop xs.length, rfl, hb, ?_, ?_⟩⟩
    · rw [Nat.mul_one] at ht
      unfold Blk
      rw [← ht, List.take_append_drop]
      simpa using hg
    · rw [List.length_drop, Array.length_toList, hcs, Nat.mul_one]
theorem Own.rd (h : Own w base v xs) : ∃ A c, v = .slice A xs.length c ∧ xs.length ≤ c ∧ Rd w A xs.length (bvs xs) := by
  obtain ⟨A, c, rfl, hc, hm, h | ⟨g, rest, rfl, hb, hk, _⟩⟩ := h.cases
  · obtain ⟨rfl, rfl, rfl⟩ := h
    exact ⟨none, 0, rfl, hc, Rd.nil _ _⟩
  · exact ⟨_, c, rfl, hc, hk.rd _ (bvs_length _) hm (fun j u hu => by rw [Nat.zero_add, List.getElem?_append_left (List.getElem?_eq_some_iff.1 hu).1]; exact hu)⟩
theorem Own.rd_ {A : Option Addr} {n c : Nat} (h : Own w base (.slice A n c) xs) : Rd w A n (bvs xs) := by
  obtain ⟨A', c', e, _, hr⟩ := h.rd
  injection e with e1 e2 e3
  subst e1 e2
  exact hr
theorem Own.of_blk {g c : Nat} {rest : List Value} (hk : Blk w g (bvs xs ++ rest) 5) (hb : base ≤ g) (hc : rest.length = c - xs.length) (hle : xs.length ≤ c) (hm : c ≤ 9223372036854775807) : Own w base (.slice (some ⟨g, 0, none⟩) xs.length c) xs := by
  refine ⟨by simp [bvs_length], .inr ⟨g, c, _, rfl, hb, hk, hle, by simpa [maxLen] using hm, by simp [bvs_length, hc]; omega, ?_⟩⟩
  simp [← bvs_length xs]
theorem Own.base_le (h : Own w base v xs) (k : Nat) (hk : v.ownBlock = some k) : base ≤ k ∧ k < w.heap.size := World.ownsRow.lt h k hk
theorem Own.grown {row : Option Nat} (h : Own w base v xs) (hg : w.grownBy w' row) (hne : v.ownBlock = none ∨ v.ownBlock ≠ row) : Own w' base v xs := World.ownsRow.kept h hg hne
theorem Own.below (h : Own w base v xs) (hb : Below w.heap.size w w') : Own w' base v xs :=
  h.grown (row := none) ⟨hb.os, hb.tape, hb.output, hb.size, fun i hi _ => hb.block i hi⟩ (by cases v.ownBlock <;> simp)
theorem Own.mono {base' : Nat} (h : Own w base v xs) (hb : base' ≤ base) : Own w base' v xs := by
  refine ⟨h.1, ?_⟩
  rcases h.2 with h | ⟨g, cap, cur, e, hg, r⟩
  · exact .inl h
  · exact .inr ⟨g, cap, cur, e, Nat.le_trans hb hg, r⟩
end

set_option maxRecDepth 100000 in
/-- append(v, ys...): v the call's own, ys a slice that is read. -/
theorem run_app_u8 (w : World) (base : Nat) (v : Value) (xs : List UInt8) (A : Option Addr) (m c : Nat) (ys : List UInt8) (HO : Own w base v xs) (HR : Rd w A m (bvs ys)) (hbase : base ≤ w.heap.size) (N : Nat) (hN : xs.length + m = N) (hl : N ≤ 140737488355328) (ty : TypeId) :
    ∃ A' c' w', (Builtin.append_ #[23, 23] ty #[v, .slice A m c]).run Tryz.prog w = .ok (.slice A' N c') w' ∧ Own w' base (.slice A' N c') (xs ++ ys) ∧ w.grownBy w' v.ownBlock ∧ ((Value.slice A' N c').ownBlock = v.ownBlock ∨ (Value.slice A' N c').ownBlock = some w.heap.size) := by
  have ht := Tryz.underlying23
  obtain ⟨i0, hi, hzz⟩ := Option.map_eq_some_iff.1 info5
  simp only [Prod.mk.injEq] at hzz
  obtain ⟨hz0, hz1, hz2⟩ := hzz
  have hm : ys.length = m := HR.len
  have hrun : ∃ v1 w1, (Builtin.append_ #[23, 23] ty #[v, .slice A m c]).run Tryz.prog w = .ok v1 w1 ∧ Own w1 base v1 (xs ++ ys) ∧ w.grownBy w1 v.ownBlock ∧ (v1.ownBlock = v.ownBlock ∨ v1.ownBlock = some w.heap.size) := by
    rcases A with _ | ad
    · have h0 : m = 0 := by
        rcases Nat.eq_zero_or_pos m with h0 | h0
        · exact h0
        · obtain ⟨ad, h, _⟩ := HR.2.2 h0
          cases h
      subst h0
      obtain rfl : ys = [] := List.eq_nil_of_length_eq_zero hm
      refine ⟨v, w, ?_, by simpa using HO, World.grownBy.refl w _, .inl rfl⟩
      rcases HO.2 with ⟨rfl, hn⟩ | ⟨g, cap, cur, rfl, _, _, hnc, _⟩
      · simp [Builtin.append_, run_underlying ht, sizeOf, typeInfo, hi, Builtin.lenOf, Builtin.firstCells]
      · simp [Builtin.append_, run_underlying ht, sizeOf, typeInfo, hi, Builtin.lenOf, Builtin.firstCells, hnc, storeCells]
    · have hcells : ∀ j u, (bvs ys)[j]? = some u → w.cell? (ad.add j) = some u := by
        intro j u hu
        obtain ⟨ad', h', hc⟩ := HR.at_ j u hu
        injection h' with h'
        subst h'
        exact hc
      obtain ⟨v1, w1, hr, h2, h3, _, h5⟩ := run_append_own_at (P := Tryz.prog) w base 23 ty 5 i0 (.int .u8 0) 1 1 ht hi hz0 hz1 hz2 rfl (by omega) v xs.length (bvs xs) HO ad m c (bvs ys) (by simp [bvs_length, hm]) hcells
        (oneCell_bvs ys) (by simp only [maxLen]; omega) (by omega) hbase
      refine ⟨v1, w1, hr, ?_, h3, h5⟩
      have e : bvs xs ++ bvs ys = bvs (xs ++ ys) := by simp [bvs]
      rw [e] at h2
      unfold Own
      rwa [List.length_append, hm]
  obtain ⟨v1, w1, hr, hown1, hg, hat⟩ := hrun
  obtain ⟨A', c', e, _, _⟩ := hown1.rd
  rw [List.length_append, hm, hN] at e
  subst e
  exact ⟨A', c', w1, hr, hown1, hg, hat⟩

theorem zeros_u8 (k : Nat) : Builtin.zeroCells (Value.int .u8 0).cells k = (bvs (List.replicate k 0)).toArray := by
  apply Array.ext'
  apply List.ext_getElem
  · simp [bvs, Builtin.zeroCells, Value.cells]
  · intro i h1 h2
    simp [bvs, Builtin.zeroCells, bv, Value.cells, Nat.mod_one]

theorem zeros_join (k r : Nat) (xs : List UInt8) : (bvs xs).toArray ++ Builtin.zeroCells (Value.int .u8 0).cells k ++ Builtin.zeroCells (Value.int .u8 0).cells r = (bvs (xs ++ List.replicate k 0) ++ bvs (List.replicate r 0)).toArray := by
  rw [zeros_u8, zeros_u8]
  apply Array.ext'
  simp [bvs]
theorem asInt_i64 (k : Int) (w : World) : (asInt (.int .i64 k)).run Tryz.prog w = .ok k w := by simp [asInt, asIntOf]
set_option maxRecDepth 100000 in
/-- append(v, make([]byte, k)...): k zeros behind v. -/
theorem run_appz_u8 (w : World) (base : Nat) (v : Value) (xs : List UInt8) (k : Nat) (HO : Own w base v xs) (hbase : base ≤ w.heap.size) (N : Nat) (hN : xs.length + k = N) (hl : N ≤ 140737488355328) (ty : TypeId) :
    ∃ A' c' w', (Builtin.append_ #[23, 3] ty #[v, .int .i64 (k : Int)]).run Tryz.prog w = .ok (.slice A' N c') w' ∧ Own w' base (.slice A' N c') (xs ++ List.replicate k 0) ∧ w.grownBy w' v.ownBlock ∧ ((Value.slice A' N c').ownBlock = v.ownBlock ∨ (Value.slice A' N c').ownBlock = some w.heap.size) := by
  have ht := Tryz.underlying23
  have hti := Tryz.underlying3
  obtain ⟨i0, hi, hzz⟩ := Option.map_eq_some_iff.1 info5
  simp only [Prod.mk.injEq] at hzz
  obtain ⟨hz0, hz1, hz2⟩ := hzz
  have hw : IntKind.i64.wrap (k : Int) = (k : Int) := by rw [IntKind.wrap_i64]; omega
  have hk0 : ¬ ((k : Int) < 0) := by omega
  have hk1 : ¬ ((281474976710656 : Int) < (k : Int)) := by omega
  have grown : ∀ old : Nat, old < N → Own (w.drew.alloc (.cells ((bvs xs).toArray ++ Builtin.zeroCells (Value.int .u8 0).cells k ++ Builtin.zeroCells (Value.int .u8 0).cells (grownCap w N old 5 - N)) 5)) base (.slice (some ⟨w.heap.size, 0, none⟩) N (grownCap w N old 5)) (xs ++ List.replicate k 0) := by
    intro old ho
    have hge := grownCap_ge w N old 5
    have hcm : grownCap w N old 5 ≤ maxLen := grownCap_le_maxLen w N old 5 (by simp only [maxLen]; omega)
    have hl2 : (xs ++ List.replicate k 0).length = N := by simp [hN]
    rw [zeros_join]
    have h := Own.of_blk (w := w.drew.alloc (.cells (bvs (xs ++ List.replicate k 0) ++ bvs (List.replicate (grownCap w N old 5 - N) 0)).toArray 5)) (base := base) (g := w.heap.size) (c := grownCap w N old 5) (xs := xs ++ List.replicate k 0) (rest := bvs (List.replicate (grownCap w N old 5 - N) 0)) (heap_alloc_new w.drew _) hbase (by rw [bvs_length, List.length_replicate, hl2]) (by omega) (by simp only [maxLen] at hcm; omega)
    rwa [hl2] at h
  rcases HO.cases with ⟨A, c, rfl, hc, hm, ⟨rfl, rfl, rfl⟩ | ⟨g, rest, rfl, hb, hk, hr⟩⟩
  · simp only [List.length_nil, Nat.zero_add] at hN
    subst hN
    by_cases h0 : k = 0
    · subst h0
      refine ⟨none, 0, w, ?_, by simpa using HO, World.grownBy.refl w _, .inl rfl⟩
      simp [Builtin.append_, run_underlying ht, run_underlying hti, sizeOf, typeInfo, hi, hz1, hz2, asInt_i64, show IntKind.i64.wrap 0 = 0 from by decide]
    · have h63' : ¬ (9223372036854775807 < (k : Int)) := by omega
      have h48' : ¬ (281474976710656 < Builtin.nextslicecap k 0) := by rw [nextslicecap_zero (by omega)]; omega
      have hr : (Builtin.append_ #[23, 3] ty #[.slice none 0 0, .int .i64 (k : Int)]).run Tryz.prog w = .ok (.slice (some ⟨w.heap.size, 0, none⟩) k (grownCap w k 0 5)) (w.drew.alloc (.cells ((bvs []).toArray ++ Builtin.zeroCells (Value.int .u8 0).cells k ++ Builtin.zeroCells (Value.int .u8 0).cells (grownCap w k 0 5 - k)) 5)) := by
        simp [Builtin.append_, run_underlying ht, run_underlying hti, sizeOf, typeInfo, zeroValue, hi, hz0, hz1, hw, asInt_i64, hk0, hk1, h0, h63', h48', Question.forced, run_firstCells_none, newRow, grownCap, hz2, bvs]
      exact ⟨_, _, _, hr, grown 0 (by omega), ⟨rfl, rfl, rfl, by simp, fun i hi _ => by rw [heap_alloc_old w.drew _ hi]; rfl⟩, .inr rfl⟩
  · have hgt : g < w.heap.size := hk.lt
    by_cases hroom : N ≤ c
    · by_cases h0 : k = 0
      · subst h0
        have hN' : xs.length = N := by omega
        subst hN'
        refine ⟨some ⟨g, 0, none⟩, c, w, ?_, by simpa using HO, World.grownBy.refl w _, .inl rfl⟩
        simp [Builtin.append_, run_underlying ht, run_underlying hti, sizeOf, typeInfo, hi, hz1, hz2, asInt_i64, show IntKind.i64.wrap 0 = 0 from by decide, hc, storeCells]
      · have hst := run_storeCells_at Tryz.prog g xs.length 5 (bvs (List.replicate k 0)) 0 (bvs xs ++ rest).toArray w hk (by simp [bvs_length, hr]; omega) (oneCell_bvs _)
        have ez : (Builtin.zeroCells (Value.int .u8 0).cells k).toList = bvs (List.replicate k 0) := by rw [zeros_u8]
        have hroom' : xs.length + k ≤ c := by omega
        have e : (bvs xs ++ rest).toArray.toList.take (xs.length + 0) ++ bvs (List.replicate k 0) ++ (bvs xs ++ rest).toArray.toList.drop (xs.length + 0 + (bvs (List.replicate k 0)).length) = bvs (xs ++ List.replicate k 0) ++ rest.drop k := by
          simp only [Nat.add_zero, bvs_length, List.length_replicate]
          have e1 : (bvs xs ++ rest).take xs.length = bvs xs := by rw [← bvs_length xs, List.take_left]
          have e2 : (bvs xs ++ rest).drop (xs.length + k) = rest.drop k := by rw [← bvs_length xs, List.drop_append, List.drop_of_length_le (by omega), List.nil_append, Nat.add_sub_cancel_left]
          rw [e1, e2]
          simp [bvs]
        rw [e] at hst
        have hrun : (Builtin.append_ #[23, 3] ty #[.slice (some ⟨g, 0, none⟩) xs.length c, .int .i64 (k : Int)]).run Tryz.prog w = .ok (.slice (some ⟨g, 0, none⟩) N c) (w.setRow g (bvs (xs ++ List.replicate k 0) ++ rest.drop k).toArray) := by
          simp [Builtin.append_, run_underlying ht, run_underlying hti, sizeOf, typeInfo, zeroValue, hi, hz0, hz1, hw, asInt_i64, hk0, hk1, h0, hroom', ez, Addr.add_lit, hst, hz2]
          exact hN
        have hl2 : (xs ++ List.replicate k 0).length = N := by simp [hN]
        have hcm : c ≤ 9223372036854775807 := by
          rcases HO.2 with ⟨h1, _⟩ | ⟨_, cap, _, h1, _, _, _, h2, _⟩
          · cases h1
          · injection h1 with _ _ h1
            simp only [maxLen] at h2
            omega
        have ho := Own.of_blk (w := w.setRow g (bvs (xs ++ List.replicate k 0) ++ rest.drop k).toArray) (base := base) (g := g) (c := c) (xs := xs ++ List.replicate k 0) (rest := rest.drop k) (setRow_heap w g _ _ 5 _ hk) hb (by rw [List.length_drop, hl2]; omega) (by omega) hcm
        rw [hl2] at ho
        exact ⟨_, _, _, hrun, ho, ⟨rfl, rfl, rfl, by simp, fun i _ hi => setRow_other w g i _ (fun e => hi (by simp [Value.ownBlock, e]))⟩, .inl rfl⟩
    · have hcells : ∀ j u, (bvs xs)[j]? = some u → w.cell? ((⟨g, 0, none⟩ : Addr).add j) = some u := fun j u hu => by
        rw [add_lit]
        exact hk.cell _ _ (by rw [Nat.zero_add, List.getElem?_append_left (List.getElem?_eq_some_iff.1 hu).1]; exact hu)
      have hfo := run_firstCells_some (P := Tryz.prog) w.drew 1 xs.length ⟨g, 0, none⟩ xs.length c (bvs xs) (by rw [bvs_length, Nat.mul_one]) (by simpa using hcells)
      have hn : ¬ (xs.length + k ≤ c) := by omega
      have h0 : k ≠ 0 := by omega
      have h63' : ¬ (9223372036854775807 < ((xs.length : Int) + (k : Int))) := by omega
      have h48' : ¬ (281474976710656 < Builtin.nextslicecap (xs.length + k) c) := by have := nextslicecap_le (need := xs.length + k) (old := c) (by omega); omega
      have hrun : (Builtin.append_ #[23, 3] ty #[.slice (some ⟨g, 0, none⟩) xs.length c, .int .i64 (k : Int)]).run Tryz.prog w = .ok (.slice (some ⟨w.heap.size, 0, none⟩) N (grownCap w N c 5)) (w.drew.alloc (.cells ((bvs xs).toArray ++ Builtin.zeroCells (Value.int .u8 0).cells k ++ Builtin.zeroCells (Value.int .u8 0).cells (grownCap w N c 5 - N)) 5)) := by
        subst hN
        simp [Builtin.append_, run_underlying ht, run_underlying hti, sizeOf, typeInfo, zeroValue, hi, hz0, hz1, hw, asInt_i64, hk0, hk1, h0, hn, h63', h48', Question.forced, hfo, newRow, grownCap, hz2]
      exact ⟨_, _, _, hrun, grown c (by omega), ⟨rfl, rfl, rfl, by simp, fun i hi _ => by rw [heap_alloc_old w.drew _ hi]; rfl⟩, .inr rfl⟩

section
variable {ops : Array Oper} {rest : List Oper} {o : Oper} {a : Act} {Q : Exit → Act → World → Prop} {w : World}
/-- append(v, ys...) as an operation of a plain region. -/
theorem app_u8 (hgd : Region.wanted o (yielded ops a.tmps) = true) (s x : Operand) (ho : o.op = .call { callee := .builtin .append, args := #[s, x], argTypes := #[23, 23] })
    (base : Nat) (v : Value) (xs : List UInt8) (A : Option Addr) (m c : Nat) (ys : List UInt8) (hs : a.eval s = v) (hx : a.eval x = .slice A m c)
    (HO : Own w base v xs) (HR : Rd w A m (bvs ys)) (hbase : base ≤ w.heap.size) (N : Nat) (hN : xs.length + m = N) (hl : N ≤ 140737488355328) (B : Nat) (w0 : World) (hb : Below B w0 w) (hB : B ≤ base)
    (h : ∀ A' c' w', Own w' base (.slice A' N c') (xs ++ ys) → Below B w0 w' → w.grownBy w' v.ownBlock → ((Value.slice A' N c').ownBlock = v.ownBlock ∨ (Value.slice A' N c').ownBlock = some w.heap.size) → wpList Tryz.prog ops Q rest (a.put o.dst (.slice A' N c')) w') :
    wpList Tryz.prog ops Q (o :: rest) a w := by
  obtain ⟨A', c', w1, hr, hown1, hg, hat⟩ := run_app_u8 w base v xs A m c ys HO HR hbase N hN hl o.type
  refine wpList_step fun K hK => ?_
  rw [if_pos hgd]
  unfold Oper.wp execOp
  simp only [ho, resolve, invoke, builtin, Sem.run_bind, Sem.run_pure, Result.andThen_ok, List.map_toArray, List.map_cons, List.map_nil, hs, hx, hr]
  exact hK _ _ (h A' c' w1 hown1 (hb.grown hg (Nat.le_trans hB hbase) (fun k hk => Nat.le_trans hB (HO.base_le k hk).1)) hg hat)
/-- append(v, ys...) as one step of a region that draws its order. -/
theorem step_app_u8 {K : Act → World → Prop} {E : Prop} (hgd : Region.wanted o (yielded ops a.tmps) = true) (s x : Operand) (ho : o.op = .call { callee := .builtin .append, args := #[s, x], argTypes := #[23, 23] })
    (base : Nat) (v : Value) (xs : List UInt8) (A : Option Addr) (m c : Nat) (ys : List UInt8) (hs : a.eval s = v) (hx : a.eval x = .slice A m c)
    (HO : Own w base v xs) (HR : Rd w A m (bvs ys)) (hbase : base ≤ w.heap.size) (N : Nat) (hN : xs.length + m = N) (hl : N ≤ 140737488355328)
    (h : ∀ A' c' w', Own w' base (.slice A' N c') (xs ++ ys) → w.grownBy w' v.ownBlock → ((Value.slice A' N c').ownBlock = v.ownBlock ∨ (Value.slice A' N c').ownBlock = some w.heap.size) → K (a.put o.dst (.slice A' N c')) w') :
    if Region.wanted o (yielded ops a.tmps) = true then Oper.wp Tryz.prog o a w K Q else E := by
  obtain ⟨A', c', w1, hr, hown1, hg, hat⟩ := run_app_u8 w base v xs A m c ys HO HR hbase N hN hl o.type
  rw [if_pos hgd]
  unfold Oper.wp execOp
  simp only [ho, resolve, invoke, builtin, Sem.run_bind, Sem.run_pure, Result.andThen_ok, List.map_toArray, List.map_cons, List.map_nil, hs, hx, hr]
  exact h A' c' w1 hown1 hg hat
end
section
variable {ops : Array Oper} {rest : List Oper} {o : Oper} {a : Act} {Q : Exit → Act → World → Prop} {w : World}
theorem appz_u8 (hgd : Region.wanted o (yielded ops a.tmps) = true) (s x : Operand) (ho : o.op = .call { callee := .builtin .append, args := #[s, x], argTypes := #[23, 3] })
    (base : Nat) (v : Value) (xs : List UInt8) (k : Nat) (hs : a.eval s = v) (hx : a.eval x = .int .i64 (k : Int))
    (HO : Own w base v xs) (hbase : base ≤ w.heap.size) (N : Nat) (hN : xs.length + k = N) (hl : N ≤ 140737488355328) (B : Nat) (w0 : World) (hb : Below B w0 w) (hB : B ≤ base)
    (h : ∀ A' c' w', Own w' base (.slice A' N c') (xs ++ List.replicate k 0) → Below B w0 w' → w.grownBy w' v.ownBlock → ((Value.slice A' N c').ownBlock = v.ownBlock ∨ (Value.slice A' N c').ownBlock = some w.heap.size) → wpList Tryz.prog ops Q rest (a.put o.dst (.slice A' N c')) w') :
    wpList Tryz.prog ops Q (o :: rest) a w := by
  obtain ⟨A', c', w1, hr, hown1, hg, hat⟩ := run_appz_u8 w base v xs k HO hbase N hN hl o.type
  refine wpList_step fun K hK => ?_
  rw [if_pos hgd]
  unfold Oper.wp execOp
  simp only [ho, resolve, invoke, builtin, Sem.run_bind, Sem.run_pure, Result.andThen_ok, List.map_toArray, List.map_cons, List.map_nil, hs, hx, hr]
  exact hK _ _ (h A' c' w1 hown1 (hb.grown hg (Nat.le_trans hB hbase) (fun k hk => Nat.le_trans hB (HO.base_le k hk).1)) hg hat)
theorem step_appz_u8 {K : Act → World → Prop} {E : Prop} (hgd : Region.wanted o (yielded ops a.tmps) = true) (s x : Operand) (ho : o.op = .call { callee := .builtin .append, args := #[s, x], argTypes := #[23, 3] })
    (base : Nat) (v : Value) (xs : List UInt8) (k : Nat) (hs : a.eval s = v) (hx : a.eval x = .int .i64 (k : Int))
    (HO : Own w base v xs) (hbase : base ≤ w.heap.size) (N : Nat) (hN : xs.length + k = N) (hl : N ≤ 140737488355328)
    (h : ∀ A' c' w', Own w' base (.slice A' N c') (xs ++ List.replicate k 0) → w.grownBy w' v.ownBlock → ((Value.slice A' N c').ownBlock = v.ownBlock ∨ (Value.slice A' N c').ownBlock = some w.heap.size) → K (a.put o.dst (.slice A' N c')) w') :
    if Region.wanted o (yielded ops a.tmps) = true then Oper.wp Tryz.prog o a w K Q else E := by
  obtain ⟨A', c', w1, hr, hown1, hg, hat⟩ := run_appz_u8 w base v xs k HO hbase N hN hl o.type
  rw [if_pos hgd]
  unfold Oper.wp execOp
  simp only [ho, resolve, invoke, builtin, Sem.run_bind, Sem.run_pure, Result.andThen_ok, List.map_toArray, List.map_cons, List.map_nil, hs, hx, hr]
  exact h A' c' w1 hown1 hg hat
end
section
variable {ops : Array Oper} {rest : List Oper} {o : Oper} {a : Act} {Q : Exit → Act → World → Prop} {W : World}
set_option maxRecDepth 100000 in
/-- append(v, y): one byte; the goal's world holds the variadic's box. -/
theorem app1_u8 (hgd : Region.wanted o (yielded ops a.tmps) = true) (s x : Operand) (ho : o.op = .call { callee := .builtin .append, args := #[s, x], argTypes := #[23, 23] })
    (base : Nat) (v : Value) (xs : List UInt8) (y : Int) (hs : a.eval s = v) (hx : a.eval x = .slice (some ⟨W.heap.size, 0, none⟩) 1 1) (hy0 : 0 ≤ y) (hy1 : y < 256)
    (HO : Own W base v xs) (hbase : base ≤ W.heap.size) (N : Nat) (hN : xs.length + 1 = N) (hl : N ≤ 140737488355328) (B : Nat) (w0 : World) (hb : Below B w0 W) (hB : B ≤ base)
    (h : ∀ A' c' w', Own w' base (.slice A' N c') (xs ++ [UInt8.ofNat y.toNat]) → Below B w0 w' → W.grownBy w' v.ownBlock → ((Value.slice A' N c').ownBlock = v.ownBlock ∨ (Value.slice A' N c').ownBlock = some (W.heap.size + 1)) → wpList Tryz.prog ops Q rest (a.put o.dst (.slice A' N c')) w') :
    wpList Tryz.prog ops Q (o :: rest) a (W.alloc (.cells #[.int .u8 y] 5)) := by
  have e : #[Value.int .u8 y] = (bvs [UInt8.ofNat y.toNat]).toArray := by
    have ey : ((UInt8.ofNat y.toNat).toNat : Int) = y := by rw [UInt8.toNat_ofNat']; omega
    show _ = #[Value.int .u8 ((UInt8.ofNat y.toNat).toNat : Int)]
    rw [ey]
  rw [e]
  refine app_u8 hgd s x ho base v xs (some ⟨W.heap.size, 0, none⟩) 1 1 [UInt8.ofNat y.toNat] hs hx (HO.below (below_alloc (Below.refl _ W) _)) ?_ (by simp; omega) N hN hl B w0 (hb.alloc (by omega) _) hB ?_
  · exact (Blk.new W (bvs [UInt8.ofNat y.toNat]) 5).rd _ rfl (by omega) (fun j u hu => by rw [Nat.zero_add]; exact hu)
  · intro A' c' w' h1 h2 h3 h4
    exact h A' c' w' h1 h2 (World.grownBy.trans (World.grownBy_alloc W _ _) h3) (by simpa using h4)
end

theorem makecap_u8 (n c : Nat) (hn : n ≤ c) (hc : c ≤ 281474976710656) (x y : Int) (hx : x = (n : Int)) (hy : y = (c : Int)) : ∀ W : World, (Instr.makeSlice 23 (.int .i64 x) (.int .i64 y)).run Tryz.prog W = .ok (.slice (some ⟨W.heap.size, 0, none⟩) n c) (W.alloc (.cells (bvs (List.replicate c 0)).toArray 5)) := by
  intro W
  subst hx hy
  obtain ⟨i0, hi, hzz⟩ := Option.map_eq_some_iff.1 info5
  simp only [Prod.mk.injEq] at hzz
  obtain ⟨hz0, hz1, hz2⟩ := hzz
  have h := run_make (P := Tryz.prog) W 23 5 i0 (.int .u8 0) Tryz.underlying23 hi hz0 .i64 .i64 n c (by omega) (by omega) (by rw [hz2]; omega) (by omega)
  simp only [Int.toNat_natCast, hz1, Nat.mul_one] at h
  have e : madeCells (Value.int .u8 0).cells c = (bvs (List.replicate c 0)).toArray := by
    apply Array.ext'
    apply List.ext_getElem
    · simp [bvs, madeCells, Value.cells]
    · intro i h1 h2
      simp [bvs, madeCells, Nat.mod_one, bv, Value.cells]
  rw [e] at h
  exact h
theorem Own.made {W : World} {g c : Nat} {xs : List UInt8} {k : Nat} (h : Blk W g (bvs (xs ++ List.replicate k 0)) 5) (base : Nat) (hb : base ≤ g) (hc : xs.length + k = c) (hm : c ≤ 9223372036854775807) : Own W base (.slice (some ⟨g, 0, none⟩) xs.length c) xs := by
  have e : bvs (xs ++ List.replicate k 0) = bvs xs ++ bvs (List.replicate k 0) := by simp [bvs]
  rw [e] at h
  exact Own.of_blk h hb (by simp [bvs_length]; omega) (by omega) hm

/-- A number's bytes, the lowest first. -/
def leBytes (size x : Nat) : List UInt8 := (List.range size).map fun i => UInt8.ofNat (x / 256 ^ i)
theorem leBytes_length (size x : Nat) : (leBytes size x).length = size := by simp [leBytes]
/-- The number that bytes are. -/
def leNum : List UInt8 → Nat
  | [] => 0
  | b :: r => b.toNat + 256 * leNum r
theorem leBytes_zero (x : Nat) : leBytes 0 x = [] := rfl
theorem leBytes_succ (size x : Nat) : leBytes (size + 1) x = UInt8.ofNat x :: leBytes size (x / 256) := by
  unfold leBytes
  rw [List.range_succ_eq_map, List.map_cons, List.map_map]
  congr 1
  · simp
  · apply List.map_congr_left
    intro i _
    simp only [Function.comp_apply]
    rw [Nat.pow_succ', Nat.div_div_eq_div_mul]
theorem u8_of {a b : Nat} (h : a % 256 = b % 256) : UInt8.ofNat a = UInt8.ofNat b := by
  apply UInt8.toNat_inj.1
  rw [UInt8.toNat_ofNat', UInt8.toNat_ofNat']
  exact h
theorem Own.eq_ {w : World} {base : Nat} {v : Value} {xs ys : List UInt8} (h : Own w base v xs) (e : xs = ys) : Own w base v ys := e ▸ h
theorem Rd.split {w : World} {A : Option Addr} {n : Nat} {bs : List UInt8} (h : Rd w A n (bvs bs)) (i : Nat) (b : UInt8) (hb : bs[i]? = some b) : ∃ ad, A = some ad ∧ w.cell? (ad.add i) = some (.int .u8 (b.toNat : Int)) := h.at_ i _ (bvs_get' bs i b hb)
/-- 'a | b << k', a below 2^k. -/
theorem or_add64 (k : Nat) (a b : Int) (ha0 : 0 ≤ a) (ha : a < 2 ^ k) (hb0 : 0 ≤ b) (hm : b * 2 ^ k < 18446744073709551616) (hk : a < 18446744073709551616) : bits .or .u64 a (b * 2 ^ k) = a + b * 2 ^ k := by
  obtain ⟨x, rfl⟩ := Int.eq_ofNat_of_zero_le ha0
  obtain ⟨y, rfl⟩ := Int.eq_ofNat_of_zero_le hb0
  have e : ((y : Int) * 2 ^ k) = ((y * 2 ^ k : Nat) : Int) := by simp
  rw [e] at hm ⊢
  rw [u64_or_nat x (y * 2 ^ k) (by omega) (by omega)]
  have hx : x < 2 ^ k := by
    have h2 : ((2 : Int) ^ k) = ((2 ^ k : Nat) : Int) := by simp
    rw [h2] at ha
    omega
  have h := nat_join k (y * 2 ^ k) x (Nat.mul_mod_left _ _) hx
  rw [Nat.or_comm, h]
  omega
theorem or_zero64 (a : Int) (h0 : 0 ≤ a) (h1 : a < 18446744073709551616) : bits .or .u64 0 a = a := by
  have h := or_add64 0 0 a (by omega) (by decide) h0 (by simpa using h1) (by decide)
  simpa using h
theorem or_addm (k : Nat) (m a b : Int) (hmk : m = 2 ^ k) (ha0 : 0 ≤ a) (ha : a < m) (hb0 : 0 ≤ b) (hm : b * m < 18446744073709551616) (hk : a < 18446744073709551616) : bits .or .u64 a (b * m) = a + b * m := by
  subst hmk
  exact or_add64 k a b ha0 ha hb0 hm hk
theorem ret_pair {k : IntKind} {a b : Int} {v : Value} (h : a = b) : Ending.returned (.tuple #[.int k a, v]) = .returned (.tuple #[.int k b, v]) := by rw [h]
end Go.Proofs.YthdjddpomaendaaGreat.B
