/- Rows of bytes that are the call's own: append. -/
import Derived.Test.YthdjddpomaendaaB2
namespace Go.Proofs.Ythdjddpomaendaa.B
open Go.RowKit
set_option linter.unusedVariables false
set_option linter.unusedSimpArgs false

/-- A slice of bytes that is the call's own from block base on: nil, or the head of a block. -/
def Own (w : World) (base : Nat) (v : Value) (xs : List UInt8) : Prop := w.ownsRow base 5 1 v xs.length (bvs xs)
section
variable {w w' : World} {base : Nat} {v : Value} {xs : List UInt8}
theorem Own.nil (w : World) (base : Nat) : Own w base (.slice none 0 0) [] := World.ownsRow_nil w base 5 1
theorem Own.cases (h : Own w base v xs) : ∃ A c, v = .slice A xs.length c ∧ xs.length ≤ c ∧ xs.length ≤ 9223372036854775807 ∧
    ((xs = [] ∧ A = none ∧ c = 0) ∨ ∃ g rest, A = some ⟨g, 0, none⟩ ∧ base ≤ g ∧ Blk w g (bvs xs ++ rest) 5 ∧ rest.length = c - xs.length) := by
  rcases h.2 with ⟨rfl, hn⟩ | ⟨g, cap, cur, rfl, hb, hg, hnc, hcm, hcs, ht⟩
  · obtain rfl : xs = [] := List.eq_nil_of_length_eq_zero hn
    exact ⟨none, 0, rfl, by simp, by simp, .inl ⟨rfl, rfl, rfl⟩⟩
  · refine ⟨_, cap, rfl, hnc, by simp only [maxLen] at hcm; omega, .inr ⟨g, cur.toList.drop xs.length, rfl, hb, ?_, ?_⟩⟩
    · rw [Nat.mul_one] at ht
      unfold Blk
      rw [← ht, List.take_append_drop]
      simpa using hg
    · rw [List.length_drop, Array.length_toList, hcs, Nat.mul_one]
theorem Own.rd (h : Own w base v xs) : ∃ A c, v = .slice A xs.length c ∧ xs.length ≤ c ∧ Rd w A xs.length (bvs xs) := by
  obtain ⟨A, c, rfl, hc, hm, h | ⟨g, rest, rfl, hb, hk, _⟩⟩ := h.cases
  · obtain ⟨rfl, rfl, rfl⟩ := h
    exact ⟨none, 0, rfl, hc, Rd.nil _ _⟩
  · exact ⟨_, c, rfl, hc, hk.rd _ (bvs_length _) hm (fun j u hu => by rw [Nat.zero_add, List.getElem?_append_left (List.getElem?_eq_some_iff.1 hu).1]; exact hu)⟩
theorem Own.rd_ {A : Option Addr} {n c : Nat} (h : Own w base (.slice A n c) xs) : Rd w A n (bvs xs) := by
  obtain ⟨A', c', e, _, hr⟩ := h.rd
  injection e with e1 e2 e3
  subst e1 e2
  exact hr
theorem Own.of_blk {g c : Nat} {rest : List Value} (hk : Blk w g (bvs xs ++ rest) 5) (hb : base ≤ g) (hc : rest.length = c - xs.length) (hle : xs.length ≤ c) (hm : c ≤ 9223372036854775807) : Own w base (.slice (some ⟨g, 0, none⟩) xs.length c) xs := by
  refine ⟨by simp [bvs_length], .inr ⟨g, c, _, rfl, hb, hk, hle, by simpa [maxLen] using hm, by simp [bvs_length, hc]; omega, ?_⟩⟩
  simp [← bvs_length xs]
theorem Own.base_le (h : Own w base v xs) (k : Nat) (hk : v.ownBlock = some k) : base ≤ k ∧ k < w.heap.size := World.ownsRow.lt h k hk
theorem Own.grown {row : Option Nat} (h : Own w base v xs) (hg : w.grownBy w' row) (hne : v.ownBlock = none ∨ v.ownBlock ≠ row) : Own w' base v xs := World.ownsRow.kept h hg hne
theorem Own.below (h : Own w base v xs) (hb : Below w.heap.size w w') : Own w' base v xs :=
  h.grown (row := none) ⟨hb.os, hb.tape, hb.output, hb.size, fun i hi _ => hb.block i hi⟩ (by cases v.ownBlock <;> simp)
theorem Own.mono {base' : Nat} (h : Own w base v xs) (hb : base' ≤ base) : Own w base' v xs := by
  refine ⟨h.1, ?_⟩
  rcases h.2 with h | ⟨g, cap, cur, e, hg, r⟩
  · exact .inl h
  · exact .inr ⟨g, cap, cur, e, Nat.le_trans hb hg, r⟩
end

section
variable {ops : Array Oper} {rest : List Oper} {o : Oper} {a : Act} {Q : Exit → Act → World → Prop} {w : World}
set_option maxRecDepth 100000 in
/-- append(v, ys...): v the call's own, ys a slice that is read. -/
theorem app_u8 (hgd : Region.wanted o (yielded ops a.tmps) = true) (s x : Operand) (ho : o.op = .call { callee := .builtin .append, args := #[s, x], argTypes := #[22, 22] })
    (base : Nat) (v : Value) (xs : List UInt8) (A : Option Addr) (m c : Nat) (ys : List UInt8) (hs : a.eval s = v) (hx : a.eval x = .slice A m c)
    (HO : Own w base v xs) (HR : Rd w A m (bvs ys)) (hbase : base ≤ w.heap.size) (N : Nat) (hN : xs.length + m = N) (hl : N ≤ 140737488355328) (B : Nat) (w0 : World) (hb : Below B w0 w) (hB : B ≤ base)
    (h : ∀ A' c' w', Own w' base (.slice A' N c') (xs ++ ys) → Below B w0 w' → w.grownBy w' v.ownBlock → ((Value.slice A' N c').ownBlock = v.ownBlock ∨ ∃ b, (Value.slice A' N c').ownBlock = some b ∧ w.heap.size ≤ b) → wpList Try.prog ops Q rest (a.put o.dst (.slice A' N c')) w') :
    wpList Try.prog ops Q (o :: rest) a w := by
  have ht := Try.underlying22
  obtain ⟨i0, hi, hzz⟩ := Option.map_eq_some_iff.1 info5
  simp only [Prod.mk.injEq] at hzz
  obtain ⟨hz0, hz1, hz2⟩ := hzz
  have hm : ys.length = m := HR.len
  have hown : v.ownBlock = none ∨ ∃ k, v.ownBlock = some k ∧ base ≤ k := by
    cases hv : v.ownBlock with
    | none => exact .inl rfl
    | some k => exact .inr ⟨k, rfl, (HO.base_le k hv).1⟩
  have hrun : ∃ v1 w1, (Builtin.append_ #[22, 22] o.type #[v, .slice A m c]).run Try.prog w = .ok v1 w1 ∧ Own w1 base v1 (xs ++ ys) ∧ w.grownBy w1 v.ownBlock ∧ (v1.ownBlock = v.ownBlock ∨ v1.ownBlock = some w.heap.size) := by
    rcases A with _ | ad
    · have h0 : m = 0 := by
        rcases Nat.eq_zero_or_pos m with h0 | h0
        · exact h0
        · obtain ⟨ad, h, _⟩ := HR.2.2 h0
          cases h
      subst h0
      obtain rfl : ys = [] := List.eq_nil_of_length_eq_zero hm
      refine ⟨v, w, ?_, by simpa using HO, World.grownBy.refl w _, .inl rfl⟩
      rcases HO.2 with ⟨rfl, hn⟩ | ⟨g, cap, cur, rfl, _, _, hnc, _⟩
      · simp [Builtin.append_, run_underlying ht, sizeOf, typeInfo, hi, Builtin.lenOf, Builtin.firstCells]
      · simp [Builtin.append_, run_underlying ht, sizeOf, typeInfo, hi, Builtin.lenOf, Builtin.firstCells, hnc, storeCells]
    · have hcells : ∀ j u, (bvs ys)[j]? = some u → w.cell? (ad.add j) = some u := by
        intro j u hu
        obtain ⟨ad', h', hc⟩ := HR.at_ j u hu
        injection h' with h'
        subst h'
        exact hc
      obtain ⟨v1, w1, hr, h2, h3, _, h5⟩ := run_append_own_at (P := Try.prog) w base 22 o.type 5 i0 (.int .u8 0) 1 1 ht hi hz0 hz1 hz2 rfl (by omega) v xs.length (bvs xs) HO ad m c (bvs ys) (by simp [bvs_length, hm]) hcells
        (oneCell_bvs ys) (by simp only [maxLen]; omega) (by omega) hbase
      refine ⟨v1, w1, hr, ?_, h3, h5⟩
      have e : bvs xs ++ bvs ys = bvs (xs ++ ys) := by simp [bvs]
      rw [e] at h2
      unfold Own
      rwa [List.length_append, hm]
  obtain ⟨v1, w1, hr, hown1, hg, hat⟩ := hrun
  refine wpList_step fun K hK => ?_
  rw [if_pos hgd]
  unfold Oper.wp execOp
  simp only [ho, resolve, invoke, builtin, Sem.run_bind, Sem.run_pure, Result.andThen_ok, List.map_toArray, List.map_cons, List.map_nil, hs, hx, hr]
  obtain ⟨A', c', e, _, _⟩ := hown1.rd
  rw [List.length_append, hm, hN] at e
  subst e
  refine hK _ _ (h A' c' w1 hown1 (hb.grown hg (Nat.le_trans hB hbase) (fun k hk => ?_)) hg ?_)
  · exact Nat.le_trans hB (HO.base_le k hk).1
  · rcases hat with hat | hat
    · exact .inl hat
    · exact .inr ⟨_, hat, Nat.le_refl _⟩
end
theorem moreC_append (s : UInt32) (xs ys : List UInt8) : moreC (moreC s xs) ys = moreC s (xs ++ ys) := by
  unfold moreC runC
  rw [List.foldl_append, UInt32.xor_assoc, UInt32.xor_self, UInt32.xor_zero]
end Go.Proofs.Ythdjddpomaendaa.B
