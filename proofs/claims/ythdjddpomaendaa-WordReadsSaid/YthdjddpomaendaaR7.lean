/- From a row's reading of a slice of steps to OpsAt. -/
import Derived.Test.YthdjddpomaendaaO5
import Derived.Test.YthdjddpomaendaaR0
import Derived.Deep.Fields
namespace Go.Proofs.Ythdjddpomaendaa.B
open Go.RowKit Go.ChangeShapes Go.WideShapes Go.Deep
set_option linter.unusedVariables false
set_option linter.unusedSimpArgs false

section
variable {H : Type} {enc : TypeId × Value → H} {W : World}
set_option maxRecDepth 100000 in
theorem op_of {n : Nat} {a : Addr} {cs : List Value} {x : DataW H × List MemPlace} (hc : W.cells? 0 a 6 = some cs) (ht : DataW.trod enc Try.prog W 0 (fun _ => true) true n 54 cs = some x) :
    ∃ o : OpV, (∀ (j : Nat) (v : Value), o.cells[j]? = some v → W.cell? (a.add j) = some v) ∧ o.Ok W ∧ (-9223372036854775808 ≤ o.at_ ∧ o.at_ ≤ 9223372036854775807) ∧ o.num ≤ 9223372036854775807 := by
  obtain ⟨_, hcl, hat⟩ := World.cells?_some hc
  obtain ⟨ys, n', _, _, _, hyl, hf⟩ := DataW.trod_struct Try.underlying54 ht
  match cs, hcl with
  | [c0, c1, c2, c3, c4, c5], _ =>
    match ys, hyl with
    | [y0, y1, y2, y3, y4, y5], _ =>
      have i1 : Try.prog.cellsOf 3 = 1 := by kernel_rfl
      have i2 : Try.prog.cellsOf 30 = 1 := by kernel_rfl
      have i3 : Try.prog.cellsOf 22 = 1 := by kernel_rfl
      have i4 : Try.prog.cellsOf 9 = 1 := by kernel_rfl
      have h0 : DataW.trod enc Try.prog W 0 (fun _ => true) true n' 3 [c0] = some y0 := by simpa [i1] using hf 0 _ rfl
      have h1 : DataW.trod enc Try.prog W 0 (fun _ => true) true n' 3 [c1] = some y1 := by simpa [i1] using hf 1 _ rfl
      have h2 : DataW.trod enc Try.prog W 0 (fun _ => true) true n' 30 [c2] = some y2 := by simpa [i2] using hf 2 _ rfl
      have h3 : DataW.trod enc Try.prog W 0 (fun _ => true) true n' 3 [c3] = some y3 := by simpa [i1] using hf 3 _ rfl
      have h4 : DataW.trod enc Try.prog W 0 (fun _ => true) true n' 22 [c4] = some y4 := by simpa [i3] using hf 4 _ rfl
      have h5 : DataW.trod enc Try.prog W 0 (fun _ => true) true n' 9 [c5] = some y5 := by simpa [i4] using hf 5 _ rfl
      obtain ⟨kd, e0, _, _⟩ := DataW.trod_int Try.underlying3 h0
      obtain ⟨at_, e1, _, w1⟩ := DataW.trod_int Try.underlying3 h1
      obtain ⟨nn, e2, _, w2⟩ := DataW.trod_int Try.underlying30 h2
      obtain ⟨num, e3, _, w3⟩ := DataW.trod_int Try.underlying3 h3
      obtain ⟨s, e5, _, hz5⟩ := DataW.trod_string Try.underlying9 h5
      obtain ⟨u, rfl⟩ := u64_of w2
      simp only [List.cons.injEq, and_true] at e0 e1 e2 e3 e5
      subst e0 e1 e2 e3 e5
      have hin : ∃ (A : Option Addr) (len cap : Nat) (p : List UInt8), c4 = .slice A len cap ∧ len ≤ cap ∧ cap ≤ maxLen ∧ Rd W A len (bvs p) := by
        rcases open_ints Try.underlying22 Try.underlying5 (by kernel_rfl) h4 with ⟨hcs, _⟩ | ⟨b, l, c, zs, hcs, _, hl, hm, hz, _, hcell, hwz⟩
        · simp only [List.cons.injEq, and_true] at hcs
          exact ⟨none, 0, 0, [], hcs, Nat.le_refl _, by decide, Rd.nil _ _⟩
        · simp only [List.cons.injEq, and_true] at hcs
          have hr : IsRow .u8 W (some b) l c zs := .inr ⟨_, rfl, hl, hm, by simpa using hz, hcell, hwz⟩
          obtain ⟨p, hp⟩ := hr.bytes
          exact ⟨some b, l, c, p, hcs, hl, hm, hp⟩
      obtain ⟨A, len, cap, p, rfl, hl, hm, hp⟩ := hin
      have hpl := hp.len
      refine ⟨⟨kd, at_, u.toNat, num, A, cap, p, s⟩, fun j v hj => ?_, ⟨u.toNat_lt, by rw [hpl]; exact hp, by rw [hpl]; exact hl, by simp only [maxLen] at hm; exact hm, by simp only [maxLen] at hz5; exact hz5⟩, i64_of w1, (i64_of w3).2⟩
      have h6 : j < 6 := (Array.getElem?_eq_some_iff.1 hj).1
      rw [hat j h6, ← hj]
      show _ = (#[Value.int .i64 kd, .int .i64 at_, .int .u64 (u.toNat : Int), .int .i64 num, .slice A p.length cap, .string s] : Array Value)[j]?
      rw [hpl, ← Array.getElem?_toList]
theorem ops_of' {a : Option Addr} {len cap : Nat} {d : DataW H} {ps : List MemPlace} (h : DataW.Trod enc Try.prog W 0 (fun _ => true) true 42 (.slice a len cap) d ps) :
    ∃ L : List OpV, OpsAt W a L ∧ L.length = len ∧ len ≤ cap ∧ cap ≤ maxLen ∧ ∀ o ∈ L, (-9223372036854775808 ≤ o.at_ ∧ o.at_ ≤ 9223372036854775807) ∧ o.num ≤ 9223372036854775807 := by
  obtain ⟨fuel, hf⟩ := h
  rcases open_slice Try.underlying42 hf with ⟨hcs, _⟩ | ⟨ad, l, c, m, n, D, Pl, hcs, _, hl, hm, hmm, hx, hi⟩
  · simp [Value.cells] at hcs
    obtain ⟨rfl, rfl, rfl⟩ := hcs
    exact ⟨[], fun i o h => by simp at h, rfl, Nat.le_refl _, by decide, fun o h => by simp at h⟩
  · simp [Value.cells] at hcs
    obtain ⟨rfl, rfl, rfl⟩ := hcs
    rw [if_pos rfl] at hmm
    have hC : Try.prog.cellsOf 54 = 6 := by kernel_rfl
    have hop : ∀ i, ∃ o : OpV, i < len → (∀ (j : Nat) (v : Value), o.cells[j]? = some v → W.cell? (ad.add (i * 6 + j)) = some v) ∧ o.Ok W ∧ (-9223372036854775808 ≤ o.at_ ∧ o.at_ ≤ 9223372036854775807) ∧ o.num ≤ 9223372036854775807 := by
      intro i
      by_cases hil : i < len
      · obtain ⟨cs', hc, ht⟩ := hi i (by omega)
        rw [hC] at hc
        obtain ⟨o, ho, hk⟩ := op_of hc ht
        exact ⟨o, fun _ => ⟨fun j v hj => by rw [← add_add]; exact ho j v hj, hk⟩⟩
      · exact ⟨⟨0, 0, 0, 0, none, 0, [], ByteArray.empty⟩, fun h => absurd h hil⟩
    obtain ⟨f, hF⟩ := Classical.axiomOfChoice hop
    refine ⟨(List.range len).map f, fun i o hio => ?_, by simp, hl, hm, fun o ho => ?_⟩
    rotate_left
    · simp only [List.mem_map, List.mem_range] at ho
      obtain ⟨i, hil, rfl⟩ := ho
      exact (hF i hil).2.2
    have hil : i < len := by
      have := (List.getElem?_eq_some_iff.1 hio).1
      simpa using this
    obtain rfl : f i = o := by simpa [hil] using hio
    obtain ⟨h1, h2, _⟩ := hF i hil
    refine ⟨ad, rfl, h1, h2, fun j hj => ?_⟩
    have hs : (f i).cells.size = 6 := rfl
    exact World.block_lt_of_cell? W _ (h1 j _ (Array.getElem?_eq_getElem (by rw [hs]; exact hj)))
theorem ops_of {a : Option Addr} {len cap : Nat} {d : DataW H} {ps : List MemPlace} (h : DataW.Trod enc Try.prog W 0 (fun _ => true) true 42 (.slice a len cap) d ps) :
    ∃ L : List OpV, OpsAt W a L ∧ L.length = len ∧ len ≤ cap ∧ cap ≤ maxLen := by
  obtain ⟨L, h1, h2, h3, h4, _⟩ := ops_of' h
  exact ⟨L, h1, h2, h3, h4⟩
end
end Go.Proofs.Ythdjddpomaendaa.B
