/- Rows of the call's own, of elements of any number of cells, that may begin inside their block. -/
import Derived.Test.YthdjddpomaendaaGreatW1
import Derived.Test.YthdjddpomaendaaGreatWWords
namespace Go.Proofs.YthdjddpomaendaaGreat.B
open Go.RowKit
open Go.Proofs.YthdjddpomaendaaGreatW.PrintWords (QRow q_of_own q_move q_typed q_lt q_lower q_slice q_max q_cells q_take q_drop q_append)
set_option linter.unusedVariables false
set_option linter.unusedSimpArgs false

theorem flat_get {α : Type} (k : Nat) : ∀ (cs : List (List α)), (∀ c ∈ cs, c.length = k) → ∀ (i : Nat) (c : List α), cs[i]? = some c → ∀ (j : Nat), j < k → cs.flatten[i * k + j]? = c[j]?
  | [], _, i, c, hi, _, _ => by simp at hi
  | d :: r, h, 0, c, hi, j, hj => by
    obtain rfl : d = c := by simpa using hi
    rw [List.flatten_cons, Nat.zero_mul, Nat.zero_add, List.getElem?_append_left (by rw [h d (by simp)]; exact hj)]
  | d :: r, h, i + 1, c, hi, j, hj => by
    have hd := h d (by simp)
    rw [List.flatten_cons, List.getElem?_append_right (by rw [hd, Nat.succ_mul]; omega), hd]
    rw [show (i + 1) * k + j - k = i * k + j by rw [Nat.succ_mul]; omega]
    exact flat_get k r (fun c hc => h c (by simp [hc])) i c (by simpa using hi) j hj
theorem flat_length {α : Type} (k : Nat) : ∀ (cs : List (List α)), (∀ c ∈ cs, c.length = k) → cs.flatten.length = cs.length * k
  | [], _ => by simp
  | d :: r, h => by
    rw [List.flatten_cons, List.length_append, h d (by simp), flat_length k r (fun c hc => h c (by simp [hc])), List.length_cons, Nat.succ_mul]
    omega

/-- A slice value whose elements, of type t and k cells each, are the call's own. -/
def Row (w : World) (base : Nat) (t : TypeId) (k : Nat) (v : Value) (cs : List (List Value)) : Prop := (∀ c ∈ cs, c.length = k) ∧ QRow w base t k v cs.length cs.flatten
section
variable {w w1 : World} {base k : Nat} {t : TypeId} {v : Value} {cs : List (List Value)} {S : Nat → Prop}
theorem Row.nil (w : World) (base : Nat) (t : TypeId) (k : Nat) : Row w base t k (.slice none 0 0) [] := ⟨by simp, q_of_own (World.ownsRow_nil w base t k)⟩
theorem Row.shape (h : Row w base t k v cs) : ∃ A c, v = .slice A cs.length c ∧ cs.length ≤ c := q_slice h.2
theorem Row.max (h : Row w base t k v cs) : cs.length ≤ 9223372036854775807 := q_max h.2
theorem Row.cell {A : Option Addr} {n c : Nat} (h : Row w base t k (.slice A n c) cs) (i : Nat) (e : List Value) (hi : cs[i]? = some e) : ∃ ad, A = some ad ∧ ad.block < w.heap.size ∧ ∀ j u, e[j]? = some u → w.cell? (ad.add (i * k + j)) = some u := by
  obtain ⟨h1, h2⟩ := h
  have hil := (List.getElem?_eq_some_iff.1 hi).1
  obtain ⟨A', c', e', _⟩ := q_slice h2
  injection e' with e1 e2 e3
  subst e2
  obtain ⟨ad, rfl, hc⟩ := q_cells h2 (by omega)
  refine ⟨ad, rfl, q_lt h2 ad.block (by simp [Value.ownBlock]), fun j u hu => ?_⟩
  have hj : j < k := by rw [← h1 e (List.mem_of_getElem? hi)]; exact (List.getElem?_eq_some_iff.1 hu).1
  exact hc _ u (by rw [flat_get k cs h1 i e hi j hj]; exact hu)
theorem Row.typed (h : Row w base t k v cs) : ∀ b, v.ownBlock = some b → base ≤ b ∧ b < w.heap.size ∧ ∃ cells, w.heap[b]? = some (.cells cells t (0, 0)) := fun b hb => ⟨(q_typed h.2 b hb).1, q_lt h.2 b hb, (q_typed h.2 b hb).2⟩
theorem Row.move (h : Row w base t k v cs) (hm : ∀ b, v.ownBlock = some b → w1.heap[b]? = w.heap[b]?) : Row w1 base t k v cs := ⟨h.1, q_move h.2 hm⟩
theorem Row.fr (h : Row w base t k v cs) (hf : Fr S w w1) (hn : ∀ b, v.ownBlock = some b → ¬ S b) : Row w1 base t k v cs := h.move fun b hb => hf.block b (q_lt h.2 b hb) (hn b hb)
theorem Row.below (h : Row w base t k v cs) (hb : Below w.heap.size w w1) : Row w1 base t k v cs := h.fr (Fr.of_below hb (fun _ => False)) (fun _ _ h => h)
theorem Row.mono {base' : Nat} (h : Row w base t k v cs) (hb : base' ≤ base) : Row w base' t k v cs := ⟨h.1, q_lower h.2 hb⟩
theorem Row.ne_blk {g : Nat} {l : List Value} {t' : TypeId} (h : Row w base t k v cs) (hk : Blk w g l t') (ht : t ≠ t') : v.ownBlock ≠ some g := by
  intro e
  obtain ⟨_, _, cells, hc⟩ := h.typed g e
  unfold Blk at hk
  rw [hc] at hk
  injection hk with hk
  injection hk with _ hk
  exact ht hk
theorem Row.ne_row {base' k' : Nat} {t' : TypeId} {v' : Value} {cs' : List (List Value)} (h : Row w base t k v cs) (h' : Row w base' t' k' v' cs') (ht : t ≠ t') (b : Nat) (hb : v.ownBlock = some b) : v'.ownBlock ≠ some b := by
  intro e
  obtain ⟨_, _, cells, hc⟩ := h.typed b hb
  obtain ⟨_, _, cells', hc'⟩ := h'.typed b e
  rw [hc] at hc'
  injection hc' with hc'
  injection hc' with _ hc'
  exact ht hc'
theorem Row.ne_own {base' : Nat} {v' : Value} {xs : List UInt8} (h : Row w base t k v cs) (h' : Own w base' v' xs) (ht : t ≠ 5) (b : Nat) (hb : v.ownBlock = some b) : v'.ownBlock ≠ some b := by
  intro e
  obtain ⟨_, _, cells, hc⟩ := h.typed b hb
  rcases h'.2 with ⟨rfl, _⟩ | ⟨g', cap, cur, rfl, _, hg, _⟩
  · simp [Value.ownBlock] at e
  · have : g' = b := by simpa [Value.ownBlock] using e
    subst this
    rw [hc] at hg
    injection hg with hg
    injection hg with _ hg
    exact ht hg
/-- A literal. -/
theorem Row.lit (W : World) (base : Nat) (t : TypeId) (k : Nat) (cs : List (List Value)) (hk : ∀ c ∈ cs, c.length = k) (hb : base ≤ W.heap.size) (hm : cs.length ≤ 9223372036854775807) :
    Row (W.alloc (.cells cs.flatten.toArray t)) base t k (.slice (some ⟨W.heap.size, 0, none⟩) cs.length cs.length) cs := by
  refine ⟨hk, q_of_own ⟨flat_length k cs hk, .inr ⟨W.heap.size, cs.length, _, rfl, hb, heap_alloc_new W _, Nat.le_refl _, by simpa [maxLen] using hm, by simp only [List.size_toArray]; exact flat_length k cs hk, ?_⟩⟩⟩
  show cs.flatten.take (cs.length * k) = _
  exact List.take_of_length_le (Nat.le_of_eq (flat_length k cs hk))
end

section
variable {ops : Array Oper} {rest : List Oper} {o : Oper} {a : Act} {Q : Exit → Act → World → Prop} {w : World}
set_option maxRecDepth 100000 in
/-- append(v, x): the variadic's box is the world's last block. -/
theorem run_app_row (w : World) (base : Nat) (t ts : TypeId) (k bytes : Nat) (z : Value) (hts : Tryz.prog.underlying ts = some (.slice t)) (hinfo : (Tryz.prog.info? t).map (fun i => (i.zero, i.size, i.bytes)) = some (some z, k, bytes))
    (hz : z.cells.size = k) (hk : 0 < k) (v : Value) (cs : List (List Value)) (H : Row w base t k v cs) (ad : Addr) (c1 : Nat) (c : List Value) (hc : c.length = k) (hone : ∀ u ∈ c, u.oneCell' = true)
    (hcells : ∀ j u, c[j]? = some u → w.cell? (ad.add j) = some u) (hl : (cs.length + 1) * bytes ≤ 140737488355328) (hl2 : cs.length + 1 ≤ 9223372036854775807) (hbase : base ≤ w.heap.size) (N : Nat) (hN : cs.length + 1 = N) (ty : TypeId) :
    ∃ A' c' w', (Builtin.append_ #[ts, ts] ty #[v, .slice (some ad) 1 c1]).run Tryz.prog w = .ok (.slice A' N c') w' ∧ Row w' base t k (.slice A' N c') (cs ++ [c]) ∧ w.grownBy w' v.ownBlock ∧
      ((Value.slice A' N c').ownBlock = v.ownBlock ∨ ∃ b, (Value.slice A' N c').ownBlock = some b ∧ w.heap.size ≤ b) := by
  subst hN
  obtain ⟨i0, hi, hzz⟩ := Option.map_eq_some_iff.1 hinfo
  simp only [Prod.mk.injEq] at hzz
  obtain ⟨hz0, hz1, hz2⟩ := hzz
  obtain ⟨v', w', hr, hq, hg, hat⟩ := q_append w base ts ty t i0 z k bytes hts hi hz0 hz1 hz2 hz hk v cs.length cs.flatten H.2 ad 1 c1 c (by omega) hcells hone (by omega) (by simpa [maxLen] using hl2) hl hbase
  obtain ⟨A', c', rfl, _⟩ := q_slice hq
  refine ⟨A', c', w', hr, ⟨fun d hd => ?_, ?_⟩, hg, hat⟩
  · rcases List.mem_append.1 hd with hd | hd
    · exact H.1 d hd
    · rw [List.mem_singleton.1 hd]; exact hc
  · rw [List.flatten_append, List.length_append]
    simpa using hq
theorem app_row (hgd : Region.wanted o (yielded ops a.tmps) = true) (s x : Operand) (t ts : TypeId) (ho : o.op = .call { callee := .builtin .append, args := #[s, x], argTypes := #[ts, ts] })
    (base : Nat) (k bytes : Nat) (z : Value) (hts : Tryz.prog.underlying ts = some (.slice t)) (hinfo : (Tryz.prog.info? t).map (fun i => (i.zero, i.size, i.bytes)) = some (some z, k, bytes)) (hz : z.cells.size = k) (hk : 0 < k)
    (v : Value) (cs : List (List Value)) (hs : a.eval s = v) (ad : Addr) (c1 : Nat) (hx : a.eval x = .slice (some ad) 1 c1) (H : Row w base t k v cs) (c : List Value) (hc : c.length = k) (hone : ∀ u ∈ c, u.oneCell' = true)
    (hcells : ∀ j u, c[j]? = some u → w.cell? (ad.add j) = some u) (hl : (cs.length + 1) * bytes ≤ 140737488355328) (hl2 : cs.length + 1 ≤ 9223372036854775807) (hbase : base ≤ w.heap.size) (N : Nat) (hN : cs.length + 1 = N)
    (h : ∀ A' c' w', Row w' base t k (.slice A' N c') (cs ++ [c]) → w.grownBy w' v.ownBlock → ((Value.slice A' N c').ownBlock = v.ownBlock ∨ ∃ b, (Value.slice A' N c').ownBlock = some b ∧ w.heap.size ≤ b) → wpList Tryz.prog ops Q rest (a.put o.dst (.slice A' N c')) w') :
    wpList Tryz.prog ops Q (o :: rest) a w := by
  obtain ⟨A', c', w1, hr, hown1, hg, hat⟩ := run_app_row w base t ts k bytes z hts hinfo hz hk v cs H ad c1 c hc hone hcells hl hl2 hbase N hN o.type
  refine wpList_step fun K hK => ?_
  rw [if_pos hgd]
  unfold Oper.wp execOp
  simp only [ho, resolve, invoke, builtin, Sem.run_bind, Sem.run_pure, Result.andThen_ok, List.map_toArray, List.map_cons, List.map_nil, hs, hx, hr]
  exact hK _ _ (h A' c' w1 hown1 hg hat)
/-- The same as one step of a region that draws its order. -/
theorem step_app_row {K : Act → World → Prop} {E : Prop} (hgd : Region.wanted o (yielded ops a.tmps) = true) (s x : Operand) (t ts : TypeId) (ho : o.op = .call { callee := .builtin .append, args := #[s, x], argTypes := #[ts, ts] })
    (base : Nat) (k bytes : Nat) (z : Value) (hts : Tryz.prog.underlying ts = some (.slice t)) (hinfo : (Tryz.prog.info? t).map (fun i => (i.zero, i.size, i.bytes)) = some (some z, k, bytes)) (hz : z.cells.size = k) (hk : 0 < k)
    (v : Value) (cs : List (List Value)) (hs : a.eval s = v) (ad : Addr) (c1 : Nat) (hx : a.eval x = .slice (some ad) 1 c1) (H : Row w base t k v cs) (c : List Value) (hc : c.length = k) (hone : ∀ u ∈ c, u.oneCell' = true)
    (hcells : ∀ j u, c[j]? = some u → w.cell? (ad.add j) = some u) (hl : (cs.length + 1) * bytes ≤ 140737488355328) (hl2 : cs.length + 1 ≤ 9223372036854775807) (hbase : base ≤ w.heap.size) (N : Nat) (hN : cs.length + 1 = N)
    (h : ∀ A' c' w', Row w' base t k (.slice A' N c') (cs ++ [c]) → w.grownBy w' v.ownBlock → ((Value.slice A' N c').ownBlock = v.ownBlock ∨ ∃ b, (Value.slice A' N c').ownBlock = some b ∧ w.heap.size ≤ b) → K (a.put o.dst (.slice A' N c')) w') :
    if Region.wanted o (yielded ops a.tmps) = true then Oper.wp Tryz.prog o a w K Q else E := by
  obtain ⟨A', c', w1, hr, hown1, hg, hat⟩ := run_app_row w base t ts k bytes z hts hinfo hz hk v cs H ad c1 c hc hone hcells hl hl2 hbase N hN o.type
  rw [if_pos hgd]
  unfold Oper.wp execOp
  simp only [ho, resolve, invoke, builtin, Sem.run_bind, Sem.run_pure, Result.andThen_ok, List.map_toArray, List.map_cons, List.map_nil, hs, hx, hr]
  exact h A' c' w1 hown1 hg hat
/-- 's[1:]' of such a row, elements of one cell, two at least. -/
theorem row_cut1 {w : World} {base : Nat} {t ts : TypeId} {A : Option Addr} {n c : Nat} {cs : List (List Value)} {bytes : Nat} {z : Value} (hts : Tryz.prog.underlying ts = some (.slice t)) (hinfo : (Tryz.prog.info? t).map (fun i => (i.zero, i.size, i.bytes)) = some (some z, 1, bytes))
    (h : Row w base t 1 (.slice A n c) cs) (hn : 2 ≤ n) (hc : n ≤ c) :
    ∃ A' : Option Addr, (∀ W : World, (Instr.slice ts (.slice A n c) (some (.int .i64 1)) none none).run Tryz.prog W = .ok (.slice A' (n - 1) (c - 1)) W) ∧ (Value.slice A' (n - 1) (c - 1)).ownBlock = (Value.slice A n c).ownBlock ∧ Row w base t 1 (.slice A' (n - 1) (c - 1)) cs.tail := by
  obtain ⟨i0, hi, hzz⟩ := Option.map_eq_some_iff.1 hinfo
  simp only [Prod.mk.injEq] at hzz
  obtain ⟨hz0, hz1, hz2⟩ := hzz
  obtain ⟨A', c', e', _⟩ := h.shape
  injection e' with _ e2 _
  refine ⟨A.map (·.add 1), fun W => ?_, ?_, ?_⟩
  · have hel : Tryz.prog.elem ts = t := by simp [Program.elem, hts]
    have hu : Tryz.prog.underlying ts = some (.slice (Tryz.prog.elem ts)) := by rw [hel]; exact hts
    rw [run_slice_l W ts A n c hu .i64 1 (by omega) (by omega), hel]
    simp [sizeOf, typeInfo, hi, hz1, sliced, Result.andThen]
    omega
  · cases A with
    | none => rfl
    | some ad => simp only [Option.map_some, Value.ownBlock]; congr 1
  · subst e2
    have hq := q_drop (k := 1) h.2 (by omega)
    rw [if_neg (by omega), Nat.one_mul] at hq
    match cs, h.1 with
    | [], _ => simp at hn
    | d :: r, h1 =>
      have hd := h1 d (by simp)
      refine ⟨fun e he => h1 e (by simp at he; simp [he]), ?_⟩
      have e1 : (d :: r).flatten.drop 1 = r.flatten := by rw [List.flatten_cons, ← hd, List.drop_left]
      rw [e1] at hq
      simpa using hq
/-- The box that a variadic lays. -/
theorem box_cells (W : World) (c : List Value) (t : TypeId) : ∀ j u, c[j]? = some u → (W.alloc (.cells c.toArray t)).cell? ((⟨W.heap.size, 0, none⟩ : Addr).add j) = some u := by
  intro j u hu
  rw [add_lit, Nat.zero_add]
  exact (Blk.new W c t).cell j u hu
end
theorem Fr.of_row {w w1 : World} {v : Value} {S : Nat → Prop} (h : w.grownBy w1 v.ownBlock) (hs : ∀ b, v.ownBlock = some b → S b ∨ w.heap.size ≤ b) : Fr S w w1 := Fr.of_grown h hs
end Go.Proofs.YthdjddpomaendaaGreat.B
