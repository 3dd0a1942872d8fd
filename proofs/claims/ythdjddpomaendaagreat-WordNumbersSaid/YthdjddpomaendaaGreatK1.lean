/- The book of lists of bytes. -/
import Derived.Test.YthdjddpomaendaaGreatQ
import Derived.Test.YthdjddpomaendaaGreatHL
import Derived.Test.YthdjddpomaendaaGreatB4
import Derived.IntWalk
namespace Go.Proofs.YthdjddpomaendaaGreat.B
open Go.RowKit
set_option linter.unusedVariables false
set_option linter.unusedSimpArgs false

/-- A list that is kept, and its copy. -/
structure Kp where
  A : Option Addr
  c : Nat
  A2 : Option Addr
  c2 : Nat
  xs : List UInt8
def Kp.l (i : Kp) : Value := .slice i.A i.xs.length i.c
def Kp.was (i : Kp) : Value := .slice i.A2 i.xs.length i.c2
def held (I : List Kp) : Nat := (I.map fun i => i.c + 1).sum
theorem held_cons (i : Kp) (I : List Kp) : held (i :: I) = i.c + 1 + held I := by simp [held]
theorem held_snoc (I : List Kp) (i : Kp) : held (I ++ [i]) = held I + (i.c + 1) := by simp [held]
def lsc (I : List Kp) : List (List Value) := I.map fun i => [i.l]
def wsc (I : List Kp) : List (List Value) := I.map fun i => [i.was]
theorem lsc_length (I : List Kp) : (lsc I).length = I.length := by simp [lsc]
theorem wsc_length (I : List Kp) : (wsc I).length = I.length := by simp [wsc]
theorem lsc_snoc (I : List Kp) (i : Kp) : lsc I ++ [[i.l]] = lsc (I ++ [i]) := by simp [lsc]
theorem wsc_snoc (I : List Kp) (i : Kp) : wsc I ++ [[i.was]] = wsc (I ++ [i]) := by simp [wsc]
/-- The lists themselves: each the call's own, as it was; no two share a block. -/
structure KpsOk (w : World) (base : Nat) (I : List Kp) : Prop where
  own : ∀ i ∈ I, Own w base i.l i.xs ∧ Own w base i.was i.xs ∧ i.c ≤ 9223372036854775807
  apart : I.Pairwise (fun i j => ∀ b, i.l.ownBlock = some b → j.l.ownBlock ≠ some b)
/-- The book at ⟨g, o⟩, its two rows the values vl and vw, its count n. -/
structure BookC (w : World) (base g o : Nat) (t : TypeId) (pre post : List Value) (vl vw : Value) (L W : List (List Value)) (n : Int) : Prop where
  hg : base ≤ g
  ho : pre.length = o
  t1 : t ≠ 23
  t2 : t ≠ 5
  blk : Blk w g (pre ++ ([vl, vw, .int .i64 n, .bool false] ++ post)) t
  rl : Row w base 23 1 vl L
  rw_ : Row w base 23 1 vw W
  ne : ∀ b, vl.ownBlock = some b → vw.ownBlock ≠ some b
section
variable {w w1 : World} {base g o : Nat} {t : TypeId} {pre post : List Value} {vl vw : Value} {L W : List (List Value)} {n : Int} {I : List Kp} {S : Nat → Prop}
theorem BookC.get (h : BookC w base g o t pre post vl vw L W n) : w.cell? ⟨g, o, none⟩ = some vl ∧ w.cell? ⟨g, o + 1, none⟩ = some vw ∧ w.cell? ⟨g, o + 2, none⟩ = some (.int .i64 n) ∧ w.cell? ⟨g, o + 3, none⟩ = some (.bool false) ∧
    w.frozen? ⟨g, o, none⟩ = false ∧ w.frozen? ⟨g, o + 1, none⟩ = false ∧ w.frozen? ⟨g, o + 2, none⟩ = false ∧ w.frozen? ⟨g, o + 3, none⟩ = false := by
  have hk := h.blk
  have ho := h.ho
  refine ⟨hk.cell _ _ ?_, hk.cell _ _ ?_, hk.cell _ _ ?_, hk.cell _ _ ?_, hk.free _, hk.free _, hk.free _, hk.free _⟩ <;> (rw [List.getElem?_append_right (by omega)]; subst ho; simp)
theorem BookC.fr (h : BookC w base g o t pre post vl vw L W n) (hf : Fr S w w1) (h1 : ¬ S g) (h2 : ∀ b, vl.ownBlock = some b → ¬ S b) (h3 : ∀ b, vw.ownBlock = some b → ¬ S b) : BookC w1 base g o t pre post vl vw L W n :=
  ⟨h.hg, h.ho, h.t1, h.t2, h.blk.fr hf h1, h.rl.fr hf h2, h.rw_.fr hf h3, h.ne⟩
theorem BookC.below (h : BookC w base g o t pre post vl vw L W n) (hb : Below w.heap.size w w1) : BookC w1 base g o t pre post vl vw L W n :=
  h.fr (Fr.of_below hb (fun _ => False)) (fun h => h) (fun _ _ h => h) (fun _ _ h => h)
theorem BookC.lt (h : BookC w base g o t pre post vl vw L W n) : g < w.heap.size := h.blk.lt
theorem KpsOk.fr (h : KpsOk w base I) (hf : Fr S w w1) (hn : ∀ i ∈ I, ∀ b, i.l.ownBlock = some b ∨ i.was.ownBlock = some b → ¬ S b) : KpsOk w1 base I :=
  ⟨fun i hi => ⟨(h.own i hi).1.fr hf (fun b hb => hn i hi b (.inl hb)), (h.own i hi).2.1.fr hf (fun b hb => hn i hi b (.inr hb)), (h.own i hi).2.2⟩, h.apart⟩
theorem KpsOk.below (h : KpsOk w base I) (hb : Below w.heap.size w w1) : KpsOk w1 base I := h.fr (Fr.of_below hb (fun _ => False)) (fun _ _ _ _ h => h)
theorem KpsOk.tail {i : Kp} (h : KpsOk w base (i :: I)) : KpsOk w base I := ⟨fun j hj => h.own j (by simp [hj]), (List.pairwise_cons.1 h.apart).2⟩
/-- A block that is no row of bytes is none of theirs. -/
theorem own_typed {v : Value} {xs : List UInt8} (h : Own w base v xs) (b : Nat) (hb : v.ownBlock = some b) : ∃ cells, w.heap[b]? = some (.cells cells 5 (0, 0)) := by
  rcases h.2 with ⟨rfl, _⟩ | ⟨g', cap, cur, rfl, _, hg, _⟩
  · simp [Value.ownBlock] at hb
  · have : g' = b := by simpa [Value.ownBlock] using hb
    subst this
    exact ⟨_, hg⟩
theorem KpsOk.typed (h : KpsOk w base I) : ∀ i ∈ I, ∀ b, i.l.ownBlock = some b ∨ i.was.ownBlock = some b → ∃ cells, w.heap[b]? = some (.cells cells 5 (0, 0)) := by
  intro i hi b hb
  rcases hb with hb | hb
  · exact own_typed (h.own i hi).1 b hb
  · exact own_typed (h.own i hi).2.1 b hb
theorem typed_ne {b g : Nat} {cells cells' : Array Value} {t t' : TypeId} (h : w.heap[b]? = some (.cells cells t (0, 0))) (h' : w.heap[g]? = some (.cells cells' t' (0, 0))) (ht : t ≠ t') : b ≠ g := by
  rintro rfl
  rw [h] at h'
  injection h' with h'
  injection h' with _ h'
  exact ht h'
/-- What the book's own steps write: its block, and rows of slices of bytes. -/
def bookS (w : World) (base g : Nat) (k : Nat) : Prop := k = g ∨ (base ≤ k ∧ ∃ cells, w.heap[k]? = some (.cells cells 23 (0, 0)))
theorem KpsOk.ne_book (h : KpsOk w base I) (hC : BookC w base g o t pre post vl vw L W n) : ∀ i ∈ I, ∀ b, i.l.ownBlock = some b ∨ i.was.ownBlock = some b → ¬ bookS w base g b := by
  intro i hi b hb hS
  obtain ⟨cells, hc⟩ := h.typed i hi b hb
  rcases hS with rfl | ⟨_, cells', hc'⟩
  · exact typed_ne hc hC.blk hC.t2.symm rfl
  · exact typed_ne hc hc' (by decide) rfl
theorem BookC.rows (h : BookC w base g o t pre post vl vw L W n) : (∀ b, vl.ownBlock = some b → bookS w base g b ∧ b ≠ g) ∧ (∀ b, vw.ownBlock = some b → bookS w base g b ∧ b ≠ g) := by
  refine ⟨fun b hb => ?_, fun b hb => ?_⟩
  · obtain ⟨h1, _, cells, h2⟩ := h.rl.typed b hb
    exact ⟨.inr ⟨h1, cells, h2⟩, typed_ne h2 h.blk h.t1.symm⟩
  · obtain ⟨h1, _, cells, h2⟩ := h.rw_.typed b hb
    exact ⟨.inr ⟨h1, cells, h2⟩, typed_ne h2 h.blk h.t1.symm⟩
end
/-! ### The book's own steps -/
theorem bookS_back {w w1 : World} {base g k : Nat} (hf : Fr (bookS w base g) w w1) (h : bookS w1 base g k) : bookS w base g k ∨ w.heap.size ≤ k := by
  rcases h with rfl | ⟨h1, cells, h2⟩
  · exact .inl (.inl rfl)
  · by_cases hk : k < w.heap.size
    · by_cases hs : bookS w base g k
      · exact .inl hs
      · exact .inl (.inr ⟨h1, cells, (hf.block k hk hs).symm.trans h2⟩)
    · exact .inr (by omega)
theorem Fr.book {w w1 w2 : World} {base g : Nat} (h : Fr (bookS w base g) w w1) (k : Fr (bookS w1 base g) w1 w2) : Fr (bookS w base g) w w2 := h.trans k (fun i hi => bookS_back h hi)
theorem set_pre (pre post : List Value) (a b c d x : Value) : (pre ++ ([a, b, c, d] ++ post)).set pre.length x = pre ++ ([x, b, c, d] ++ post) ∧ (pre ++ ([a, b, c, d] ++ post)).set (pre.length + 1) x = pre ++ ([a, x, c, d] ++ post) ∧
    (pre ++ ([a, b, c, d] ++ post)).set (pre.length + 2) x = pre ++ ([a, b, x, d] ++ post) ∧ (pre ++ ([a, b, c, d] ++ post)).set (pre.length + 3) x = pre ++ ([a, b, c, x] ++ post) := by
  refine ⟨?_, ?_, ?_, ?_⟩ <;> (rw [List.set_append_right _ _ (by omega)]; simp)
section
variable {w W w1 : World} {base g o : Nat} {t : TypeId} {pre post : List Value} {vl vw v' : Value} {L Wc L' : List (List Value)} {n : Int} {I : List Kp}
theorem setc_fr (h : BookC w base g o t pre post vl vw L Wc n) (i : Nat) (u : Value) : Fr (fun k => k = g) w (w.setCell ⟨g, i, none⟩ u) := (Fr.refl (fun k => k = g) w).setCell (p := ⟨g, i, none⟩) (.inl rfl) u
theorem bookS_g (h : Fr (fun k => k = g) w w1) : Fr (bookS w base g) w w1 := h.mono (fun k hk => .inl (.inl hk))
/-- The first row's value is written. -/
theorem BookC.set_l (h : BookC w base g o t pre post vl vw L Wc n) (hrow : Row w base 23 1 v' L') (hne : ∀ b, v'.ownBlock = some b → vw.ownBlock ≠ some b) : BookC (w.setCell ⟨g, o, none⟩ v') base g o t pre post v' vw L' Wc n ∧ Fr (bookS w base g) w (w.setCell ⟨g, o, none⟩ v') := by
  have hf := setc_fr h o v'
  have hr := h.rows
  refine ⟨⟨h.hg, h.ho, h.t1, h.t2, ?_, hrow.fr hf (fun b hb e => ?_), h.rw_.fr hf (fun b hb e => (hr.2 b hb).2 e), hne⟩, hf.mono (fun k hk => .inl (.inl hk))⟩
  · have := h.blk.set o v'
    rw [← h.ho, (set_pre pre post _ _ _ _ v').1, h.ho] at this
    exact this
  · obtain ⟨_, _, cells, h2⟩ := hrow.typed b hb
    exact typed_ne h2 h.blk h.t1.symm e
theorem BookC.set_w (h : BookC w base g o t pre post vl vw L Wc n) (hrow : Row w base 23 1 v' L') (hne : ∀ b, vl.ownBlock = some b → v'.ownBlock ≠ some b) : BookC (w.setCell ⟨g, o + 1, none⟩ v') base g o t pre post vl v' L L' n ∧ Fr (bookS w base g) w (w.setCell ⟨g, o + 1, none⟩ v') := by
  have hf := setc_fr h (o + 1) v'
  have hr := h.rows
  refine ⟨⟨h.hg, h.ho, h.t1, h.t2, ?_, h.rl.fr hf (fun b hb e => (hr.1 b hb).2 e), hrow.fr hf (fun b hb e => ?_), hne⟩, hf.mono (fun k hk => .inl (.inl hk))⟩
  · have := h.blk.set (o + 1) v'
    rw [← h.ho, (set_pre pre post _ _ _ _ v').2.1, h.ho] at this
    exact this
  · obtain ⟨_, _, cells, h2⟩ := hrow.typed b hb
    exact typed_ne h2 h.blk h.t1.symm e
theorem BookC.set_n (h : BookC w base g o t pre post vl vw L Wc n) (n' : Int) : BookC (w.setCell ⟨g, o + 2, none⟩ (.int .i64 n')) base g o t pre post vl vw L Wc n' ∧ Fr (bookS w base g) w (w.setCell ⟨g, o + 2, none⟩ (.int .i64 n')) := by
  have hf := setc_fr h (o + 2) (.int .i64 n')
  have hr := h.rows
  refine ⟨⟨h.hg, h.ho, h.t1, h.t2, ?_, h.rl.fr hf (fun b hb e => (hr.1 b hb).2 e), h.rw_.fr hf (fun b hb e => (hr.2 b hb).2 e), h.ne⟩, hf.mono (fun k hk => .inl (.inl hk))⟩
  have := h.blk.set (o + 2) (.int .i64 n')
  rw [← h.ho, (set_pre pre post _ _ _ _ _).2.2.1, h.ho] at this
  exact this
theorem BookC.set_b (h : BookC w base g o t pre post vl vw L Wc n) : BookC (w.setCell ⟨g, o + 3, none⟩ (.bool false)) base g o t pre post vl vw L Wc n ∧ Fr (bookS w base g) w (w.setCell ⟨g, o + 3, none⟩ (.bool false)) := by
  have hf := setc_fr h (o + 3) (.bool false)
  have hr := h.rows
  refine ⟨⟨h.hg, h.ho, h.t1, h.t2, ?_, h.rl.fr hf (fun b hb e => (hr.1 b hb).2 e), h.rw_.fr hf (fun b hb e => (hr.2 b hb).2 e), h.ne⟩, hf.mono (fun k hk => .inl (.inl hk))⟩
  have := h.blk.set (o + 3) (.bool false)
  rw [← h.ho, (set_pre pre post _ _ _ _ _).2.2.2, h.ho] at this
  exact this
/-- What an append to one of the two rows leaves. -/
theorem BookC.grown_l (h : BookC w base g o t pre post vl vw L Wc n) (hrow : Row w1 base 23 1 v' L') (hg : w.grownBy w1 vl.ownBlock) (hat : v'.ownBlock = vl.ownBlock ∨ ∃ b, v'.ownBlock = some b ∧ w.heap.size ≤ b) :
    Blk w1 g (pre ++ ([vl, vw, .int .i64 n, .bool false] ++ post)) t ∧ Row w1 base 23 1 vw Wc ∧ (∀ b, v'.ownBlock = some b → vw.ownBlock ≠ some b) ∧ Fr (bookS w base g) w w1 := by
  have hr := h.rows
  have hf : Fr (fun b => vl.ownBlock = some b) w w1 := Fr.of_grown hg (fun b hb => .inl hb)
  refine ⟨h.blk.fr hf (fun e => (hr.1 g e).2 rfl), h.rw_.fr hf (fun b hb e => h.ne b e hb), fun b hb e => ?_, hf.mono (fun b hb => .inl (hr.1 b hb).1)⟩
  rcases hat with hat | ⟨b', hb', hlt⟩
  · exact h.ne b (hat ▸ hb) e
  · rw [hb'] at hb
    obtain rfl := Option.some.inj hb
    have := (h.rw_.typed b' e).2.1
    omega
theorem BookC.grown_w (h : BookC w base g o t pre post vl vw L Wc n) (hrow : Row w1 base 23 1 v' L') (hg : w.grownBy w1 vw.ownBlock) (hat : v'.ownBlock = vw.ownBlock ∨ ∃ b, v'.ownBlock = some b ∧ w.heap.size ≤ b) :
    Blk w1 g (pre ++ ([vl, vw, .int .i64 n, .bool false] ++ post)) t ∧ Row w1 base 23 1 vl L ∧ (∀ b, vl.ownBlock = some b → v'.ownBlock ≠ some b) ∧ Fr (bookS w base g) w w1 := by
  have hr := h.rows
  have hf : Fr (fun b => vw.ownBlock = some b) w w1 := Fr.of_grown hg (fun b hb => .inl hb)
  refine ⟨h.blk.fr hf (fun e => (hr.2 g e).2 rfl), h.rl.fr hf (fun b hb e => h.ne b hb e), fun b hb e => ?_, hf.mono (fun b hb => .inl (hr.2 b hb).1)⟩
  rcases hat with hat | ⟨b', hb', hlt⟩
  · exact h.ne b hb (hat ▸ e)
  · rw [hb'] at e
    obtain rfl := Option.some.inj e
    have := (h.rl.typed b' hb).2.1
    omega
/-- An append to the first row, then its value written. -/
theorem BookC.app_l (h : BookC w base g o t pre post vl vw L Wc n) (hrow : Row w1 base 23 1 v' L') (hg : w.grownBy w1 vl.ownBlock) (hat : v'.ownBlock = vl.ownBlock ∨ ∃ b, v'.ownBlock = some b ∧ w.heap.size ≤ b) :
    (w1.cell? ⟨g, o, none⟩ = some vl ∧ w1.frozen? ⟨g, o, none⟩ = false) ∧ BookC (w1.setCell ⟨g, o, none⟩ v') base g o t pre post v' vw L' Wc n ∧ Fr (bookS w base g) w (w1.setCell ⟨g, o, none⟩ v') := by
  obtain ⟨h1, h2, h3, h4⟩ := h.grown_l hrow hg hat
  have hf1 : Fr (fun k => k = g) w1 (w1.setCell ⟨g, o, none⟩ v') := (Fr.refl (fun k => k = g) w1).setCell (p := ⟨g, o, none⟩) (.inl rfl) v'
  refine ⟨⟨h1.cell _ _ (by rw [List.getElem?_append_right (by rw [h.ho]; omega), h.ho]; simp), h1.free _⟩, ⟨h.hg, h.ho, h.t1, h.t2, ?_, hrow.fr hf1 (fun b hb e => ?_), h2.fr hf1 (fun b hb e => ?_), h3⟩, h4.trans hf1 (fun k hk => .inl (.inl hk))⟩
  · have := h1.set o v'
    rw [← h.ho, (set_pre pre post _ _ _ _ v').1, h.ho] at this
    exact this
  · obtain ⟨_, _, cells, h5⟩ := hrow.typed b hb
    exact typed_ne h5 h1 h.t1.symm e
  · obtain ⟨_, _, cells, h5⟩ := h2.typed b hb
    exact typed_ne h5 h1 h.t1.symm e
theorem BookC.app_w (h : BookC w base g o t pre post vl vw L Wc n) (hrow : Row w1 base 23 1 v' L') (hg : w.grownBy w1 vw.ownBlock) (hat : v'.ownBlock = vw.ownBlock ∨ ∃ b, v'.ownBlock = some b ∧ w.heap.size ≤ b) :
    (w1.cell? ⟨g, o + 1, none⟩ = some vw ∧ w1.frozen? ⟨g, o + 1, none⟩ = false) ∧ BookC (w1.setCell ⟨g, o + 1, none⟩ v') base g o t pre post vl v' L L' n ∧ Fr (bookS w base g) w (w1.setCell ⟨g, o + 1, none⟩ v') := by
  obtain ⟨h1, h2, h3, h4⟩ := h.grown_w hrow hg hat
  have hf1 : Fr (fun k => k = g) w1 (w1.setCell ⟨g, o + 1, none⟩ v') := (Fr.refl (fun k => k = g) w1).setCell (p := ⟨g, o + 1, none⟩) (.inl rfl) v'
  refine ⟨⟨h1.cell _ _ (by rw [List.getElem?_append_right (by rw [h.ho]; omega), h.ho]; simp), h1.free _⟩, ⟨h.hg, h.ho, h.t1, h.t2, ?_, h2.fr hf1 (fun b hb e => ?_), hrow.fr hf1 (fun b hb e => ?_), h3⟩, h4.trans hf1 (fun k hk => .inl (.inl hk))⟩
  · have := h1.set (o + 1) v'
    rw [← h.ho, (set_pre pre post _ _ _ _ v').2.1, h.ho] at this
    exact this
  · obtain ⟨_, _, cells, h5⟩ := h2.typed b hb
    exact typed_ne h5 h1 h.t1.symm e
  · obtain ⟨_, _, cells, h5⟩ := hrow.typed b hb
    exact typed_ne h5 h1 h.t1.symm e
end
set_option maxRecDepth 100000 in
theorem infoSl : (Tryz.prog.info? 23).map (fun i => (i.zero, i.size, i.bytes)) = some (some (.slice none 0 0), 1, 24) := by kernel_rfl
end Go.Proofs.YthdjddpomaendaaGreat.B
