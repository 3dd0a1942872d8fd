/- Writers beside one another, and the book: the state of WordWrites. -/
import Derived.Test.YthdjddpomaendaaL3
import Derived.Test.YthdjddpomaendaaK2
import Derived.Test.YthdjddpomaendaaK6
import Derived.Test.YthdjddpomaendaaO7
namespace Go.Proofs.Ythdjddpomaendaa.B
open Go.RowKit
set_option linter.unusedVariables false
set_option linter.unusedSimpArgs false

/-- A writer and the reference's: where they lie, what they have. -/
structure Wp where
  g : Nat
  vb : Option Nat
  gv : Nat
  vv : Option Nat
  bs : List UInt8
  e : Int
def Wp.ok (p : Wp) (w : World) (b : Nat) : Prop := Pair w b p.g p.vb p.gv p.vv p.bs p.e
def Wp.S (p : Wp) (k : Nat) : Prop := (k = p.g ∨ p.vb = some k) ∨ (k = p.gv ∨ p.vv = some k)
def wpc (P : List Wp) : List (List Value) := P.map fun p => [.pointer (some ⟨p.g, 0, none⟩)]
def vpc (P : List Wp) : List (List Value) := P.map fun p => [.pointer (some ⟨p.gv, 0, none⟩)]
theorem Wp.typed {p : Wp} {w : World} {b : Nat} (h : p.ok w b) (k : Nat) (hk : p.S k) : b ≤ k ∧ ∃ cells t, w.heap[k]? = some (.cells cells t (0, 0)) ∧ (t = 108 ∨ t = 104 ∨ t = 5) := by
  obtain ⟨A, c, hvb, hbg, hkb, ho⟩ := h.hw
  obtain ⟨A2, c2, hvv, hbg2, hkb2, ho2⟩ := h.hv
  rcases hk with (hk | hk) | (hk | hk)
  · subst hk; exact ⟨hbg, _, _, hkb, .inl rfl⟩
  · rw [← hvb] at hk
    obtain ⟨cells, hc⟩ := own_typed ho k hk
    exact ⟨(ho.base_le k hk).1, _, _, hc, .inr (.inr rfl)⟩
  · subst hk; exact ⟨hbg2, _, _, hkb2, .inr (.inl rfl)⟩
  · rw [← hvv] at hk
    obtain ⟨cells, hc⟩ := own_typed ho2 k hk
    exact ⟨(ho2.base_le k hk).1, _, _, hc, .inr (.inr rfl)⟩
theorem heap_lt {w : World} {k : Nat} {o : Obj} (h : w.heap[k]? = some o) : k < w.heap.size := (Array.getElem?_eq_some_iff.1 h).1
theorem Wp.S_lt {p : Wp} {w : World} {b : Nat} (h : p.ok w b) (k : Nat) (hk : p.S k) : k < w.heap.size := by
  obtain ⟨_, cells, t, hc, _⟩ := p.typed h k hk
  exact heap_lt hc
theorem Wp.ne_typed {p : Wp} {w : World} {b : Nat} (h : p.ok w b) {k : Nat} {cells : Array Value} {t : TypeId} (hc : w.heap[k]? = some (.cells cells t (0, 0))) (h1 : t ≠ 108) (h2 : t ≠ 104) (h3 : t ≠ 5) : ¬ p.S k := by
  intro hk
  obtain ⟨_, cells', t', hc', ht⟩ := p.typed h k hk
  rw [hc] at hc'
  injection hc' with hc'
  injection hc' with _ hc'
  subst hc'
  rcases ht with rfl | rfl | rfl
  · exact h1 rfl
  · exact h2 rfl
  · exact h3 rfl
theorem Wp.frame {p : Wp} {w w1 : World} {b : Nat} {S : Nat → Prop} (h : p.ok w b) (hf : Fr S w w1) (hn : ∀ k, p.S k → ¬ S k) : p.ok w1 b :=
  Pair.fr h hf (hn _ (.inl (.inl rfl))) (fun k hk => hn k (.inl (.inr hk))) (hn _ (.inr (.inl rfl))) (fun k hk => hn k (.inr (.inr hk)))

/-- The state: the row of writers, the row of the reference's, the book. -/
structure RowC (w : World) (base gx : Nat) (vws vis vl vw : Value) (n : Int) (W V : List (List Value)) (P : List Wp) (I : List Kp) : Prop where
  book : BookC w base gx 2 51 [vws, vis] [] vl vw (lsc I) (wsc I) n
  hn : I64 n
  kps : KpsOk w base I
  sz : I.length ≤ 4000
  rw_ : Row w base 58 1 vws W
  rv : Row w base 102 1 vis V
  ok : ∀ p ∈ P, p.ok w base
  apart : ∀ (i j : Nat) (p q : Wp), P[i]? = some p → P[j]? = some q → i ≠ j → ∀ k, p.S k → ¬ q.S k
  kp : ∀ p ∈ P, ∀ i ∈ I, ∀ k, (i.l.ownBlock = some k ∨ i.was.ownBlock = some k) → ¬ p.S k
section
variable {w w1 : World} {base gx : Nat} {vws vis vl vw v' : Value} {n : Int} {W V W' : List (List Value)} {P : List Wp} {I I' : List Kp} {S : Nat → Prop}
theorem RowC.blk (h : RowC w base gx vws vis vl vw n W V P I) : Blk w gx [vws, vis, vl, vw, .int .i64 n, .bool false] 51 := h.book.blk
theorem RowC.lt (h : RowC w base gx vws vis vl vw n W V P I) : base ≤ gx ∧ gx < w.heap.size := ⟨h.book.hg, h.book.lt⟩
theorem RowC.below (h : RowC w base gx vws vis vl vw n W V P I) (hb : Below w.heap.size w w1) : RowC w1 base gx vws vis vl vw n W V P I :=
  ⟨h.book.below hb, h.hn, h.kps.below hb, h.sz, h.rw_.below hb, h.rv.below hb, fun p hp => p.frame (h.ok p hp) (Fr.of_below hb (fun _ => False)) (fun _ _ h => h), h.apart, h.kp⟩
/-- What is written has other types: the pairs, what is kept and the book's rows stay. -/
theorem RowC.parts (h : RowC w base gx vws vis vl vw n W V P I) (hf : Fr S w w1) (hS : ∀ k, S k → w.heap.size ≤ k ∨ ∃ cells t, w.heap[k]? = some (.cells cells t (0, 0)) ∧ (t = 51 ∨ t = 58 ∨ t = 102)) :
    KpsOk w1 base I ∧ (∀ p ∈ P, p.ok w1 base) ∧ Row w1 base 22 1 vl (lsc I) ∧ Row w1 base 22 1 vw (wsc I) := by
  have hne : ∀ k cells t, w.heap[k]? = some (.cells cells t (0, 0)) → t ≠ 51 → t ≠ 58 → t ≠ 102 → ¬ S k := by
    intro k cells t hc h1 h2 h3 hk
    rcases hS k hk with hge | ⟨cells', t', hc', ht⟩
    · have := heap_lt hc; omega
    · rw [hc] at hc'
      injection hc' with hc'
      injection hc' with _ hc'
      subst hc'
      rcases ht with rfl | rfl | rfl
      · exact h1 rfl
      · exact h2 rfl
      · exact h3 rfl
  refine ⟨h.kps.fr hf (fun i hi b hb => ?_), fun p hp => p.frame (h.ok p hp) hf (fun k hk => ?_), h.book.rl.fr hf (fun b hb => ?_), h.book.rw_.fr hf (fun b hb => ?_)⟩
  · obtain ⟨cells, hc⟩ := h.kps.typed i hi b hb
    exact hne _ _ _ hc (by decide) (by decide) (by decide)
  · obtain ⟨_, cells, t, hc, ht⟩ := p.typed (h.ok p hp) k hk
    rcases ht with rfl | rfl | rfl
    · exact hne _ _ _ hc (by decide) (by decide) (by decide)
    · exact hne _ _ _ hc (by decide) (by decide) (by decide)
    · exact hne _ _ _ hc (by decide) (by decide) (by decide)
  · obtain ⟨_, _, cells, hc⟩ := h.book.rl.typed b hb
    exact hne _ _ _ hc (by decide) (by decide) (by decide)
  · obtain ⟨_, _, cells, hc⟩ := h.book.rw_.typed b hb
    exact hne _ _ _ hc (by decide) (by decide) (by decide)
/-- A further writer: the row has grown, its value is written. -/
theorem RowC.app_w (h : RowC w base gx vws vis vl vw n W V P I) (hrow : Row w1 base 58 1 v' W') (hg : w.grownBy w1 vws.ownBlock) :
    Blk w1 gx [vws, vis, vl, vw, .int .i64 n, .bool false] 51 ∧ RowC (w1.setCell ⟨gx, 0, none⟩ v') base gx v' vis vl vw n W' V P I ∧ Fr (fun k => k = gx ∨ vws.ownBlock = some k) w (w1.setCell ⟨gx, 0, none⟩ v') := by
  have hne : ∀ b, vws.ownBlock = some b → b ≠ gx := fun b hb e => by
    obtain ⟨_, _, cells, hc⟩ := h.rw_.typed b hb
    exact typed_ne hc h.blk (by decide) e
  have f1 : Fr (fun k => vws.ownBlock = some k) w w1 := Fr.of_grown hg (fun b hb => .inl hb)
  have k1 := h.blk.fr f1 (fun e => hne gx e rfl)
  have f2 : Fr (fun k => k = gx ∨ vws.ownBlock = some k) w (w1.setCell ⟨gx, 0, none⟩ v') := (f1.mono (fun k hk => .inl (.inr hk))).setCell (p := ⟨gx, 0, none⟩) (.inl (.inl rfl)) v'
  obtain ⟨p1, p2, p3, p4⟩ := h.parts f2 (fun k hk => by
    rcases hk with rfl | hk
    · exact .inr ⟨_, _, h.blk, .inl rfl⟩
    · obtain ⟨_, _, cells, hc⟩ := h.rw_.typed k hk
      exact .inr ⟨_, _, hc, .inr (.inl rfl)⟩)
  refine ⟨k1, ⟨⟨h.book.hg, rfl, h.book.t1, h.book.t2, k1.set 0 v', p3, p4, h.book.ne⟩, h.hn, p1, h.sz, ?_, ?_, p2, h.apart, h.kp⟩, f2⟩
  · refine hrow.fr (S := fun k => k = gx) ((Fr.refl (fun k => k = gx) w1).setCell (p := ⟨gx, 0, none⟩) (.inl rfl) v') (fun b hb e => ?_)
    obtain ⟨_, _, cells, hc⟩ := hrow.typed b hb
    exact typed_ne hc k1 (by decide) e
  · refine h.rv.fr f2 (fun b hb e => ?_)
    rcases e with e | e
    · obtain ⟨_, _, cells, hc⟩ := h.rv.typed b hb
      exact typed_ne hc h.blk (by decide) e
    · exact h.rw_.ne_row h.rv (by decide) b e hb
theorem RowC.app_v (h : RowC w base gx vws vis vl vw n W V P I) (hrow : Row w1 base 102 1 v' W') (hg : w.grownBy w1 vis.ownBlock) :
    Blk w1 gx [vws, vis, vl, vw, .int .i64 n, .bool false] 51 ∧ RowC (w1.setCell ⟨gx, 1, none⟩ v') base gx vws v' vl vw n W W' P I ∧ Fr (fun k => k = gx ∨ vis.ownBlock = some k) w (w1.setCell ⟨gx, 1, none⟩ v') := by
  have hne : ∀ b, vis.ownBlock = some b → b ≠ gx := fun b hb e => by
    obtain ⟨_, _, cells, hc⟩ := h.rv.typed b hb
    exact typed_ne hc h.blk (by decide) e
  have f1 : Fr (fun k => vis.ownBlock = some k) w w1 := Fr.of_grown hg (fun b hb => .inl hb)
  have k1 := h.blk.fr f1 (fun e => hne gx e rfl)
  have f2 : Fr (fun k => k = gx ∨ vis.ownBlock = some k) w (w1.setCell ⟨gx, 1, none⟩ v') := (f1.mono (fun k hk => .inl (.inr hk))).setCell (p := ⟨gx, 1, none⟩) (.inl (.inl rfl)) v'
  obtain ⟨p1, p2, p3, p4⟩ := h.parts f2 (fun k hk => by
    rcases hk with rfl | hk
    · exact .inr ⟨_, _, h.blk, .inl rfl⟩
    · obtain ⟨_, _, cells, hc⟩ := h.rv.typed k hk
      exact .inr ⟨_, _, hc, .inr (.inr rfl)⟩)
  refine ⟨k1, ⟨⟨h.book.hg, rfl, h.book.t1, h.book.t2, k1.set 1 v', p3, p4, h.book.ne⟩, h.hn, p1, h.sz, ?_, ?_, p2, h.apart, h.kp⟩, f2⟩
  · refine h.rw_.fr f2 (fun b hb e => ?_)
    rcases e with e | e
    · obtain ⟨_, _, cells, hc⟩ := h.rw_.typed b hb
      exact typed_ne hc h.blk (by decide) e
    · exact h.rw_.ne_row h.rv (by decide) b hb e
  · refine hrow.fr (S := fun k => k = gx) ((Fr.refl (fun k => k = gx) w1).setCell (p := ⟨gx, 1, none⟩) (.inl rfl) v') (fun b hb e => ?_)
    obtain ⟨_, _, cells, hc⟩ := hrow.typed b hb
    exact typed_ne hc k1 (by decide) e
/-- A pair in new blocks is one more. -/
theorem RowC.add (h : RowC w base gx vws vis vl vw n W V P I) (p : Wp) (hp : p.ok w base) (B : Nat) (hP : ∀ q ∈ P, ∀ k, q.S k → k < B) (hI : ∀ i ∈ I, ∀ k, (i.l.ownBlock = some k ∨ i.was.ownBlock = some k) → k < B) (hB : ∀ k, p.S k → B ≤ k) :
    RowC w base gx vws vis vl vw n W V (P ++ [p]) I := by
  refine ⟨h.book, h.hn, h.kps, h.sz, h.rw_, h.rv, fun q hq => ?_, fun i j q r hi hj hij k hk hk2 => ?_, fun q hq i hi k hk hS => ?_⟩
  · rcases List.mem_append.1 hq with hq | hq
    · exact h.ok q hq
    · rw [List.mem_singleton.1 hq]; exact hp
  · have hcase : ∀ (i : Nat) (q : Wp), (P ++ [p])[i]? = some q → (P[i]? = some q ∧ q ∈ P) ∨ (i = P.length ∧ q = p) := by
      intro i q hi
      by_cases hlt : i < P.length
      · rw [List.getElem?_append_left hlt] at hi
        exact .inl ⟨hi, List.mem_of_getElem? hi⟩
      · rw [List.getElem?_append_right (by omega)] at hi
        have h0 : i - P.length = 0 := by
          have := (List.getElem?_eq_some_iff.1 hi).1
          simp at this; omega
        rw [h0] at hi
        exact .inr ⟨by omega, by simpa using hi.symm⟩
    rcases hcase i q hi with ⟨h1, h1m⟩ | ⟨h1, rfl⟩
    · rcases hcase j r hj with ⟨h2, h2m⟩ | ⟨h2, rfl⟩
      · exact h.apart i j q r h1 h2 hij k hk hk2
      · have := hP q h1m k hk; have := hB k hk2; omega
    · rcases hcase j r hj with ⟨h2, h2m⟩ | ⟨h2, rfl⟩
      · have := hP r h2m k hk2; have := hB k hk; omega
      · omega
  · rcases List.mem_append.1 hq with hq | hq
    · exact h.kp q hq i hi k hk hS
    · rw [List.mem_singleton.1 hq] at hS
      have := hI i hi k hk; have := hB k hS; omega
theorem RowC.P_lt (h : RowC w base gx vws vis vl vw n W V P I) : ∀ q ∈ P, ∀ k, q.S k → k < w.heap.size := fun q hq k hk => q.S_lt (h.ok q hq) k hk
theorem RowC.I_lt (h : RowC w base gx vws vis vl vw n W V P I) : ∀ i ∈ I, ∀ k, (i.l.ownBlock = some k ∨ i.was.ownBlock = some k) → k < w.heap.size := fun i hi k hk => by
  obtain ⟨cells, hc⟩ := h.kps.typed i hi k hk
  exact heap_lt hc
/-- One pair goes on. -/
theorem RowC.step (h : RowC w base gx vws vis vl vw n W V P I) (i : Nat) (p p' : Wp) (hi : P[i]? = some p) (hg : p'.g = p.g) (hgv : p'.gv = p.gv) (hp' : p'.ok w1 base) (hF : FrP w w1 p.g p.vb p'.vb p.gv p.vv p'.vv) :
    RowC w1 base gx vws vis vl vw n W V (P.set i p') I := by
  have hpm := List.mem_of_getElem? hi
  have hpok := h.ok p hpm
  have hf : Fr p.S w w1 := hF.1
  have hil : i < P.length := (List.getElem?_eq_some_iff.1 hi).1
  have hnew : ∀ k, p'.S k → p.S k ∨ w.heap.size ≤ k := by
    intro k hk
    rcases hk with (hk | hk) | (hk | hk)
    · exact .inl (.inl (.inl (hg ▸ hk)))
    · rcases hF.2.1 with e | ⟨b, e, hb⟩
      · exact .inl (.inl (.inr (e ▸ hk)))
      · rw [e] at hk; obtain rfl := Option.some.inj hk; exact .inr hb
    · exact .inl (.inr (.inl (hgv ▸ hk)))
    · rcases hF.2.2 with e | ⟨b, e, hb⟩
      · exact .inl (.inr (.inr (e ▸ hk)))
      · rw [e] at hk; obtain rfl := Option.some.inj hk; exact .inr hb
  have hset : ∀ (j : Nat) (q : Wp), (P.set i p')[j]? = some q → (j = i ∧ q = p') ∨ (j ≠ i ∧ P[j]? = some q) := by
    intro j q hj
    by_cases e : j = i
    · subst e
      rw [List.getElem?_set_self hil] at hj
      exact .inl ⟨rfl, (Option.some.inj hj).symm⟩
    · rw [List.getElem?_set_ne (fun h => e h.symm)] at hj
      exact .inr ⟨e, hj⟩
  have hrow : ∀ k cells t, w.heap[k]? = some (.cells cells t (0, 0)) → t ≠ 108 → t ≠ 104 → t ≠ 5 → ¬ p.S k := fun k cells t hc => Wp.ne_typed hpok hc
  refine ⟨h.book.fr hf (hrow _ _ _ h.blk (by decide) (by decide) (by decide)) (fun b hb => ?_) (fun b hb => ?_), h.hn, h.kps.fr hf (fun i hi b hb => h.kp p hpm i hi b hb), h.sz, h.rw_.fr hf (fun b hb => ?_), h.rv.fr hf (fun b hb => ?_), fun q hq => ?_, fun a b q r ha hb hab k hk hk2 => ?_, fun q hq x hx k hk hS => ?_⟩
  · obtain ⟨_, _, cells, hc⟩ := h.book.rl.typed b hb
    exact hrow _ _ _ hc (by decide) (by decide) (by decide)
  · obtain ⟨_, _, cells, hc⟩ := h.book.rw_.typed b hb
    exact hrow _ _ _ hc (by decide) (by decide) (by decide)
  · obtain ⟨_, _, cells, hc⟩ := h.rw_.typed b hb
    exact hrow _ _ _ hc (by decide) (by decide) (by decide)
  · obtain ⟨_, _, cells, hc⟩ := h.rv.typed b hb
    exact hrow _ _ _ hc (by decide) (by decide) (by decide)
  · obtain ⟨j, hj, rfl⟩ := List.getElem_of_mem hq
    rcases hset j _ (List.getElem?_eq_getElem hj) with ⟨_, e⟩ | ⟨hne, e⟩
    · rw [e]; exact hp'
    · exact Wp.frame (h.ok _ (List.mem_of_getElem? e)) hf (fun k hk => h.apart j i _ p e hi hne k hk)
  · rcases hset a q ha with ⟨e1, rfl⟩ | ⟨e1, h1⟩
    · rcases hset b r hb with ⟨e2, rfl⟩ | ⟨e2, h2⟩
      · exact hab (e1.trans e2.symm)
      · rcases hnew k hk with h3 | h3
        · exact h.apart i b p r hi h2 (fun e => e2 e.symm) k h3 hk2
        · have := h.P_lt r (List.mem_of_getElem? h2) k hk2; omega
    · rcases hset b r hb with ⟨e2, rfl⟩ | ⟨e2, h2⟩
      · rcases hnew k hk2 with h3 | h3
        · exact h.apart a i q p h1 hi e1 k hk h3
        · have := h.P_lt q (List.mem_of_getElem? h1) k hk; omega
      · exact h.apart a b q r h1 h2 hab k hk hk2
  · obtain ⟨j, hj, rfl⟩ := List.getElem_of_mem hq
    rcases hset j _ (List.getElem?_eq_getElem hj) with ⟨_, e⟩ | ⟨hne, e⟩
    · rw [e] at hS
      rcases hnew k hS with h3 | h3
      · exact h.kp p hpm x hx k hk h3
      · have := h.I_lt x hx k hk; omega
    · exact h.kp _ (List.mem_of_getElem? e) x hx k hk hS
/-- The book has kept one more list. -/
theorem RowC.kept {vl' vw' v : Value} {n' : Int} (h : RowC w base gx vws vis vl vw n W V P I) (hC : BookC w1 base gx 2 51 [vws, vis] [] vl' vw' (lsc I') (wsc I') n') (hn' : I64 n') (hK : KpsOk w1 base I') (hsz : I'.length ≤ 4000) (hF : Fr (bookS w base gx) w w1)
    (hI : ∀ i ∈ I', i ∈ I ∨ (i.l = v ∧ ∀ b, i.was.ownBlock = some b → w.heap.size ≤ b)) (hv : ∀ p ∈ P, ∀ k, v.ownBlock = some k → ¬ p.S k) : RowC w1 base gx vws vis vl' vw' n' W V P I' := by
  have hbk : ∀ k cells t, w.heap[k]? = some (.cells cells t (0, 0)) → t ≠ 51 → t ≠ 22 → ¬ bookS w base gx k := by
    intro k cells t hc h1 h2 hk
    rcases hk with rfl | ⟨_, cells', hc'⟩
    · have := h.blk
      unfold Blk at this
      rw [hc] at this
      injection this with this
      injection this with _ this
      exact h1 this
    · exact typed_ne hc hc' h2 rfl
  refine ⟨hC, hn', hK, hsz, h.rw_.fr hF (fun b hb => ?_), h.rv.fr hF (fun b hb => ?_), fun p hp => p.frame (h.ok p hp) hF (fun k hk => ?_), h.apart, fun p hp i hi k hk hS => ?_⟩
  · obtain ⟨_, _, cells, hc⟩ := h.rw_.typed b hb
    exact hbk _ _ _ hc (by decide) (by decide)
  · obtain ⟨_, _, cells, hc⟩ := h.rv.typed b hb
    exact hbk _ _ _ hc (by decide) (by decide)
  · obtain ⟨_, cells, t, hc, ht⟩ := p.typed (h.ok p hp) k hk
    rcases ht with rfl | rfl | rfl
    · exact hbk _ _ _ hc (by decide) (by decide)
    · exact hbk _ _ _ hc (by decide) (by decide)
    · exact hbk _ _ _ hc (by decide) (by decide)
  · rcases hI i hi with h1 | ⟨h1, h2⟩
    · exact h.kp p hp i h1 k hk hS
    · rcases hk with hk | hk
      · rw [h1] at hk; exact hv p hp k hk hS
      · have := h2 k hk; have := h.P_lt p hp k hS; omega
end
theorem wpc_set {P : List Wp} {i : Nat} {p p' : Wp} (hi : P[i]? = some p) (hg : p'.g = p.g) : wpc (P.set i p') = wpc P := by
  apply List.ext_getElem?
  intro j
  by_cases e : i = j
  · subst e
    have hl := (List.getElem?_eq_some_iff.1 hi).1
    simp [wpc, hl, hi, hg]
    rw [← (List.getElem?_eq_some_iff.1 hi).2]
  · simp [wpc, List.getElem?_set_ne e]
theorem vpc_set {P : List Wp} {i : Nat} {p p' : Wp} (hi : P[i]? = some p) (hg : p'.gv = p.gv) : vpc (P.set i p') = vpc P := by
  apply List.ext_getElem?
  intro j
  by_cases e : i = j
  · subst e
    have hl := (List.getElem?_eq_some_iff.1 hi).1
    simp [vpc, hl, hi, hg]
    rw [← (List.getElem?_eq_some_iff.1 hi).2]
  · simp [vpc, List.getElem?_set_ne e]
theorem wpc_length (P : List Wp) : (wpc P).length = P.length := by simp [wpc]
theorem vpc_length (P : List Wp) : (vpc P).length = P.length := by simp [vpc]
end Go.Proofs.Ythdjddpomaendaa.B
