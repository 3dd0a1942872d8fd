/- Readers beside one another, and the book: the state of WordReads. -/
import Derived.Test.YthdjddpomaendaaT3
import Derived.Test.YthdjddpomaendaaK2
import Derived.Test.YthdjddpomaendaaK6
namespace Go.Proofs.Ythdjddpomaendaa.B
open Go.RowKit
set_option linter.unusedVariables false
set_option linter.unusedSimpArgs false

/-- A reader and the reference's: where they lie, where they stand. -/
structure Rp where
  g : Nat
  A : Option Addr
  c : Nat
  gv : Nat
  at_ : Nat
  e : Int
structure Rp.ok (p : Rp) (w : World) (b : Nat) (A0 : Option Addr) (c0 : Nat) (bs : List UInt8) : Prop where
  hr : IsR w b p.g p.A p.c bs p.at_ p.e
  hu : IsU w b p.gv A0 c0 bs p.at_ p.e
def Rp.S (p : Rp) (k : Nat) : Prop := k = p.g ∨ k = p.gv
def rpc (P : List Rp) : List (List Value) := P.map fun p => [.pointer (some ⟨p.g, 0, none⟩)]
def upc (P : List Rp) : List (List Value) := P.map fun p => [.pointer (some ⟨p.gv, 0, none⟩)]
theorem rpc_get {P : List Rp} {i : Nat} {p : Rp} (h : P[i]? = some p) : (rpc P)[i]? = some [.pointer (some ⟨p.g, 0, none⟩)] := by simp [rpc, h]
theorem upc_get {P : List Rp} {i : Nat} {p : Rp} (h : P[i]? = some p) : (upc P)[i]? = some [.pointer (some ⟨p.gv, 0, none⟩)] := by simp [upc, h]
theorem rpc_length (P : List Rp) : (rpc P).length = P.length := by simp [rpc]
theorem upc_length (P : List Rp) : (upc P).length = P.length := by simp [upc]
theorem rpc_snoc (P : List Rp) (p : Rp) : rpc P ++ [[.pointer (some ⟨p.g, 0, none⟩)]] = rpc (P ++ [p]) := by simp [rpc]
theorem upc_snoc (P : List Rp) (p : Rp) : upc P ++ [[.pointer (some ⟨p.gv, 0, none⟩)]] = upc (P ++ [p]) := by simp [upc]
theorem rpc_set {P : List Rp} {i : Nat} {p p' : Rp} (hi : P[i]? = some p) (hg : p'.g = p.g) : rpc (P.set i p') = rpc P := by
  apply List.ext_getElem?
  intro j
  by_cases e : i = j
  · subst e
    have hl := (List.getElem?_eq_some_iff.1 hi).1
    simp [rpc, hl, hi, hg]
    rw [← (List.getElem?_eq_some_iff.1 hi).2]
  · simp [rpc, List.getElem?_set_ne e]
theorem upc_set {P : List Rp} {i : Nat} {p p' : Rp} (hi : P[i]? = some p) (hg : p'.gv = p.gv) : upc (P.set i p') = upc P := by
  apply List.ext_getElem?
  intro j
  by_cases e : i = j
  · subst e
    have hl := (List.getElem?_eq_some_iff.1 hi).1
    simp [upc, hl, hi, hg]
    rw [← (List.getElem?_eq_some_iff.1 hi).2]
  · simp [upc, List.getElem?_set_ne e]
/-- A reader lies apart from the reference's. -/
theorem ru_ne {w : World} {b b' g gv c c0 : Nat} {A A0 : Option Addr} {bs bs' : List UInt8} {a a' : Nat} {e e' : Int} (hR : IsR w b g A c bs a e) (hU : IsU w b' gv A0 c0 bs' a' e') : g ≠ gv ∧ ∀ k, rOwn A c = some k → k ≠ gv :=
  ⟨fun h => typed_ne hR.blk hU.blk (by decide) h, fun k hk h => own_ne hR.own hU.blk (by decide) (by rw [rOwn_eq, hk, h])⟩
/-- One of them goes on. -/
theorem IsU.past_r {w w1 : World} {b g gv c c0 : Nat} {A A0 : Option Addr} {bs bs' : List UInt8} {a a' : Nat} {e e' : Int} (hU : IsU w b gv A0 c0 bs' a' e') (hR : IsR w b g A c bs a e) (hf : Fr (fun k => k = g) w w1) : IsU w1 b gv A0 c0 bs' a' e' :=
  hU.fr hf (fun h => (ru_ne hR hU).1 h.symm) (fun k hk => by rw [hk]; exact hR.hg)
theorem IsR.past_u {w w1 : World} {b g gv c c0 : Nat} {A A0 : Option Addr} {bs bs' : List UInt8} {a a' : Nat} {e e' : Int} (hR : IsR w b g A c bs a e) (hU : IsU w b gv A0 c0 bs' a' e') (hf : Fr (fun k => k = gv) w w1) : IsR w1 b g A c bs a e :=
  hR.fr hf (ru_ne hR hU).1 (ru_ne hR hU).2
theorem own_typed' {w : World} {b g c : Nat} {A : Option Addr} {bs : List UInt8} {a : Nat} {e : Int} (hR : IsR w b g A c bs a e) (k : Nat) (hk : rOwn A c = some k) : ∃ cells, w.heap[k]? = some (.cells cells 5 (0, 0)) :=
  own_typed hR.own k (by rw [rOwn_eq]; exact hk)
theorem heap_lt' {w : World} {k : Nat} {o : Obj} (h : w.heap[k]? = some o) : k < w.heap.size := (Array.getElem?_eq_some_iff.1 h).1
/-- What is written has other types (or is new, or another's). -/
theorem Rp.frame {p : Rp} {w w1 : World} {b c0 : Nat} {A0 : Option Addr} {bs : List UInt8} {S : Nat → Prop} (h : p.ok w b A0 c0 bs) (hf : Fr S w w1) (h1 : ∀ k, p.S k → ¬ S k) (h2 : ∀ k cells, w.heap[k]? = some (.cells cells 5 (0, 0)) → ¬ S k) (h3 : ∀ k, S k → b ≤ k) : p.ok w1 b A0 c0 bs :=
  ⟨h.hr.fr hf (h1 _ (.inl rfl)) (fun k hk => by obtain ⟨cells, hc⟩ := own_typed' h.hr k hk; exact h2 k cells hc), h.hu.fr hf (h1 _ (.inr rfl)) h3⟩
theorem Rp.below {p : Rp} {w w1 : World} {b c0 : Nat} {A0 : Option Addr} {bs : List UInt8} (h : p.ok w b A0 c0 bs) (hb : Below w.heap.size w w1) : p.ok w1 b A0 c0 bs := ⟨h.hr.below hb, h.hu.below hb⟩

/-- The state: the bytes, the row of readers, the row of the reference's, the book. -/
structure ShC (w : World) (base gx : Nat) (A0 : Option Addr) (c0 : Nat) (bs : List UInt8) (vrs vis vl vw : Value) (n : Int) (R U : List (List Value)) (P : List Rp) (I : List Kp) : Prop where
  book : BookC w base gx 3 75 [.slice A0 bs.length c0, vrs, vis] [] vl vw (lsc I) (wsc I) n
  hn : I64 n
  kps : KpsOk w base I
  sz : I.length ≤ 4000
  rr : Row w base 65 1 vrs R
  ru : Row w base 78 1 vis U
  ok : ∀ p ∈ P, p.ok w base A0 c0 bs
  apart : ∀ (i j : Nat) (p q : Rp), P[i]? = some p → P[j]? = some q → i ≠ j → p.g ≠ q.g ∧ p.gv ≠ q.gv
  src : Src w base A0 bs
  hlen : bs.length ≤ 140737488351232
  cap : bs.length ≤ c0 ∧ c0 ≤ 9223372036854775807
section
variable {w w1 : World} {base gx c0 : Nat} {A0 : Option Addr} {bs : List UInt8} {vrs vis vl vw v' : Value} {n : Int} {R U R' : List (List Value)} {P : List Rp} {I I' : List Kp} {S : Nat → Prop}
theorem ShC.blk (h : ShC w base gx A0 c0 bs vrs vis vl vw n R U P I) : Blk w gx [.slice A0 bs.length c0, vrs, vis, vl, vw, .int .i64 n, .bool false] 75 := h.book.blk
theorem ShC.lt (h : ShC w base gx A0 c0 bs vrs vis vl vw n R U P I) : base ≤ gx ∧ gx < w.heap.size := ⟨h.book.hg, h.book.lt⟩
theorem ShC.below (h : ShC w base gx A0 c0 bs vrs vis vl vw n R U P I) (hb : Below w.heap.size w w1) : ShC w1 base gx A0 c0 bs vrs vis vl vw n R U P I :=
  ⟨h.book.below hb, h.hn, h.kps.below hb, h.sz, h.rr.below hb, h.ru.below hb, fun p hp => p.below (h.ok p hp) hb, h.apart, h.src.go (hb.mono (by have := h.lt; omega)), h.hlen, h.cap⟩
theorem ShC.P_lt (h : ShC w base gx A0 c0 bs vrs vis vl vw n R U P I) : ∀ p ∈ P, p.g < w.heap.size ∧ p.gv < w.heap.size := fun p hp => ⟨(h.ok p hp).hr.lt, (h.ok p hp).hu.lt⟩
theorem ShC.I_lt (h : ShC w base gx A0 c0 bs vrs vis vl vw n R U P I) : ∀ i ∈ I, ∀ k, (i.l.ownBlock = some k ∨ i.was.ownBlock = some k) → k < w.heap.size := fun i hi k hk => by
  obtain ⟨cells, hc⟩ := h.kps.typed i hi k hk
  exact heap_lt' hc
/-- What is written is of the shelf's or the rows' types. -/
theorem ShC.parts (h : ShC w base gx A0 c0 bs vrs vis vl vw n R U P I) (hf : Fr S w w1) (hb : ∀ k, S k → base ≤ k) (hS : ∀ k, S k → w.heap.size ≤ k ∨ ∃ cells t, w.heap[k]? = some (.cells cells t (0, 0)) ∧ (t = 75 ∨ t = 65 ∨ t = 78)) :
    KpsOk w1 base I ∧ (∀ p ∈ P, p.ok w1 base A0 c0 bs) ∧ Row w1 base 22 1 vl (lsc I) ∧ Row w1 base 22 1 vw (wsc I) ∧ Src w1 base A0 bs := by
  have hne : ∀ k cells t, w.heap[k]? = some (.cells cells t (0, 0)) → t ≠ 75 → t ≠ 65 → t ≠ 78 → ¬ S k := by
    intro k cells t hc h1 h2 h3 hk
    rcases hS k hk with hge | ⟨cells', t', hc', ht⟩
    · have := heap_lt' hc; omega
    · rw [hc] at hc'
      injection hc' with hc'
      injection hc' with _ hc'
      subst hc'
      rcases ht with rfl | rfl | rfl
      · exact h1 rfl
      · exact h2 rfl
      · exact h3 rfl
  refine ⟨h.kps.fr hf (fun i hi b hb => ?_), fun p hp => p.frame (h.ok p hp) hf (fun k hk => ?_) (fun k cells hc => hne _ _ _ hc (by decide) (by decide) (by decide)) hb, h.book.rl.fr hf (fun b hb => ?_), h.book.rw_.fr hf (fun b hb => ?_), h.src.go (hf.below hb (by have := h.lt; omega))⟩
  · obtain ⟨cells, hc⟩ := h.kps.typed i hi b hb
    exact hne _ _ _ hc (by decide) (by decide) (by decide)
  · rcases hk with rfl | rfl
    · exact hne _ _ _ (h.ok p hp).hr.blk (by decide) (by decide) (by decide)
    · exact hne _ _ _ (h.ok p hp).hu.blk (by decide) (by decide) (by decide)
  · obtain ⟨_, _, cells, hc⟩ := h.book.rl.typed b hb
    exact hne _ _ _ hc (by decide) (by decide) (by decide)
  · obtain ⟨_, _, cells, hc⟩ := h.book.rw_.typed b hb
    exact hne _ _ _ hc (by decide) (by decide) (by decide)
/-- A further reader: the row has grown, its value is written. -/
theorem ShC.app_r (h : ShC w base gx A0 c0 bs vrs vis vl vw n R U P I) (hrow : Row w1 base 65 1 v' R') (hg : w.grownBy w1 vrs.ownBlock) :
    Blk w1 gx [.slice A0 bs.length c0, vrs, vis, vl, vw, .int .i64 n, .bool false] 75 ∧ ShC (w1.setCell ⟨gx, 1, none⟩ v') base gx A0 c0 bs v' vis vl vw n R' U P I ∧ Fr (fun k => k = gx ∨ vrs.ownBlock = some k) w (w1.setCell ⟨gx, 1, none⟩ v') := by
  have hne : ∀ b, vrs.ownBlock = some b → b ≠ gx := fun b hb e => by
    obtain ⟨_, _, cells, hc⟩ := h.rr.typed b hb
    exact typed_ne hc h.blk (by decide) e
  have f1 : Fr (fun k => vrs.ownBlock = some k) w w1 := Fr.of_grown hg (fun b hb => .inl hb)
  have k1 := h.blk.fr f1 (fun e => hne gx e rfl)
  have f2 : Fr (fun k => k = gx ∨ vrs.ownBlock = some k) w (w1.setCell ⟨gx, 1, none⟩ v') := (f1.mono (fun k hk => .inl (.inr hk))).setCell (p := ⟨gx, 1, none⟩) (.inl (.inl rfl)) v'
  obtain ⟨p1, p2, p3, p4, p5⟩ := h.parts f2 (fun k hk => by
    rcases hk with rfl | hk
    · exact h.lt.1
    · exact (h.rr.typed k hk).1) (fun k hk => by
    rcases hk with rfl | hk
    · exact .inr ⟨_, _, h.blk, .inl rfl⟩
    · obtain ⟨_, _, cells, hc⟩ := h.rr.typed k hk
      exact .inr ⟨_, _, hc, .inr (.inl rfl)⟩)
  refine ⟨k1, ⟨⟨h.book.hg, rfl, h.book.t1, h.book.t2, k1.set 1 v', p3, p4, h.book.ne⟩, h.hn, p1, h.sz, ?_, ?_, p2, h.apart, p5, h.hlen, h.cap⟩, f2⟩
  · refine hrow.fr (S := fun k => k = gx) ((Fr.refl (fun k => k = gx) w1).setCell (p := ⟨gx, 1, none⟩) (.inl rfl) v') (fun b hb e => ?_)
    obtain ⟨_, _, cells, hc⟩ := hrow.typed b hb
    exact typed_ne hc k1 (by decide) e
  · refine h.ru.fr f2 (fun b hb e => ?_)
    rcases e with e | e
    · obtain ⟨_, _, cells, hc⟩ := h.ru.typed b hb
      exact typed_ne hc h.blk (by decide) e
    · exact h.rr.ne_row h.ru (by decide) b e hb
theorem ShC.app_u (h : ShC w base gx A0 c0 bs vrs vis vl vw n R U P I) (hrow : Row w1 base 78 1 v' R') (hg : w.grownBy w1 vis.ownBlock) :
    Blk w1 gx [.slice A0 bs.length c0, vrs, vis, vl, vw, .int .i64 n, .bool false] 75 ∧ ShC (w1.setCell ⟨gx, 2, none⟩ v') base gx A0 c0 bs vrs v' vl vw n R R' P I ∧ Fr (fun k => k = gx ∨ vis.ownBlock = some k) w (w1.setCell ⟨gx, 2, none⟩ v') := by
  have hne : ∀ b, vis.ownBlock = some b → b ≠ gx := fun b hb e => by
    obtain ⟨_, _, cells, hc⟩ := h.ru.typed b hb
    exact typed_ne hc h.blk (by decide) e
  have f1 : Fr (fun k => vis.ownBlock = some k) w w1 := Fr.of_grown hg (fun b hb => .inl hb)
  have k1 := h.blk.fr f1 (fun e => hne gx e rfl)
  have f2 : Fr (fun k => k = gx ∨ vis.ownBlock = some k) w (w1.setCell ⟨gx, 2, none⟩ v') := (f1.mono (fun k hk => .inl (.inr hk))).setCell (p := ⟨gx, 2, none⟩) (.inl (.inl rfl)) v'
  obtain ⟨p1, p2, p3, p4, p5⟩ := h.parts f2 (fun k hk => by
    rcases hk with rfl | hk
    · exact h.lt.1
    · exact (h.ru.typed k hk).1) (fun k hk => by
    rcases hk with rfl | hk
    · exact .inr ⟨_, _, h.blk, .inl rfl⟩
    · obtain ⟨_, _, cells, hc⟩ := h.ru.typed k hk
      exact .inr ⟨_, _, hc, .inr (.inr rfl)⟩)
  refine ⟨k1, ⟨⟨h.book.hg, rfl, h.book.t1, h.book.t2, k1.set 2 v', p3, p4, h.book.ne⟩, h.hn, p1, h.sz, ?_, ?_, p2, h.apart, p5, h.hlen, h.cap⟩, f2⟩
  · refine h.rr.fr f2 (fun b hb e => ?_)
    rcases e with e | e
    · obtain ⟨_, _, cells, hc⟩ := h.rr.typed b hb
      exact typed_ne hc h.blk (by decide) e
    · exact h.rr.ne_row h.ru (by decide) b hb e
  · refine hrow.fr (S := fun k => k = gx) ((Fr.refl (fun k => k = gx) w1).setCell (p := ⟨gx, 2, none⟩) (.inl rfl) v') (fun b hb e => ?_)
    obtain ⟨_, _, cells, hc⟩ := hrow.typed b hb
    exact typed_ne hc k1 (by decide) e
/-- A pair in new blocks is one more. -/
theorem ShC.add (h : ShC w base gx A0 c0 bs vrs vis vl vw n R U P I) (p : Rp) (hp : p.ok w base A0 c0 bs) (B : Nat) (hP : ∀ q ∈ P, q.g < B ∧ q.gv < B) (hB : B ≤ p.g ∧ B ≤ p.gv) :
    ShC w base gx A0 c0 bs vrs vis vl vw n R U (P ++ [p]) I := by
  refine ⟨h.book, h.hn, h.kps, h.sz, h.rr, h.ru, fun q hq => ?_, fun i j q r hi hj hij => ?_, h.src, h.hlen, h.cap⟩
  · rcases List.mem_append.1 hq with hq | hq
    · exact h.ok q hq
    · rw [List.mem_singleton.1 hq]; exact hp
  · have hcase : ∀ (i : Nat) (q : Rp), (P ++ [p])[i]? = some q → (P[i]? = some q ∧ q ∈ P) ∨ (i = P.length ∧ q = p) := by
      intro i q hi
      by_cases hlt : i < P.length
      · rw [List.getElem?_append_left hlt] at hi
        exact .inl ⟨hi, List.mem_of_getElem? hi⟩
      · rw [List.getElem?_append_right (by omega)] at hi
        have h0 : i - P.length = 0 := by
          have := (List.getElem?_eq_some_iff.1 hi).1
          simp at this; omega
        rw [h0] at hi
        exact .inr ⟨by omega, by simpa using hi.symm⟩
    rcases hcase i q hi with ⟨h1, h1m⟩ | ⟨h1, rfl⟩
    · rcases hcase j r hj with ⟨h2, h2m⟩ | ⟨h2, rfl⟩
      · exact h.apart i j q r h1 h2 hij
      · have := hP q h1m; omega
    · rcases hcase j r hj with ⟨h2, h2m⟩ | ⟨h2, rfl⟩
      · have := hP r h2m; omega
      · omega
/-- One pair goes on. -/
theorem ShC.step (h : ShC w base gx A0 c0 bs vrs vis vl vw n R U P I) (i : Nat) (p p' : Rp) (hi : P[i]? = some p) (hg : p'.g = p.g) (hgv : p'.gv = p.gv) (hp' : p'.ok w1 base A0 c0 bs) (hf : Fr p.S w w1) :
    ShC w1 base gx A0 c0 bs vrs vis vl vw n R U (P.set i p') I := by
  have hpm := List.mem_of_getElem? hi
  have hpok := h.ok p hpm
  have hil : i < P.length := (List.getElem?_eq_some_iff.1 hi).1
  have hSb : ∀ k, p.S k → base ≤ k := fun k hk => by
    rcases hk with rfl | rfl
    · exact hpok.hr.hg
    · exact hpok.hu.hg
  have hset : ∀ (j : Nat) (q : Rp), (P.set i p')[j]? = some q → (j = i ∧ q = p') ∨ (j ≠ i ∧ P[j]? = some q) := by
    intro j q hj
    by_cases e : j = i
    · subst e
      rw [List.getElem?_set_self hil] at hj
      exact .inl ⟨rfl, (Option.some.inj hj).symm⟩
    · rw [List.getElem?_set_ne (fun h => e h.symm)] at hj
      exact .inr ⟨e, hj⟩
  have hrow : ∀ k cells t, w.heap[k]? = some (.cells cells t (0, 0)) → t ≠ 112 → t ≠ 117 → ¬ p.S k := by
    intro k cells t hc h1 h2 hk
    rcases hk with rfl | rfl
    · exact typed_ne hc hpok.hr.blk h1 rfl
    · exact typed_ne hc hpok.hu.blk h2 rfl
  refine ⟨h.book.fr hf (hrow _ _ _ h.blk (by decide) (by decide)) (fun b hb => ?_) (fun b hb => ?_), h.hn, h.kps.fr hf (fun i hi b hb => ?_), h.sz, h.rr.fr hf (fun b hb => ?_), h.ru.fr hf (fun b hb => ?_), fun q hq => ?_, fun a b q r ha hb hab => ?_, h.src.go (hf.below hSb (by have := h.lt; omega)), h.hlen, h.cap⟩
  · obtain ⟨_, _, cells, hc⟩ := h.book.rl.typed b hb
    exact hrow _ _ _ hc (by decide) (by decide)
  · obtain ⟨_, _, cells, hc⟩ := h.book.rw_.typed b hb
    exact hrow _ _ _ hc (by decide) (by decide)
  · obtain ⟨cells, hc⟩ := h.kps.typed i hi b hb
    exact hrow _ _ _ hc (by decide) (by decide)
  · obtain ⟨_, _, cells, hc⟩ := h.rr.typed b hb
    exact hrow _ _ _ hc (by decide) (by decide)
  · obtain ⟨_, _, cells, hc⟩ := h.ru.typed b hb
    exact hrow _ _ _ hc (by decide) (by decide)
  · obtain ⟨j, hj, rfl⟩ := List.getElem_of_mem hq
    rcases hset j _ (List.getElem?_eq_getElem hj) with ⟨_, e⟩ | ⟨hne, e⟩
    · rw [e]; exact hp'
    · have hq' := h.ok _ (List.mem_of_getElem? e)
      refine Rp.frame hq' hf (fun k hk hS => ?_) (fun k cells hc => hrow _ _ _ hc (by decide) (by decide)) hSb
      have ha := h.apart j i _ p e hi hne
      rcases hk with rfl | rfl
      · rcases hS with h1 | h1
        · exact ha.1 h1
        · exact typed_ne hq'.hr.blk hpok.hu.blk (by decide) h1
      · rcases hS with h1 | h1
        · exact typed_ne hq'.hu.blk hpok.hr.blk (by decide) h1
        · exact ha.2 h1
  · rcases hset a q ha with ⟨e1, rfl⟩ | ⟨e1, h1⟩
    · rcases hset b r hb with ⟨e2, rfl⟩ | ⟨e2, h2⟩
      · exact absurd (e1.trans e2.symm) hab
      · rw [hg, hgv]
        exact h.apart i b p r hi h2 (fun e => e2 e.symm)
    · rcases hset b r hb with ⟨e2, rfl⟩ | ⟨e2, h2⟩
      · rw [hg, hgv]
        exact h.apart a i q p h1 hi e1
      · exact h.apart a b q r h1 h2 hab
theorem ShC.own_lt (h : ShC w base gx A0 c0 bs vrs vis vl vw n R U P I) : ∀ p ∈ P, ∀ k, rOwn p.A p.c = some k → k < w.heap.size := fun p hp k hk => ((h.ok p hp).hr.own_lt k hk).2
/-- A room of the call's own is written. -/
theorem shelf_room {F : Nat} {l : List Value} (h : ShC w base gx A0 c0 bs vrs vis vl vw n R U P I) (hf : Fr (fun k => k = F) w w1) (hF : base ≤ F) (hx : base ≤ w.heap.size) (hP : ∀ p ∈ P, ∀ k, rOwn p.A p.c = some k → k ≠ F) (hI : ∀ i ∈ I, ∀ k, (i.l.ownBlock = some k ∨ i.was.ownBlock = some k) → k ≠ F) (hk : Blk w F l 5) :
    ShC w1 base gx A0 c0 bs vrs vis vl vw n R U P I := by
  have hne : ∀ k cells t, w.heap[k]? = some (.cells cells t (0, 0)) → t ≠ 5 → ¬ k = F := fun k cells t hc ht => typed_ne hc hk ht
  have hb : ∀ k, k = F → base ≤ k := fun k e => by omega
  refine ⟨h.book.fr hf (hne _ _ _ h.blk (by decide)) (fun b hb => ?_) (fun b hb => ?_), h.hn, h.kps.fr hf (fun i hi b hb => hI i hi b hb), h.sz, h.rr.fr hf (fun b hb => ?_), h.ru.fr hf (fun b hb => ?_), fun p hp => ⟨(h.ok p hp).hr.fr hf (hne _ _ _ (h.ok p hp).hr.blk (by decide)) (hP p hp), (h.ok p hp).hu.fr hf (hne _ _ _ (h.ok p hp).hu.blk (by decide)) hb⟩, h.apart, h.src.go (hf.below hb hx), h.hlen, h.cap⟩
  · obtain ⟨_, _, cells, hc⟩ := h.book.rl.typed b hb
    exact hne _ _ _ hc (by decide)
  · obtain ⟨_, _, cells, hc⟩ := h.book.rw_.typed b hb
    exact hne _ _ _ hc (by decide)
  · obtain ⟨_, _, cells, hc⟩ := h.rr.typed b hb
    exact hne _ _ _ hc (by decide)
  · obtain ⟨_, _, cells, hc⟩ := h.ru.typed b hb
    exact hne _ _ _ hc (by decide)
/-- The book has kept one more list. -/
theorem ShC.kept {vl' vw' : Value} {n' : Int} (h : ShC w base gx A0 c0 bs vrs vis vl vw n R U P I) (hC : BookC w1 base gx 3 75 [.slice A0 bs.length c0, vrs, vis] [] vl' vw' (lsc I') (wsc I') n') (hn' : I64 n') (hK : KpsOk w1 base I') (hsz : I'.length ≤ 4000) (hF : Fr (bookS w base gx) w w1) :
    ShC w1 base gx A0 c0 bs vrs vis vl' vw' n' R U P I' := by
  have hbk : ∀ k cells t, w.heap[k]? = some (.cells cells t (0, 0)) → t ≠ 75 → t ≠ 22 → ¬ bookS w base gx k := by
    intro k cells t hc h1 h2 hk
    rcases hk with rfl | ⟨_, cells', hc'⟩
    · exact typed_ne hc h.blk h1 rfl
    · exact typed_ne hc hc' h2 rfl
  have hb : ∀ k, bookS w base gx k → base ≤ k := fun k hk => by
    rcases hk with rfl | hk
    · exact h.lt.1
    · exact hk.1
  refine ⟨hC, hn', hK, hsz, h.rr.fr hF (fun b hb => ?_), h.ru.fr hF (fun b hb => ?_), fun p hp => p.frame (h.ok p hp) hF (fun k hk => ?_) (fun k cells hc => hbk _ _ _ hc (by decide) (by decide)) hb, h.apart, h.src.go (hF.below hb (by have := h.lt; omega)), h.hlen, h.cap⟩
  · obtain ⟨_, _, cells, hc⟩ := h.rr.typed b hb
    exact hbk _ _ _ hc (by decide) (by decide)
  · obtain ⟨_, _, cells, hc⟩ := h.ru.typed b hb
    exact hbk _ _ _ hc (by decide) (by decide)
  · rcases hk with rfl | rfl
    · exact hbk _ _ _ (h.ok p hp).hr.blk (by decide) (by decide)
    · exact hbk _ _ _ (h.ok p hp).hu.blk (by decide) (by decide)
end
end Go.Proofs.Ythdjddpomaendaa.B
