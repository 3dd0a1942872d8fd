/- The Writer. -/
import Derived.Test.YthdjddpomaendaaN1
import Derived.Deep.RegionLaw
namespace Go.Proofs.Ythdjddpomaendaa.B
open Go.RowKit
set_option linter.unusedVariables false
set_option linter.unusedSimpArgs false

/-- All but the blocks of S is as it was. -/
structure Fr (S : Nat → Prop) (w w' : World) : Prop where
  os : w'.os = w.os
  tape : w'.tape = w.tape
  output : w'.output = w.output
  size : w.heap.size ≤ w'.heap.size
  block : ∀ k, k < w.heap.size → ¬ S k → w'.heap[k]? = w.heap[k]?
section
variable {S S' : Nat → Prop} {w w1 w2 : World}
theorem Fr.refl (S : Nat → Prop) (w : World) : Fr S w w := ⟨rfl, rfl, rfl, Nat.le_refl _, fun _ _ _ => rfl⟩
theorem Fr.trans (h : Fr S w w1) (k : Fr S' w1 w2) (hs : ∀ i, S' i → S i ∨ w.heap.size ≤ i) : Fr S w w2 :=
  ⟨k.os.trans h.os, k.tape.trans h.tape, k.output.trans h.output, Nat.le_trans h.size k.size, fun i hi hn =>
    (k.block i (Nat.lt_of_lt_of_le hi h.size) (fun h2 => (hs i h2).elim hn (fun h3 => by omega))).trans (h.block i hi hn)⟩
theorem Fr.mono (h : Fr S w w1) (hs : ∀ i, S i → S' i ∨ w.heap.size ≤ i) : Fr S' w w1 :=
  ⟨h.os, h.tape, h.output, h.size, fun i hi hn => h.block i hi (fun h2 => (hs i h2).elim hn (fun h3 => by omega))⟩
theorem Fr.of_below (h : Below w.heap.size w w1) (S : Nat → Prop) : Fr S w w1 := ⟨h.os, h.tape, h.output, h.size, fun i hi _ => h.block i hi⟩
theorem Fr.of_grown {row : Option Nat} (h : w.grownBy w1 row) (hs : ∀ k, row = some k → S k ∨ w.heap.size ≤ k) : Fr S w w1 :=
  ⟨h.os, h.tape, h.output, h.size, fun i hi hn => h.block i hi (fun e => (hs i e.symm).elim hn (fun h3 => by omega))⟩
theorem Fr.below (h : Fr S w w1) {B : Nat} (hs : ∀ k, S k → B ≤ k) (hB : B ≤ w.heap.size) : Below B w w1 :=
  ⟨h.os, h.tape, h.output, h.size, fun i hi => h.block i (by omega) (fun h2 => by have := hs i h2; omega)⟩
theorem Fr.setCell (h : Fr S w w1) {p : Addr} (hp : S p.block ∨ w.heap.size ≤ p.block) (u : Value) : Fr S w (w1.setCell p u) :=
  h.trans (S' := fun k => k = p.block) ⟨rfl, rfl, rfl, by simp [World.setCell], fun k _ hn => Below.heap_setCell _ _ _ _ hn⟩ (fun i hi => by rw [hi]; exact hp)
theorem Fr.alloc (h : Fr S w w1) (o : Obj) : Fr S w (w1.alloc o) := h.trans (Fr.of_below (below_alloc (Below.refl _ _) o) (fun _ => False)) (fun _ h => h.elim)
theorem Fr.drewN (h : Fr S w w1) (n : Nat) : Fr S w (w1.drewN n) := ⟨h.os, h.tape, h.output, h.size, h.block⟩
theorem Blk.fr {g : Nat} {l : List Value} {t : TypeId} (hk : Blk w g l t) (h : Fr S w w1) (hn : ¬ S g) : Blk w1 g l t := hk.of_eq (h.block g hk.lt hn)
theorem Own.fr {base : Nat} {v : Value} {xs : List UInt8} (ho : Own w base v xs) (h : Fr S w w1) (hn : ∀ k, v.ownBlock = some k → ¬ S k) : Own w1 base v xs := by
  refine ⟨ho.1, ?_⟩
  rcases ho.2 with h2 | ⟨g, cap, cur, rfl, hb, hg, r⟩
  · exact .inl h2
  · exact .inr ⟨g, cap, cur, rfl, hb, (h.block g (Array.getElem?_eq_some_iff.1 hg).1 (hn g rfl)).trans hg, r⟩
end

/-- A row of bytes lies in no struct's block. -/
theorem own_ne {w : World} {base g : Nat} {v : Value} {xs : List UInt8} {l : List Value} {t : TypeId} (h : Own w base v xs) (hk : Blk w g l t) (ht : t ≠ 5 := by decide) : some g ≠ v.ownBlock := by
  intro e
  rcases h.2 with ⟨rfl, _⟩ | ⟨g', cap, cur, rfl, _, hg, _⟩
  · simp [Value.ownBlock] at e
  · have : g = g' := by simpa [Value.ownBlock] using e
    subst this
    unfold Blk at hk
    rw [hk] at hg
    injection hg with hg
    injection hg with _ hg
    exact ht hg
/-- One list where nothing was refused, else the other. -/
def okB (e : Int) (a b : List UInt8) : List UInt8 := if e = 0 then a else b
theorem okB_ok (a b : List UInt8) : okB 0 a b = a := rfl
theorem okB_no {e : Int} (h : e ≠ 0) (a b : List UInt8) : okB e a b = b := if_neg h
/-- A Writer at block g: its bytes, in block vb if there is one; its refusal. -/
def IsW (w : World) (base g : Nat) (vb : Option Nat) (bs : List UInt8) (e : Int) : Prop :=
  ∃ A c, (Value.slice A bs.length c).ownBlock = vb ∧ base ≤ g ∧ Blk w g [.slice A bs.length c, .int .i64 e] 108 ∧ Own w base (.slice A bs.length c) bs
/-- What a call on a Writer leaves alone. -/
def FrW (w w' : World) (g : Nat) (vb vb' : Option Nat) : Prop := Fr (fun k => k = g ∨ vb = some k) w w' ∧ (vb' = vb ∨ ∃ b, vb' = some b ∧ w.heap.size ≤ b)
section
variable {w w1 w2 : World} {base g : Nat} {vb vb1 vb2 : Option Nat} {bs : List UInt8} {e : Int} {S : Nat → Prop}
theorem IsW.fr (h : IsW w base g vb bs e) (hf : Fr S w w1) (hg : ¬ S g) (hv : ∀ k, vb = some k → ¬ S k) : IsW w1 base g vb bs e := by
  obtain ⟨A, c, hvb, hb, hk, ho⟩ := h
  exact ⟨A, c, hvb, hb, hk.fr hf hg, ho.fr hf (fun k hk => hv k (hvb ▸ hk))⟩
theorem IsW.lt (h : IsW w base g vb bs e) : g < w.heap.size ∧ base ≤ g ∧ ∀ k, vb = some k → base ≤ k ∧ k < w.heap.size := by
  obtain ⟨A, c, hvb, hb, hk, ho⟩ := h
  exact ⟨hk.lt, hb, fun k hk => ho.base_le k (hvb ▸ hk)⟩
theorem IsW.below (h : IsW w base g vb bs e) (hb : Below w.heap.size w w1) : IsW w1 base g vb bs e := by
  refine h.fr (Fr.of_below hb (fun _ => False)) (fun h => h) (fun _ _ h => h)
theorem FrW.refl (w : World) (g : Nat) (vb : Option Nat) : FrW w w g vb vb := ⟨Fr.refl _ _, .inl rfl⟩
theorem FrW.trans (h : FrW w w1 g vb vb1) (k : FrW w1 w2 g vb1 vb2) (hg : g < w.heap.size) : FrW w w2 g vb vb2 := by
  refine ⟨h.1.trans k.1 (fun i hi => ?_), ?_⟩
  · rcases hi with rfl | hi
    · exact .inl (.inl rfl)
    · rcases h.2 with h2 | ⟨b, h2, h3⟩
      · rw [h2] at hi; exact .inl (.inr hi)
      · rw [h2] at hi
        obtain rfl := Option.some.inj hi
        exact .inr h3
  · rcases k.2 with k2 | ⟨b, k2, k3⟩
    · rw [k2]; exact h.2
    · exact .inr ⟨b, k2, Nat.le_trans h.1.size k3⟩
theorem FrW.below (h : FrW w w1 g vb vb1) {B : Nat} (hg : B ≤ g) (hv : ∀ k, vb = some k → B ≤ k) (hB : B ≤ w.heap.size) : Below B w w1 :=
  h.1.below (fun k hk => by
    rcases hk with rfl | hk
    · exact hg
    · exact hv k hk) hB
end

theorem below_of_drew {w w1 : World} (h : Below w.drew.heap.size w.drew w1) : Below w.heap.size w w1 := ⟨h.os, h.tape, h.output, h.size, h.block⟩
/-- A call of a Go function as one step of a region. -/
theorem goes {P : Program} {ops : Array Oper} {o : Oper} {a : Act} {w : World} {K : Act → World → Prop} {Q : Exit → Act → World → Prop} {E : Prop} {f : FuncId} {fn : Func} {xs : Array Operand} {ts : Array TypeId}
    (hf : P.funcs[f]? = some fn) (hname : (fn.name == "runtime.NumGoroutine") = false) (hb : fn.body.isSome = true) (args : Array Value)
    (hw : Region.wanted o (yielded ops a.tmps) = true) (hop : o.op = .call { callee := .value (.func f), args := xs, argTypes := ts }) (hargs : xs.map a.eval = args)
    (h : Calls P f args w fun e w' => ∃ v, e = .returned v ∧ K (a.put o.dst v) w') : if Region.wanted o (yielded ops a.tmps) = true then Oper.wp P o a w K Q else E := by
  rw [if_pos hw]
  have h1 : fn.name ≠ "runtime.NumGoroutine" := by simpa using hname
  obtain ⟨c, hc⟩ := Option.isSome_iff_exists.1 hb
  have he : (callFunc f args).run P w = .ok (.enter f args) w := by simp [callFunc, hf, h1, hc]
  have hrun : (execOp a.eval o).run P w = .ok (.enter f args) w := by
    unfold execOp
    simp [hop, resolve, Deferred.ofValue, invoke, Act.eval, hargs, he]
  unfold Oper.wp
  rw [hrun, Oper.upon_enter]
  refine h.mono fun e w'' hh => ?_
  obtain ⟨v, rfl, hk⟩ := hh
  exact hk

theorem wclose {w w2 : World} {base g : Nat} {vb : Option Nat} {new : List UInt8} {e : Int} {A2 : Option Addr} {N c2 : Nat} {old : Value} (hbg : base ≤ g) (k2 : Blk w2 g [old, .int .i64 e] 108) (hO2 : Own w2 base (.slice A2 N c2) new) (hN : new.length = N)
    (hfr : Fr (fun k => k = g ∨ vb = some k) w w2) (hat : (Value.slice A2 N c2).ownBlock = vb ∨ ∃ b, (Value.slice A2 N c2).ownBlock = some b ∧ w.heap.size ≤ b) :
    ∃ vb', IsW (w2.setCell ⟨g, 0, none⟩ (.slice A2 N c2)) base g vb' new e ∧ FrW w (w2.setCell ⟨g, 0, none⟩ (.slice A2 N c2)) g vb vb' := by
  subst hN
  have hne := own_ne hO2 k2
  refine ⟨_, ⟨A2, c2, rfl, hbg, k2.set 0 _, ?_⟩, hfr.setCell (.inl (.inl rfl)) _, hat⟩
  exact hO2.fr (S := fun k => k = g) (Fr.setCell (p := ⟨g, 0, none⟩) (Fr.refl (fun k => k = g) w2) (.inl rfl) _) (fun k hk e => hne (by rw [hk, e]))
theorem fresh_or {w w1 : World} {v v' : Value} {vb : Option Nat} (hvb : v.ownBlock = vb) (hs : w.heap.size ≤ w1.heap.size) (h : v'.ownBlock = v.ownBlock ∨ v'.ownBlock = some w1.heap.size) : v'.ownBlock = vb ∨ ∃ b, v'.ownBlock = some b ∧ w.heap.size ≤ b := by
  rcases h with h | h
  · exact .inl (h.trans hvb)
  · exact .inr ⟨_, h, hs⟩

set_option maxHeartbeats 1600000 in
set_option maxRecDepth 100000 in
theorem lay_uint8 (base g : Nat) (vb : Option Nat) (bs : List UInt8) (e : Int) (x : Nat) (w : World) (hx : x < 256) (hW : IsW w base g vb bs e) (hl : bs.length + 8 ≤ 140737488355328) :
    Calls Try.prog 120 #[.pointer (some ⟨g, 0, none⟩), .int .u8 (x : Int)] w fun r w' => r = .returned (.tuple #[]) ∧ ∃ vb', IsW w' base g vb' (okB e (bs ++ leBytes 1 x) bs) e ∧ FrW w w' g vb vb' := by
  obtain ⟨A, c, hvb, hbg, hk, ho⟩ := id hW
  have c0 := hk.cell 0 _ rfl
  have c1 := hk.cell 1 _ rfl
  have f0 := hk.free 0
  by_cases he : e = 0
  · subst he
    rw [okB_ok]
    have HVB := Lib.hid hvb
    clear hvb
    go_enter Try.func120, Try.ntmps120
    go_wp2_with fail
    go_region_law (first
      | (refine goes Try.func132 (by kernel_rfl) rfl #[.slice none 0 0, .int .u8 (x : Int)] rfl rfl (by simp only [List.map_toArray, List.map_cons, List.map_nil]; rfl) ?_; refine (put_uint8 none 0 0 [] x _ hx (Rd.nil _ _) (by omega)).mono ?_; rintro e w1 ⟨A1, cc1, rfl, hO1, hb1⟩; refine ⟨_, rfl, ?_⟩; replace hb1 := below_of_drew hb1; have k1 := hk.below hb1 hk.lt; have o1 := ho.below hb1; have c01 := k1.cell 0 _ rfl; have f01 := k1.free 0)
      | (refine step_app_u8 rfl _ _ rfl base (.slice A bs.length c) bs A1 (0 + 1) cc1 (leBytes 1 x) rfl rfl o1 hO1.rd_ (Nat.le_trans (Nat.le_of_lt (Nat.lt_of_le_of_lt hbg hk.lt)) hb1.size) (bs.length + 1) rfl (by omega) ?_; intro A2 cc2 w2 hO2 hg2 hat2; have k2 := k1.of_eq (hg2.block g k1.lt (own_ne o1 k1)); have c02 := k2.cell 0 _ rfl; have f02 := k2.free 0))
    all_goals
      go_end0
      exact ⟨rfl, wclose hbg k2 hO2 (by simp [leBytes_length]) ((Fr.of_below hb1 _).trans (Fr.of_grown (S := fun k => vb = some k) hg2 (fun k hk => .inl (by rw [← HVB.out]; exact hk))) (fun i hi => .inl (.inr hi))) (fresh_or HVB.out hb1.size hat2)⟩
  · have he0 : (e == 0) = false := beq_eq_false_iff_ne.2 he
    rw [okB_no he]
    go_enter Try.func120, Try.ntmps120
    go_wp2_with fail
    go_end0
    exact ⟨rfl, vb, hW, FrW.refl _ _ _⟩
set_option maxHeartbeats 800000 in
set_option maxRecDepth 100000 in
theorem wByte (base g : Nat) (vb : Option Nat) (bs : List UInt8) (e : Int) (x : Nat) (w : World) (hx : x < 256) (hW : IsW w base g vb bs e) (hl : bs.length + 8 ≤ 140737488355328) :
    Calls Try.prog 95 #[.pointer (some ⟨g, 0, none⟩), .int .u8 (x : Int)] w fun r w' => r = .returned (.tuple #[]) ∧ ∃ vb', IsW w' base g vb' (okB e (bs ++ leBytes 1 x) bs) e ∧ FrW w w' g vb vb' := by
  go_enter Try.func95, Try.ntmps95
  go_wp2_with fail
  refine (lay_uint8 base g vb bs e x w hx hW hl).mono ?_
  rintro r w' ⟨rfl, h⟩
  have H := Lib.hid h
  clear h
  go_wp2_with fail
  go_end0
  exact ⟨rfl, H.out⟩

set_option maxHeartbeats 1600000 in
set_option maxRecDepth 100000 in
theorem lay_uint16 (base g : Nat) (vb : Option Nat) (bs : List UInt8) (e : Int) (x : Nat) (w : World) (hx : x < 65536) (hW : IsW w base g vb bs e) (hl : bs.length + 8 ≤ 140737488355328) :
    Calls Try.prog 121 #[.pointer (some ⟨g, 0, none⟩), .int .u16 (x : Int)] w fun r w' => r = .returned (.tuple #[]) ∧ ∃ vb', IsW w' base g vb' (okB e (bs ++ leBytes 2 x) bs) e ∧ FrW w w' g vb vb' := by
  obtain ⟨A, c, hvb, hbg, hk, ho⟩ := id hW
  have c0 := hk.cell 0 _ rfl
  have c1 := hk.cell 1 _ rfl
  have f0 := hk.free 0
  by_cases he : e = 0
  · subst he
    rw [okB_ok]
    have HVB := Lib.hid hvb
    clear hvb
    go_enter Try.func121, Try.ntmps121
    go_wp2_with fail
    go_region_law (first
      | (refine goes Try.func133 (by kernel_rfl) rfl #[.slice none 0 0, .int .u16 (x : Int)] rfl rfl (by simp only [List.map_toArray, List.map_cons, List.map_nil]; rfl) ?_; refine (put_uint16 none 0 0 [] x _ hx (Rd.nil _ _) (by omega)).mono ?_; rintro e w1 ⟨A1, cc1, rfl, hO1, hb1⟩; refine ⟨_, rfl, ?_⟩; replace hb1 := below_of_drew hb1; have k1 := hk.below hb1 hk.lt; have o1 := ho.below hb1; have c01 := k1.cell 0 _ rfl; have f01 := k1.free 0)
      | (refine step_app_u8 rfl _ _ rfl base (.slice A bs.length c) bs A1 (0 + 2) cc1 (leBytes 2 x) rfl rfl o1 hO1.rd_ (Nat.le_trans (Nat.le_of_lt (Nat.lt_of_le_of_lt hbg hk.lt)) hb1.size) (bs.length + 2) rfl (by omega) ?_; intro A2 cc2 w2 hO2 hg2 hat2; have k2 := k1.of_eq (hg2.block g k1.lt (own_ne o1 k1)); have c02 := k2.cell 0 _ rfl; have f02 := k2.free 0))
    all_goals
      go_end0
      exact ⟨rfl, wclose hbg k2 hO2 (by simp [leBytes_length]) ((Fr.of_below hb1 _).trans (Fr.of_grown (S := fun k => vb = some k) hg2 (fun k hk => .inl (by rw [← HVB.out]; exact hk))) (fun i hi => .inl (.inr hi))) (fresh_or HVB.out hb1.size hat2)⟩
  · have he0 : (e == 0) = false := beq_eq_false_iff_ne.2 he
    rw [okB_no he]
    go_enter Try.func121, Try.ntmps121
    go_wp2_with fail
    go_end0
    exact ⟨rfl, vb, hW, FrW.refl _ _ _⟩
set_option maxHeartbeats 800000 in
set_option maxRecDepth 100000 in
theorem wHalf (base g : Nat) (vb : Option Nat) (bs : List UInt8) (e : Int) (x : Nat) (w : World) (hx : x < 65536) (hW : IsW w base g vb bs e) (hl : bs.length + 8 ≤ 140737488355328) :
    Calls Try.prog 96 #[.pointer (some ⟨g, 0, none⟩), .int .u16 (x : Int)] w fun r w' => r = .returned (.tuple #[]) ∧ ∃ vb', IsW w' base g vb' (okB e (bs ++ leBytes 2 x) bs) e ∧ FrW w w' g vb vb' := by
  go_enter Try.func96, Try.ntmps96
  go_wp2_with fail
  refine (lay_uint16 base g vb bs e x w hx hW hl).mono ?_
  rintro r w' ⟨rfl, h⟩
  have H := Lib.hid h
  clear h
  go_wp2_with fail
  go_end0
  exact ⟨rfl, H.out⟩

set_option maxHeartbeats 1600000 in
set_option maxRecDepth 100000 in
theorem lay_uint32 (base g : Nat) (vb : Option Nat) (bs : List UInt8) (e : Int) (x : Nat) (w : World) (hx : x < 4294967296) (hW : IsW w base g vb bs e) (hl : bs.length + 8 ≤ 140737488355328) :
    Calls Try.prog 84 #[.pointer (some ⟨g, 0, none⟩), .int .u32 (x : Int)] w fun r w' => r = .returned (.tuple #[]) ∧ ∃ vb', IsW w' base g vb' (okB e (bs ++ leBytes 4 x) bs) e ∧ FrW w w' g vb vb' := by
  obtain ⟨A, c, hvb, hbg, hk, ho⟩ := id hW
  have c0 := hk.cell 0 _ rfl
  have c1 := hk.cell 1 _ rfl
  have f0 := hk.free 0
  by_cases he : e = 0
  · subst he
    rw [okB_ok]
    have HVB := Lib.hid hvb
    clear hvb
    go_enter Try.func84, Try.ntmps84
    go_wp2_with fail
    go_region_law (first
      | (refine goes Try.func113 (by kernel_rfl) rfl #[.slice none 0 0, .int .u32 (x : Int)] rfl rfl (by simp only [List.map_toArray, List.map_cons, List.map_nil]; rfl) ?_; refine (put_uint32 none 0 0 [] x _ hx (Rd.nil _ _) (by omega)).mono ?_; rintro e w1 ⟨A1, cc1, rfl, hO1, hb1⟩; refine ⟨_, rfl, ?_⟩; replace hb1 := below_of_drew hb1; have k1 := hk.below hb1 hk.lt; have o1 := ho.below hb1; have c01 := k1.cell 0 _ rfl; have f01 := k1.free 0)
      | (refine step_app_u8 rfl _ _ rfl base (.slice A bs.length c) bs A1 (0 + 4) cc1 (leBytes 4 x) rfl rfl o1 hO1.rd_ (Nat.le_trans (Nat.le_of_lt (Nat.lt_of_le_of_lt hbg hk.lt)) hb1.size) (bs.length + 4) rfl (by omega) ?_; intro A2 cc2 w2 hO2 hg2 hat2; have k2 := k1.of_eq (hg2.block g k1.lt (own_ne o1 k1)); have c02 := k2.cell 0 _ rfl; have f02 := k2.free 0))
    all_goals
      go_end0
      exact ⟨rfl, wclose hbg k2 hO2 (by simp [leBytes_length]) ((Fr.of_below hb1 _).trans (Fr.of_grown (S := fun k => vb = some k) hg2 (fun k hk => .inl (by rw [← HVB.out]; exact hk))) (fun i hi => .inl (.inr hi))) (fresh_or HVB.out hb1.size hat2)⟩
  · have he0 : (e == 0) = false := beq_eq_false_iff_ne.2 he
    rw [okB_no he]
    go_enter Try.func84, Try.ntmps84
    go_wp2_with fail
    go_end0
    exact ⟨rfl, vb, hW, FrW.refl _ _ _⟩
set_option maxHeartbeats 800000 in
set_option maxRecDepth 100000 in
theorem wWord (base g : Nat) (vb : Option Nat) (bs : List UInt8) (e : Int) (x : Nat) (w : World) (hx : x < 4294967296) (hW : IsW w base g vb bs e) (hl : bs.length + 8 ≤ 140737488355328) :
    Calls Try.prog 50 #[.pointer (some ⟨g, 0, none⟩), .int .u32 (x : Int)] w fun r w' => r = .returned (.tuple #[]) ∧ ∃ vb', IsW w' base g vb' (okB e (bs ++ leBytes 4 x) bs) e ∧ FrW w w' g vb vb' := by
  go_enter Try.func50, Try.ntmps50
  go_wp2_with fail
  refine (lay_uint32 base g vb bs e x w hx hW hl).mono ?_
  rintro r w' ⟨rfl, h⟩
  have H := Lib.hid h
  clear h
  go_wp2_with fail
  go_end0
  exact ⟨rfl, H.out⟩

set_option maxHeartbeats 1600000 in
set_option maxRecDepth 100000 in
theorem lay_uint64 (base g : Nat) (vb : Option Nat) (bs : List UInt8) (e : Int) (x : Nat) (w : World) (hx : x < 18446744073709551616) (hW : IsW w base g vb bs e) (hl : bs.length + 8 ≤ 140737488355328) :
    Calls Try.prog 122 #[.pointer (some ⟨g, 0, none⟩), .int .u64 (x : Int)] w fun r w' => r = .returned (.tuple #[]) ∧ ∃ vb', IsW w' base g vb' (okB e (bs ++ leBytes 8 x) bs) e ∧ FrW w w' g vb vb' := by
  obtain ⟨A, c, hvb, hbg, hk, ho⟩ := id hW
  have c0 := hk.cell 0 _ rfl
  have c1 := hk.cell 1 _ rfl
  have f0 := hk.free 0
  by_cases he : e = 0
  · subst he
    rw [okB_ok]
    have HVB := Lib.hid hvb
    clear hvb
    go_enter Try.func122, Try.ntmps122
    go_wp2_with fail
    go_region_law (first
      | (refine goes Try.func134 (by kernel_rfl) rfl #[.slice none 0 0, .int .u64 (x : Int)] rfl rfl (by simp only [List.map_toArray, List.map_cons, List.map_nil]; rfl) ?_; refine (put_uint64 none 0 0 [] x _ hx (Rd.nil _ _) (by omega)).mono ?_; rintro e w1 ⟨A1, cc1, rfl, hO1, hb1⟩; refine ⟨_, rfl, ?_⟩; replace hb1 := below_of_drew hb1; have k1 := hk.below hb1 hk.lt; have o1 := ho.below hb1; have c01 := k1.cell 0 _ rfl; have f01 := k1.free 0)
      | (refine step_app_u8 rfl _ _ rfl base (.slice A bs.length c) bs A1 (0 + 8) cc1 (leBytes 8 x) rfl rfl o1 hO1.rd_ (Nat.le_trans (Nat.le_of_lt (Nat.lt_of_le_of_lt hbg hk.lt)) hb1.size) (bs.length + 8) rfl (by omega) ?_; intro A2 cc2 w2 hO2 hg2 hat2; have k2 := k1.of_eq (hg2.block g k1.lt (own_ne o1 k1)); have c02 := k2.cell 0 _ rfl; have f02 := k2.free 0))
    all_goals
      go_end0
      exact ⟨rfl, wclose hbg k2 hO2 (by simp [leBytes_length]) ((Fr.of_below hb1 _).trans (Fr.of_grown (S := fun k => vb = some k) hg2 (fun k hk => .inl (by rw [← HVB.out]; exact hk))) (fun i hi => .inl (.inr hi))) (fresh_or HVB.out hb1.size hat2)⟩
  · have he0 : (e == 0) = false := beq_eq_false_iff_ne.2 he
    rw [okB_no he]
    go_enter Try.func122, Try.ntmps122
    go_wp2_with fail
    go_end0
    exact ⟨rfl, vb, hW, FrW.refl _ _ _⟩
set_option maxHeartbeats 800000 in
set_option maxRecDepth 100000 in
theorem wLong (base g : Nat) (vb : Option Nat) (bs : List UInt8) (e : Int) (x : Nat) (w : World) (hx : x < 18446744073709551616) (hW : IsW w base g vb bs e) (hl : bs.length + 8 ≤ 140737488355328) :
    Calls Try.prog 97 #[.pointer (some ⟨g, 0, none⟩), .int .u64 (x : Int)] w fun r w' => r = .returned (.tuple #[]) ∧ ∃ vb', IsW w' base g vb' (okB e (bs ++ leBytes 8 x) bs) e ∧ FrW w w' g vb vb' := by
  go_enter Try.func97, Try.ntmps97
  go_wp2_with fail
  refine (lay_uint64 base g vb bs e x w hx hW hl).mono ?_
  rintro r w' ⟨rfl, h⟩
  have H := Lib.hid h
  clear h
  go_wp2_with fail
  go_end0
  exact ⟨rfl, H.out⟩


end Go.Proofs.Ythdjddpomaendaa.B
