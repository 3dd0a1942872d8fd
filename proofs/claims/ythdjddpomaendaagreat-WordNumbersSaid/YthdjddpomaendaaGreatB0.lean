/- Words for the walks of layer 1: what lies in a block, what a slice reads, what stays. -/
import Derived.Test.YthdjddpomaendaaGreatProg
import Derived.Below
import Derived.Deep.Draws
import Derived.Deep.AppendLies
import Derived.Maps.AppendAt
import Derived.OwnWalk
import Derived.Laws.BytesArg
import Derived.Laws.MakeOwn
import Derived.Laws.OwnMore
import Derived.Deep.OwnRows
import Derived.Tactics
import Derived.Lib.ConvBytes
import Derived.Laws.Slices
import Derived.WalkKit
import Derived.KernelRfl
import Derived.RowKit3
import Derived.Deep.LoopGhost
import Derived.Deep.QuietTactic
import Derived.BigQuiet
import Derived.WideLaws
import Derived.Deep.DeepCutAuto
import Derived.Deep.CutBlock
import Derived.Deep.RegionHeld3
import Derived.Laws.Rows
import Derived.Lib.AppendStr
import Derived.ArgAppend
import Derived.Laws.IdiomCopy
import Derived.Laws.CopyOwn
import Derived.OrdersHeld
import Derived.Laws.BitsLemmas
import Derived.RowKit
import Derived.Lib.Hide
import Derived.WalkSpells
import Derived.Deep.DeepMust
set_option linter.unusedVariables false
set_option linter.unusedSimpArgs false
namespace Go.Proofs.YthdjddpomaendaaGreat.B
open Go.RowKit

/-- A byte as the program holds it. -/
abbrev bv (b : UInt8) : Value := .int .u8 (b.toNat : Int)
def bvs (l : List UInt8) : List Value := l.map bv
theorem bvs_length (l : List UInt8) : (bvs l).length = l.length := by simp [bvs]

/-- Block g of w: these cells, of element type t, none of them frozen. -/
def Blk (w : World) (g : Nat) (l : List Value) (t : TypeId) : Prop := w.heap[g]? = some (.cells l.toArray t (0, 0))
section
variable {w w' : World} {g : Nat} {l : List Value} {t : TypeId}
theorem Blk.lt (h : Blk w g l t) : g < w.heap.size := (Array.getElem?_eq_some_iff.1 h).1
theorem Blk.cell (h : Blk w g l t) (i : Nat) (u : Value) (hu : l[i]? = some u) : w.cell? ⟨g, i, none⟩ = some u := by
  unfold Blk at h
  simp [World.cell?, h, hu]
theorem Blk.free (h : Blk w g l t) (i : Nat) : w.frozen? ⟨g, i, none⟩ = false := by
  unfold Blk at h
  simp [World.frozen?, h]
theorem Blk.set (h : Blk w g l t) (i : Nat) (u : Value) : Blk (w.setCell ⟨g, i, none⟩ u) g (l.set i u) t := by
  unfold Blk at *
  simp [World.setCell, Array.getElem?_modify, h]
theorem Blk.of_eq (h : Blk w g l t) (he : w'.heap[g]? = w.heap[g]?) : Blk w' g l t := he.trans h
theorem Blk.below {B : Nat} (h : Blk w g l t) (hb : Below B w w') (hg : g < B) : Blk w' g l t := h.of_eq (hb.block g hg)
theorem Blk.drewN (h : Blk w g l t) (n : Nat) : Blk (w.drewN n) g l t := h
theorem Blk.alloc (h : Blk w g l t) (o : Obj) : Blk (w.alloc o) g l t := h.of_eq (Below.heap_alloc w o g h.lt)
theorem Blk.new (w : World) (l : List Value) (t : TypeId) : Blk (w.alloc (.cells l.toArray t)) w.heap.size l t := heap_alloc_new w _
theorem Blk.other (h : Blk w g l t) {p : Addr} (hne : g ≠ p.block) (u : Value) : Blk (w.setCell p u) g l t := h.of_eq (Below.heap_setCell w p u g hne)
end

/-- What a slice of one-cell elements reads: its address, its length, its elements. -/
def Rd (w : World) (A : Option Addr) (n : Nat) (vs : List Value) : Prop :=
  vs.length = n ∧ n ≤ 9223372036854775807 ∧ (0 < n → ∃ ad, A = some ad ∧ ∀ j u, vs[j]? = some u → w.cell? (ad.add j) = some u)
theorem add_lit (g off j : Nat) : (⟨g, off, none⟩ : Addr).add j = ⟨g, off + j, none⟩ := by unfold Addr.add; split <;> simp_all
section
variable {w w' : World} {A : Option Addr} {n : Nat} {vs : List Value}
theorem Rd.below {B : Nat} (h : Rd w A n vs) (hb : Below B w w') (hB : w.heap.size ≤ B) : Rd w' A n vs :=
  ⟨h.1, h.2.1, fun hn => by
    obtain ⟨ad, e, hc⟩ := h.2.2 hn
    refine ⟨ad, e, fun j u hu => ?_⟩
    have hlt := World.block_lt_of_cell? w _ (hc j u hu)
    exact (hb.cell (by omega)).trans (hc j u hu)⟩
theorem Rd.drewN (h : Rd w A n vs) (m : Nat) : Rd (w.drewN m) A n vs := h
theorem Rd.at_ (h : Rd w A n vs) (i : Nat) (u : Value) (hu : vs[i]? = some u) : ∃ ad, A = some ad ∧ w.cell? (ad.add i) = some u := by
  have hlt := (List.getElem?_eq_some_iff.1 hu).1
  obtain ⟨ad, e, hc⟩ := h.2.2 (by have := h.1; omega)
  exact ⟨ad, e, hc i u hu⟩
theorem Rd.nil (w : World) (A : Option Addr) : Rd w A 0 [] := ⟨rfl, by omega, fun h => by omega⟩
/-- Cut off behind k. -/
theorem Rd.take (h : Rd w A n vs) (k : Nat) (hk : k ≤ n) : Rd w A k (vs.take k) :=
  ⟨by simp [h.1]; omega, by have := h.2.1; omega, fun hn => by
    obtain ⟨ad, e, hc⟩ := h.2.2 (by omega)
    refine ⟨ad, e, fun j u hu => hc j u ?_⟩
    rw [List.getElem?_take] at hu
    split at hu
    · exact hu
    · cases hu⟩
theorem Rd.alloc (h : Rd w A n vs) (o : Obj) : Rd (w.alloc o) A n vs := h.below ((Below.refl _ w).alloc (Nat.le_refl _) o) (Nat.le_refl _)
/-- The part from off on of a block. -/
theorem Blk.rd {g off : Nat} {l : List Value} {t : TypeId} (h : Blk w g l t) (vs : List Value) (hl : vs.length = n) (hm : n ≤ 9223372036854775807) (hv : ∀ j u, vs[j]? = some u → l[off + j]? = some u) : Rd w (some ⟨g, off, none⟩) n vs :=
  ⟨hl, hm, fun _ => ⟨_, rfl, fun j u hu => by rw [add_lit]; exact h.cell _ _ (hv j u hu)⟩⟩
end

theorem below_alloc {w W : World} (h : Below w.heap.size w W) (o : Obj) : Below w.heap.size w (W.alloc o) := h.alloc h.size o
theorem below_drewN {B : Nat} {w W : World} (h : Below B w W) (n : Nat) : Below B w (W.drewN n) := ⟨h.os, h.tape, h.output, h.size, h.block⟩

theorem info5 : (Tryz.prog.info? 5).map (fun i => (i.zero, i.size, i.bytes)) = some (some (.int .u8 0), 1, 1) := by kernel_rfl
theorem size5 : (Tryz.prog.info? 5).map (·.size) = some 1 := by kernel_rfl

section
variable {P : Program} {ops : Array Oper} {rest : List Oper} {o : Oper} {a : Act} {Q : Exit → Act → World → Prop} {w : World}
/-- The operation is this builtin. -/
theorem at_builtin_ {b : Builtin} {xs : Array Operand} {ts : Array TypeId} (_ho : o.op = .call { callee := .builtin b, args := xs, argTypes := ts }) (h : wpList P ops Q (o :: rest) a w) : wpList P ops Q (o :: rest) a w := h
/-- The operation is a call of this function. -/
theorem at_fn_ {f : FuncId} {xs : Array Operand} {ts : Array TypeId} (_ho : o.op = .call { callee := .value (.func f), args := xs, argTypes := ts }) (h : wpList P ops Q (o :: rest) a w) : wpList P ops Q (o :: rest) a w := h
end

theorem oneCell_bvs (l : List UInt8) : ∀ v ∈ bvs l, v.oneCell' = true := by
  intro v hv
  simp only [bvs, List.mem_map] at hv
  obtain ⟨b, _, rfl⟩ := hv
  rfl

section
variable {ops : Array Oper} {rest : List Oper} {o : Oper} {a : Act} {Q : Exit → Act → World → Prop} {w : World}
/-- copy(dst, src): bytes, dst the beginning of a block of the call's own. -/
theorem copy_u8 (hgd : o.guard = none) (d s : Operand) (ho : o.op = .call { callee := .builtin .copy, args := #[d, s], argTypes := #[23, 23] })
    (g dLen dCap : Nat) (A : Option Addr) (n c : Nat) (xs old : List UInt8) (hd : a.eval d = .slice (some ⟨g, 0, none⟩) dLen dCap) (hs : a.eval s = .slice A n c)
    (hblk : Blk w g (bvs old) 5) (hle : n ≤ dLen) (hfit : n ≤ old.length) (hr : Rd w A n (bvs xs)) (B : Nat) (w0 : World) (hb : Below B w0 w) (hBg : B ≤ g)
    (h : ∀ w', Blk w' g (bvs (xs ++ old.drop n)) 5 → Below B w0 w' → wpList Tryz.prog ops Q rest (a.put o.dst (goInt n)) w') :
    wpList Tryz.prog ops Q (o :: rest) a w := by
  have hn : xs.length = n := by have := hr.1; rwa [bvs_length] at this
  subst hn
  refine wpList_copy_splice hgd d s 23 23 ho 5 Tryz.underlying23 size5 (some ⟨g, 0, none⟩) A dLen dCap xs.length c hd hs g 0 (bvs old) 5 hblk (bvs xs) (by rw [bvs_length]; exact (Nat.min_eq_left hle).symm) (fun h0 => ⟨rfl, hr.2.2 (by rwa [bvs_length] at h0)⟩) (by simp [bvs]; exact hfit) (oneCell_bvs xs) B w0 hb hBg ?_
  intro w' hw' hb'
  have e : splice (bvs old) 0 (bvs xs) = bvs (xs ++ old.drop xs.length) := by simp [splice, bvs, List.map_drop]
  rw [e] at hw'
  rw [bvs_length]
  exact h w' hw' hb'
end

theorem make_u8 (m : Nat) (hn : m ≤ 281474976710656) (x : Int) (hx : x = (m : Int)) : ∀ W : World, (Instr.makeSlice 23 (.int .i64 x) (.int .i64 x)).run Tryz.prog W = .ok (.slice (some ⟨W.heap.size, 0, none⟩) m m) (W.alloc (.cells (bvs (List.replicate m 0)).toArray 5)) := by
  intro W
  subst hx
  have h := run_make_row' (P := Tryz.prog) 23 5 (.int .u8 0) 1 Tryz.underlying23 info5 rfl .i64 .i64 m (by omega) (by omega) W
  have e : madeCells #[Value.int .u8 0] m = (bvs (List.replicate m 0)).toArray := by
    apply Array.ext'
    apply List.ext_getElem
    · simp [bvs, madeCells]
    · intro i h1 h2
      simp [bvs, madeCells, Nat.mod_one, bv]
  rw [e] at h
  exact h

/-- The world is the old one, some orders having been drawn. -/
structure Drawn (w w' : World) : Prop where mk :: (out : ∃ n, w' = w.drewN n)
theorem Drawn.refl (w : World) : Drawn w w := ⟨⟨0, rfl⟩⟩
theorem Drawn.step {w w' : World} (h : Drawn w w') (n : Nat) : Drawn w (w'.drewN n) := by
  obtain ⟨m, rfl⟩ := h
  exact ⟨⟨m + n, World.drewN_drewN ..⟩⟩
theorem Drawn.below {w w' : World} (h : Drawn w w') (B : Nat) : Below B w w' := by
  obtain ⟨n, rfl⟩ := h
  exact below_drewN (Below.refl _ _) n
theorem bvs_get (l : List UInt8) (i : Nat) (h : i < l.length) : (bvs l)[i]? = some (bv l[i]) := by simp [bvs, h]
theorem bvs_get' (l : List UInt8) (i : Nat) (b : UInt8) (h : l[i]? = some b) : (bvs l)[i]? = some (bv b) := by simp [bvs, h]
theorem bvs_set (l : List UInt8) (i : Nat) (m : UInt8) : (bvs l).set i (bv m) = bvs (l.set i m) := by simp [bvs, List.map_set]
theorem bvs_take (l : List UInt8) (k : Nat) : bvs (l.take k) = (bvs l).take k := by simp [bvs, List.map_take]
theorem bvs_drop (l : List UInt8) (k : Nat) : bvs (l.drop k) = (bvs l).drop k := by simp [bvs, List.map_drop]
theorem u8_ne_int {a b : UInt8} (h : a ≠ b) : (a.toNat : Int) ≠ (b.toNat : Int) := fun e => h (UInt8.toNat_inj.1 (by omega))
theorem u8_bne {a b : UInt8} (h : a ≠ b) : ((a.toNat : Int) != (b.toNat : Int)) = true := bne_iff_ne.2 (u8_ne_int h)
theorem u8_bne_self (a : UInt8) : ((a.toNat : Int) != (a.toNat : Int)) = false := by simp
theorem ret_bool {a b : Bool} (h : a = b) : Ending.returned (.bool a) = .returned (.bool b) := by rw [h]
theorem ret_int {k : IntKind} {a b : Int} (h : a = b) : Ending.returned (.int k a) = .returned (.int k b) := by rw [h]
theorem take_more {α : Type} {xs ys : List α} {k : Nat} (hx : k < xs.length) (hy : k < ys.length) (h : xs.take k = ys.take k) (he : xs[k] = ys[k]) : xs.take (k + 1) = ys.take (k + 1) := by
  rw [List.take_succ_eq_append_getElem hx, List.take_succ_eq_append_getElem hy, h, he]
theorem take_ne {α : Type} {xs ys : List α} {k : Nat} (hx : k < xs.length) (hy : k < ys.length) (h : ¬ xs[k] = ys[k]) : ¬ xs = ys := by rintro rfl; exact h rfl
theorem Rd.len {w : World} {A : Option Addr} {n : Nat} {xs : List UInt8} (h : Rd w A n (bvs xs)) : xs.length = n := by have := h.1; rwa [bvs_length] at this
theorem Rd.takeb {w : World} {A : Option Addr} {n : Nat} {xs : List UInt8} (h : Rd w A n (bvs xs)) (k : Nat) (hk : k ≤ n) : Rd w A k (bvs (xs.take k)) := by rw [bvs_take]; exact h.take k hk
theorem Rd.byte {w : World} {A : Option Addr} {n : Nat} {xs : List UInt8} (h : Rd w A n (bvs xs)) (i : Nat) (hi : i < xs.length) : ∃ ad, A = some ad ∧ w.cell? (ad.add i) = some (.int .u8 (xs[i].toNat : Int)) := h.at_ i _ (bvs_get xs i hi)
end Go.Proofs.YthdjddpomaendaaGreat.B
