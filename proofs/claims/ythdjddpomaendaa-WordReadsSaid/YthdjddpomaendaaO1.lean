/- Steps (Op): again. -/
import Derived.Test.YthdjddpomaendaaR6
import Derived.Test.YthdjddpomaendaaW3
namespace Go.Proofs.Ythdjddpomaendaa.B
open Go.RowKit
set_option linter.unusedVariables false
set_option linter.unusedSimpArgs false

/-- A step: its numbers, its bytes (and where they lie), its text. -/
theorem numV_lt (z : Nat) (bs : List UInt8) (at_ : Nat) (e : Int) : numV z bs at_ e < 256 ^ z := by
  have h := leNum_lt' ((bs.drop at_).take z)
  have h2 : 256 ^ ((bs.drop at_).take z).length ≤ 256 ^ z := Nat.pow_le_pow_right (by decide) (by simp; omega)
  unfold numV
  split
  · omega
  · exact Nat.pow_pos (by decide)
structure OpV where
  kind : Int
  at_ : Int
  n : Nat
  num : Int
  A : Option Addr
  c : Nat
  p : List UInt8
  s : ByteArray
def OpV.cells (o : OpV) : Array Value := #[.int .i64 o.kind, .int .i64 o.at_, .int .u64 (o.n : Int), .int .i64 o.num, .slice o.A o.p.length o.c, .string o.s]
def OpV.val (o : OpV) : Value := .agg o.cells
structure OpV.Ok (o : OpV) (w : World) : Prop where
  n : o.n < 18446744073709551616
  rd : Rd w o.A o.p.length (bvs o.p)
  c : o.p.length ≤ o.c
  m : o.c ≤ 9223372036854775807
  z : o.s.size ≤ 9223372036854775807
/-- The whole of a step, written into a block. -/
abbrev putOp (W : World) (G : Nat) (o : OpV) : World :=
  (((((W.setCell ⟨G, 0, none⟩ (.int .i64 o.kind)).setCell ⟨G, 1, none⟩ (.int .i64 o.at_)).setCell ⟨G, 2, none⟩ (.int .u64 (o.n : Int))).setCell ⟨G, 3, none⟩ (.int .i64 o.num)).setCell ⟨G, 4, none⟩ (.slice o.A o.p.length o.c)).setCell ⟨G, 5, none⟩ (.string o.s)
theorem putOp_blk {W : World} {G : Nat} {o1 : OpV} (h : Blk W G o1.cells.toList 54) (o : OpV) : Blk (putOp W G o) G o.cells.toList 54 :=
  (((((h.set 0 _).set 1 _).set 2 _).set 3 _).set 4 _).set 5 _
theorem putOp_fr {S : Nat → Prop} {w W : World} {G : Nat} (h : Fr S w W) (hG : S G ∨ w.heap.size ≤ G) (o : OpV) : Fr S w (putOp W G o) :=
  (((((h.setCell (p := ⟨G, 0, none⟩) hG _).setCell (p := ⟨G, 1, none⟩) hG _).setCell (p := ⟨G, 2, none⟩) hG _).setCell (p := ⟨G, 3, none⟩) hG _).setCell (p := ⟨G, 4, none⟩) hG _).setCell (p := ⟨G, 5, none⟩) hG _
theorem op_end {w w2 W : World} {base g : Nat} {A : Option Addr} {c : Nat} {bs : List UInt8} {at_ : Nat} {e : Int} {S : Nat → Prop} (hR : IsR w2 base g A c bs at_ e) (hF : Fr (fun k => k = g) w w2) (hg : g < w.heap.size) (hov : ∀ k, rOwn A c = some k → base ≤ k ∧ k < w.heap.size)
    (hW : Fr (fun k => w.heap.size ≤ k) w2 W) : IsR W base g A c bs at_ e ∧ Fr (fun k => k = g) w W :=
  ⟨hR.fr hW (by omega) (fun k hk h => by have := hov k hk; omega), hF.trans hW (fun i hi => .inr hi)⟩
set_option maxRecDepth 100000 in
theorem results_op {fn : Func} {t : Tmp} (h : fn.results = #[.cell t 54]) (tmps : Array Value) (W : World) (G : Nat) (o : OpV) (ht : tmps.getD t undef = .pointer (some ⟨G, 0, none⟩)) (hk : Blk W G o.cells.toList 54) :
    (results fn tmps).run Try.prog W = .ok o.val W := by
  have d0 := hk.cell 0 _ rfl
  have d1 := hk.cell 1 _ rfl
  have d2 := hk.cell 2 _ rfl
  have d3 := hk.cell 3 _ rfl
  have d4 := hk.cell 4 _ rfl
  have d5 := hk.cell 5 _ rfl
  have ht' : tmps[t]?.getD undef = .pointer (some ⟨G, 0, none⟩) := by simpa using ht
  simp [results, h, ht', go_sem, d0, d1, d2, d3, d4, d5]
  rfl
end Go.Proofs.Ythdjddpomaendaa.B
