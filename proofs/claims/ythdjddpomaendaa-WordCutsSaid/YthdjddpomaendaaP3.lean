/- The walk of WordCuts. Printed by gen_cuts.py. -/
import Derived.Test.YthdjddpomaendaaP1
import Derived.Test.YthdjddpomaendaaP2
import Derived.IntWalk
namespace Go.Proofs.Ythdjddpomaendaa.B
open Go.RowKit
set_option linter.unusedVariables false
set_option linter.unusedSimpArgs false

def intc (L : List Nat) : List (List Value) := L.map fun x => [Value.int .i64 ((x : Nat) : Int)]
theorem intc_length (L : List Nat) : (intc L).length = L.length := by simp [intc]
theorem intc_snoc (L : List Nat) (x : Nat) : intc L ++ [[.int .i64 ((x : Nat) : Int)]] = intc (L ++ [x]) := by simp [intc]
theorem intc_cell {W : World} {base : Nat} {A : Option Addr} {n c : Nat} {L : List Nat} (h : Row W base 3 1 (.slice A n c) (intc L)) (j x : Nat) (hx : L[j]? = some x) : ∃ ad, A = some ad ∧ W.cell? (ad.add j) = some (.int .i64 (x : Int)) := by
  obtain ⟨ad, rfl, _, hc⟩ := h.cell j [.int .i64 (x : Int)] (by simp [intc, hx])
  exact ⟨ad, rfl, by have := hc 0 _ rfl; simpa using this⟩
set_option maxRecDepth 100000 in
theorem infoInt : (Try.prog.info? 3).map (fun i => (i.zero, i.size, i.bytes)) = some (some (.int .i64 0), 1, 8) := by kernel_rfl
theorem c0_laid : laidE ⟨2, 0, 7, 0, none, 0, [], ByteArray.empty⟩ [] 0 = 0 ∧ (laidB ⟨2, 0, 7, 0, none, 0, [], ByteArray.empty⟩ [] 0).length = 2 := by
  constructor <;> decide
/-- Where the laying stands. -/
structure CutC (w W : World) (g : Nat) (vb : Option Nat) (bs : List UInt8) (e : Int) (vo vi : Value) (Ls : List OpV) (Es : List Nat) : Prop where
  ops : Row W w.heap.size 54 6 vo (opc Ls)
  ints : Row W w.heap.size 3 1 vi (intc Es)
  isw : IsW W g g vb bs e
  below : Below w.heap.size w W
theorem CutC.later {w W W' : World} {g : Nat} {vb : Option Nat} {bs : List UInt8} {e : Int} {vo vi : Value} {Ls : List OpV} {Es : List Nat} (h : CutC w W g vb bs e vo vi Ls Es) (hb : Below W.heap.size W W') : CutC w W' g vb bs e vo vi Ls Es :=
  ⟨h.ops.below hb, h.ints.below hb, h.isw.below hb, h.below.trans (hb.mono h.below.size)⟩
theorem CutC.laid {w W W' : World} {g : Nat} {vb vb' : Option Nat} {bs bs' : List UInt8} {e e' : Int} {vo vi : Value} {Ls : List OpV} {Es : List Nat} (h : CutC w W g vb bs e vo vi Ls Es) (hg : w.heap.size ≤ g) (hW : IsW W' g g vb' bs' e') (hF : FrW W W' g vb vb') : CutC w W' g vb' bs' e' vo vi Ls Es :=
  ⟨h.ops.fr hF.1 (row_isW h.ops h.isw (by decide) (by decide)), h.ints.fr hF.1 (row_isW h.ints h.isw (by decide) (by decide)), hW, h.below.trans (hF.below hg (fun b hb => by have := h.isw.lt.2.2 b hb; omega) h.below.size)⟩
theorem CutC.ops' {w W W' : World} {g : Nat} {vb : Option Nat} {bs : List UInt8} {e : Int} {vo vi v' : Value} {Ls Ls' : List OpV} {Es : List Nat} (h : CutC w W g vb bs e vo vi Ls Es) (hr : Row W' w.heap.size 54 6 v' (opc Ls')) (hg : W.grownBy W' vo.ownBlock) : CutC w W' g vb bs e v' vi Ls' Es :=
  ⟨hr, h.ints.fr (S := fun b => vo.ownBlock = some b) (Fr.of_grown hg (fun b hb => .inl hb)) (fun b hb => h.ints.ne_row h.ops (by decide) b hb), isW_row h.ops h.isw (by decide) (by decide) hg,
   h.below.trans ((Fr.of_grown (S := fun b => w.heap.size ≤ b) hg (fun b hb => .inl (h.ops.typed b hb).1)).below (fun b hb => hb) h.below.size)⟩
theorem CutC.ints' {w W W' : World} {g : Nat} {vb : Option Nat} {bs : List UInt8} {e : Int} {vo vi v' : Value} {Ls : List OpV} {Es Es' : List Nat} (h : CutC w W g vb bs e vo vi Ls Es) (hr : Row W' w.heap.size 3 1 v' (intc Es')) (hg : W.grownBy W' vi.ownBlock) : CutC w W' g vb bs e vo v' Ls Es' :=
  ⟨h.ops.fr (S := fun b => vi.ownBlock = some b) (Fr.of_grown hg (fun b hb => .inl hb)) (fun b hb => h.ops.ne_row h.ints (by decide) b hb), hr, isW_row h.ints h.isw (by decide) (by decide) hg,
   h.below.trans ((Fr.of_grown (S := fun b => w.heap.size ≤ b) hg (fun b hb => .inl (h.ints.typed b hb).1)).below (fun b hb => hb) h.below.size)⟩

theorem cut_cells {w W : World} {g : Nat} {vb : Option Nat} {bs : List UInt8} {e : Int} {vo : Value} {bs0 : List UInt8} {Ls : List OpV} {Es : List Nat} {ad ade : Addr} {q ci k : Nat} {L : List OpV} {o : OpV} (h : CutC w W g vb bs e vo (.slice (some ade) (q + 1) ci) Ls Es) (hL : OpsAt w (some ad) L) (ho : L[k]? = some o) (hS : CutS w Ls Es bs0) (hq : Es.length = q + 1) :
    W.cell? (ad.add (k * 6)) = some (.int .i64 o.kind) ∧ W.cell? ⟨(ad.add (k * 6)).block, (ad.add (k * 6)).off + 1, none⟩ = some (.int .i64 o.at_) ∧ W.cell? ⟨(ad.add (k * 6)).block, (ad.add (k * 6)).off + 2, none⟩ = some (.int .u64 (o.n : Int)) ∧ W.cell? ⟨(ad.add (k * 6)).block, (ad.add (k * 6)).off + 3, none⟩ = some (.int .i64 o.num) ∧ W.cell? ⟨(ad.add (k * 6)).block, (ad.add (k * 6)).off + 4, none⟩ = some (.slice o.A o.p.length o.c) ∧ W.cell? ⟨(ad.add (k * 6)).block, (ad.add (k * 6)).off + 5, none⟩ = some (.string o.s) ∧ W.cell? (ade.add q) = some (.int .i64 ((bs0.length : Nat) : Int)) := by
  obtain ⟨ad', had, hcell, _, _⟩ := (hL.below h.below) k o ho
  injection had with had
  subst had
  obtain ⟨e0, e1, e2, e3, e4, e5⟩ := op_cells hcell
  obtain ⟨ade', hade, hc⟩ := intc_cell h.ints q bs0.length (hS.last q hq.symm)
  injection hade with hade
  subst hade
  exact ⟨e0, e1, e2, e3, e4, e5, hc⟩

theorem box6 (W : World) (o : OpV) :
    (W.alloc (.cells #[.int .i64 o.kind, .int .i64 o.at_, .int .u64 (o.n : Int), .int .i64 o.num, .slice o.A o.p.length o.c, .string o.s] 54)).cell? ⟨W.heap.size, 0, none⟩ = some (.int .i64 o.kind) ∧ (W.alloc (.cells #[.int .i64 o.kind, .int .i64 o.at_, .int .u64 (o.n : Int), .int .i64 o.num, .slice o.A o.p.length o.c, .string o.s] 54)).cell? ⟨W.heap.size, 1, none⟩ = some (.int .i64 o.at_) ∧ (W.alloc (.cells #[.int .i64 o.kind, .int .i64 o.at_, .int .u64 (o.n : Int), .int .i64 o.num, .slice o.A o.p.length o.c, .string o.s] 54)).cell? ⟨W.heap.size, 2, none⟩ = some (.int .u64 (o.n : Int)) ∧ (W.alloc (.cells #[.int .i64 o.kind, .int .i64 o.at_, .int .u64 (o.n : Int), .int .i64 o.num, .slice o.A o.p.length o.c, .string o.s] 54)).cell? ⟨W.heap.size, 3, none⟩ = some (.int .i64 o.num) ∧ (W.alloc (.cells #[.int .i64 o.kind, .int .i64 o.at_, .int .u64 (o.n : Int), .int .i64 o.num, .slice o.A o.p.length o.c, .string o.s] 54)).cell? ⟨W.heap.size, 4, none⟩ = some (.slice o.A o.p.length o.c) ∧ (W.alloc (.cells #[.int .i64 o.kind, .int .i64 o.at_, .int .u64 (o.n : Int), .int .i64 o.num, .slice o.A o.p.length o.c, .string o.s] 54)).cell? ⟨W.heap.size, 5, none⟩ = some (.string o.s) := by
  have hk : Blk (W.alloc (.cells #[.int .i64 o.kind, .int .i64 o.at_, .int .u64 (o.n : Int), .int .i64 o.num, .slice o.A o.p.length o.c, .string o.s] 54)) W.heap.size o.cells.toList 54 := Blk.new W o.cells.toList 54
  exact ⟨hk.cell 0 _ rfl, hk.cell 1 _ rfl, hk.cell 2 _ rfl, hk.cell 3 _ rfl, hk.cell 4 _ rfl, hk.cell 5 _ rfl⟩
theorem box6_below (W : World) (o : OpV) {w9 : World} (hb : Below ((W.alloc (.cells #[.int .i64 o.kind, .int .i64 o.at_, .int .u64 (o.n : Int), .int .i64 o.num, .slice o.A o.p.length o.c, .string o.s] 54)).drew).heap.size ((W.alloc (.cells #[.int .i64 o.kind, .int .i64 o.at_, .int .u64 (o.n : Int), .int .i64 o.num, .slice o.A o.p.length o.c, .string o.s] 54)).drew) w9) :
    w9.cell? ⟨W.heap.size, 0, none⟩ = some (.int .i64 o.kind) ∧ w9.cell? ⟨W.heap.size, 1, none⟩ = some (.int .i64 o.at_) ∧ w9.cell? ⟨W.heap.size, 2, none⟩ = some (.int .u64 (o.n : Int)) ∧ w9.cell? ⟨W.heap.size, 3, none⟩ = some (.int .i64 o.num) ∧ w9.cell? ⟨W.heap.size, 4, none⟩ = some (.slice o.A o.p.length o.c) ∧ w9.cell? ⟨W.heap.size, 5, none⟩ = some (.string o.s) := by
  have hk : Blk (W.alloc (.cells #[.int .i64 o.kind, .int .i64 o.at_, .int .u64 (o.n : Int), .int .i64 o.num, .slice o.A o.p.length o.c, .string o.s] 54)) W.heap.size o.cells.toList 54 := Blk.new W o.cells.toList 54
  have hk9 : Blk w9 W.heap.size o.cells.toList 54 := hk.of_eq (hb.block _ hk.lt)
  exact ⟨hk9.cell 0 _ rfl, hk9.cell 1 _ rfl, hk9.cell 2 _ rfl, hk9.cell 3 _ rfl, hk9.cell 4 _ rfl, hk9.cell 5 _ rfl⟩
/-- Where the reading stands. -/
structure CutR (w W : World) (B g : Nat) (A : Option Addr) (c : Nat) (bs : List UInt8) (at_ : Nat) (e : Int) (vo vi : Value) (Ls : List OpV) (Es : List Nat) : Prop where
  ops : Row W w.heap.size 54 6 vo (opc Ls)
  ints : Row W w.heap.size 3 1 vi (intc Es)
  r : IsR W B g A c bs at_ e
  below : Below w.heap.size w W
theorem CutR.later {w W W' : World} {B g : Nat} {A : Option Addr} {c : Nat} {bs : List UInt8} {at_ : Nat} {e : Int} {vo vi : Value} {Ls : List OpV} {Es : List Nat} (h : CutR w W B g A c bs at_ e vo vi Ls Es) (hb : Below W.heap.size W W') : CutR w W' B g A c bs at_ e vo vi Ls Es :=
  ⟨h.ops.below hb, h.ints.below hb, h.r.below hb, h.below.trans (hb.mono h.below.size)⟩
theorem CutR.again {w W W' : World} {B g : Nat} {A : Option Addr} {c : Nat} {bs : List UInt8} {at_ at' : Nat} {e e' : Int} {vo vi : Value} {Ls : List OpV} {Es : List Nat} (h : CutR w W B g A c bs at_ e vo vi Ls Es) (hg : w.heap.size ≤ g) (hR : IsR W' B g A c bs at' e') (hF : Fr (fun k => k = g) W W') : CutR w W' B g A c bs at' e' vo vi Ls Es :=
  ⟨h.ops.fr hF (fun b hb e => h.ops.ne_blk h.r.blk (by decide) (by rw [hb, e])), h.ints.fr hF (fun b hb e => h.ints.ne_blk h.r.blk (by decide) (by rw [hb, e])), hR, h.below.trans (hF.below (fun k hk => by rw [hk]; exact hg) h.below.size)⟩
theorem cutr_cells {w W : World} {B g : Nat} {A : Option Addr} {c : Nat} {bs : List UInt8} {at_ : Nat} {e : Int} {Ls : List OpV} {Es : List Nat} {ad ade : Addr} {nL c4 nE ci j x : Nat} {o : OpV} (h : CutR w W B g A c bs at_ e (.slice (some ad) nL c4) (.slice (some ade) nE ci) Ls Es) (ho : Ls[j]? = some o) (hx : Es[j]? = some x) :
    W.cell? (ad.add (j * 6)) = some (.int .i64 o.kind) ∧ W.cell? ⟨(ad.add (j * 6)).block, (ad.add (j * 6)).off + 1, none⟩ = some (.int .i64 o.at_) ∧ W.cell? ⟨(ad.add (j * 6)).block, (ad.add (j * 6)).off + 2, none⟩ = some (.int .u64 (o.n : Int)) ∧ W.cell? ⟨(ad.add (j * 6)).block, (ad.add (j * 6)).off + 3, none⟩ = some (.int .i64 o.num) ∧ W.cell? ⟨(ad.add (j * 6)).block, (ad.add (j * 6)).off + 4, none⟩ = some (.slice o.A o.p.length o.c) ∧ W.cell? ⟨(ad.add (j * 6)).block, (ad.add (j * 6)).off + 5, none⟩ = some (.string o.s) ∧ W.cell? (ade.add j) = some (.int .i64 ((x : Nat) : Int)) := by
  obtain ⟨e0, e1, e2, e3, e4, e5⟩ := row_cells h.ops ho
  obtain ⟨ade', hade, hc⟩ := intc_cell h.ints j x hx
  injection hade with hade
  subst hade
  exact ⟨e0, e1, e2, e3, e4, e5, hc⟩

set_option maxHeartbeats 12800000 in
set_option maxRecDepth 100000 in
theorem cuts_walk (As : Option Addr) (m cs : Nat) (L : List OpV) (x : Int) (w : World) (hx0 : -9223372036854775808 ≤ x) (hx1 : x ≤ 9223372036854775807) (hL : OpsAt w As L) (hm : L.length = m) (hcs : m ≤ cs) (hmm : m ≤ 9223372036854775807) :
    Calls Try.prog 11 #[.slice As m cs, .int .i64 x] w fun r w' => r = .returned (.bool true) ∧ Below w.heap.size w w' := by
  have HM := Lib.hid hm
  clear hm
  go_enter Try.func11, Try.ntmps11
  go_wp2_with fail
  refine (sbeyond_ As m cs L _ hL HM.out hcs hmm).mono ?_
  rintro r w1 ⟨b, rfl, hb, hB1⟩
  cases b with
  | true =>
    go_wp2_with fail
    go_ret
    exact ⟨rfl, hB1⟩
  | false =>
    have htot := hb rfl
    have HT := Lib.hid htot
    clear hb htot
    go_wp2_with fail
    refine (newWriter _).mono ?_
    rintro r w2 ⟨rfl, hW2, hb2⟩
    have hB2 : Below w.heap.size w w2 := hB1.trans (hb2.mono hB1.size)
    have hgs := hB1.size
    generalize hg2 : w1.heap.size = g at *
    clear hb2 hB1 hg2
    go_wp2_with fail
    refine (laid_ g g none [] 0 _ hW2 ⟨2, 0, 7, 0, none, 0, [], ByteArray.empty⟩ (by decide) (by decide) (Rd.nil _ _)).mono ?_
    rintro r w3 ⟨rfl, vb3, hW3, hF3⟩
    have hE0 := c0_laid.1
    have hl0 := c0_laid.2
    rw [hE0] at hW3 ⊢
    have hB3 : Below w.heap.size w w3 := hB2.trans (hF3.below hgs (fun k hk => by cases hk) hB2.size)
    have HC0 : Hid (CutS w [⟨2, 0, 7, 0, none, 0, [], ByteArray.empty⟩] [2] (laidB ⟨2, 0, 7, 0, none, 0, [], ByteArray.empty⟩ [] 0)) := Lib.hid (by
      have h := CutS.snoc (w := w) (Ls := []) (Es := []) (bs := []) ⟨rfl, fun k o h => by simp at h, by simp, rfl, fun i x h => by simp at h, fun q h => by simp at h⟩ ⟨2, 0, 7, 0, none, 0, [], ByteArray.empty⟩ hE0 (by rw [hl0]; decide) ⟨by decide, Rd.nil _ _, by decide, by decide, by decide⟩
      rw [hl0] at h
      exact h)
    generalize hbs0 : laidB ⟨2, 0, 7, 0, none, 0, [], ByteArray.empty⟩ [] 0 = bs0 at *
    clear hF3 hB2 hW2 hE0 hbs0
    go_wp2_with fail
    refine (wLen g g vb3 bs0 0 _ hW3).mono ?_
    rintro r w4 ⟨rfl, rfl⟩
    have hl0' : (bs0.length : Int) = 2 := by omega
    rw [hl0']
    have hrow0 := Row.lit w4 w.heap.size 54 6 (opc [⟨2, 0, 7, 0, none, 0, [], ByteArray.empty⟩]) (by simp [opc]; rfl) hB3.size (by decide)
    have hint0 := Row.lit (w4.alloc (.cells (opc [⟨2, 0, 7, 0, none, 0, [], ByteArray.empty⟩]).flatten.toArray 54)) w.heap.size 3 1 (intc [2]) (by simp [intc]) (below_alloc hB3 _).size (by decide)
    have hb6 := below_alloc (below_alloc (Below.refl _ w4) (.cells (opc [⟨2, 0, 7, 0, none, 0, [], ByteArray.empty⟩]).flatten.toArray 54)) (.cells (intc [2]).flatten.toArray 3)
    have HC : Hid (CutC w ((w4.alloc (.cells (opc [⟨2, 0, 7, 0, none, 0, [], ByteArray.empty⟩]).flatten.toArray 54)).alloc (.cells (intc [2]).flatten.toArray 3)) g vb3 bs0 0 (.slice (some ⟨w4.heap.size, 0, none⟩) 1 1) (.slice (some ⟨w4.heap.size + 1, 0, none⟩) 1 1) [⟨2, 0, 7, 0, none, 0, [], ByteArray.empty⟩] [2]) :=
      Lib.hid ⟨hrow0.below (below_alloc (Below.refl _ _) _), by simpa [intc_length] using hint0, hW3.below hb6, hB3.trans (hb6.mono hB3.size)⟩
    have HL0 := Lib.hid hl0
    clear hl0 hl0' hW3 hrow0 hint0 hb6 hB3
    go_wp2_with fail
    go_loopw [6, 7, 8] (fun vo vi i wr => ∃ k vb bs e Ls Es, k ≤ m ∧ i = .int .i64 (k : Int) ∧ Hid (CutC w wr g vb bs e vo vi Ls Es) ∧ bs.length ≤ 4 + total (L.take k) ∧ Ls.length ≤ 1 + k ∧ 1 ≤ Ls.length ∧ Hid (CutS w Ls Es bs)) (fun _ _ i _ => m - (intOf i).toNat)
    case atStart => exact ⟨0, vb3, bs0, 0, [⟨2, 0, 7, 0, none, 0, [], ByteArray.empty⟩], [2], Nat.zero_le _, rfl, HC, by rw [HL0.out]; omega, by simp, by simp, HC0⟩
    case round =>
      clear HC HL0 HC0
      obtain ⟨k, vb, bs, e, Ls, Es, hk, rfl, HC, hbl, hll, hl1, HS⟩ := hrel
      by_cases hlt : k < m
      · obtain ⟨o, ho⟩ : ∃ o, L[k]? = some o := ⟨_, List.getElem?_eq_getElem (by rw [HM.out]; exact hlt)⟩
        obtain ⟨ad, rfl, hcell, hok, hblk⟩ := (hL.below HC.out.below) k o ho
        obtain ⟨e0, e1, e2, e3, e4, e5⟩ := op_cells hcell
        have hts := total_succ L k o ho
        have htk := total_le L (k + 1)
        have htt := HT.out
        have hkl := total_ge L k (by have := HM.out; omega)
        have hbb : bs.length + o.p.length + o.s.size + 4104 ≤ 140737488351232 := by omega
        have hll2 : Ls.length ≤ 1000000 := by omega
        have HBL := Lib.hid (fun (l : List UInt8) (hl : l.length ≤ 4097 + o.p.length + o.s.size) => (by rw [List.length_append, hts]; omega : (bs ++ l).length ≤ 4 + total (L.take (k + 1))))
        have HBL3 := Lib.hid (show bs.length ≤ 4 + total (L.take (k + 1)) by omega)
        have HOK : Hid (o.Ok wr) := Lib.hid hok
        obtain ⟨lx, hlx, hlx2⟩ := laid_ext o bs e
        have HLX := Lib.hid (And.intro hlx hlx2)
        obtain ⟨q, hq⟩ : ∃ q, Es.length = q + 1 := ⟨Es.length - 1, by have := HS.out.len; omega⟩
        obtain ⟨Ai, ci, hvi, hci⟩ := HC.out.ints.shape
        rw [intc_length, hq] at hvi hci
        subst hvi
        obtain ⟨ade, hade, hec⟩ := intc_cell HC.out.ints q bs.length (HS.out.last q hq.symm)
        subst hade
        have hi0 : (0 : Int) ≤ (k : Int) := by omega
        have hi1 : (k : Int) < (m : Int) := by omega
        have hq0 : (0 : Int) ≤ (q : Int) := by omega
        have hq1 : (q : Int) < (q : Int) + 1 := by omega
        have hqm : Es.length ≤ 1000000 := by have := HS.out.len; omega
        have HQ := Lib.hid hq
        have HCD : Hid (CutC w wr.drew g vb bs e _ _ Ls Es) := Lib.hid (HC.out.later (below_drewN (Below.refl _ wr) 1))
        have HRD : Hid (Rd wr.drew o.A o.p.length (bvs o.p)) := Lib.hid (hok.rd.drewN 1)
        clear hcell hok hts htk htt hkl hblk hbl hlx hlx2 hq HC
        have wq2 : IntKind.i64.wrap (q : Int) = (q : Int) := IntWalk.i64_in _ (by have := HQ.out; omega)
        have wq1 : IntKind.i64.wrap ((q : Int) + 1 - 1) = (q : Int) := by rw [Int.add_sub_cancel]; exact wq2
        by_cases hE : laidE o bs e = 0
        · have he : e = 0 := Classical.byContradiction fun hne => hne (by rw [(laid_no o bs e hne).2] at hE; exact hE)
          subst he
          have HE := Lib.hid hE
          obtain ⟨bs', hbs'⟩ : ∃ bs', laidB o bs 0 = bs' := ⟨_, rfl⟩
          have HB := Lib.hid hbs'
          clear hE hbs'
          by_cases hgr : bs.length < bs'.length
          · have t1 : decide ((bs.length : Int) < (bs'.length : Int)) = true := decide_eq_true (by omega)
            have t2 : decide (bs.length < bs'.length) = true := decide_eq_true hgr
            go_wp2_with fail
            refine wp_region_held_drew (S := (fun w' => w'.cell? (ad.add (k * 6)) = some (.int .i64 o.kind) ∧ w'.cell? ⟨(ad.add (k * 6)).block, (ad.add (k * 6)).off + 1, none⟩ = some (.int .i64 o.at_) ∧ w'.cell? ⟨(ad.add (k * 6)).block, (ad.add (k * 6)).off + 2, none⟩ = some (.int .u64 (o.n : Int)) ∧ w'.cell? ⟨(ad.add (k * 6)).block, (ad.add (k * 6)).off + 3, none⟩ = some (.int .i64 o.num) ∧ w'.cell? ⟨(ad.add (k * 6)).block, (ad.add (k * 6)).off + 4, none⟩ = some (.slice o.A o.p.length o.c) ∧ w'.cell? ⟨(ad.add (k * 6)).block, (ad.add (k * 6)).off + 5, none⟩ = some (.string o.s) ∧ w'.cell? (ade.add q) = some (.int .i64 ((bs.length : Nat) : Int)))) (by kernel_rfl) ?_ (fun hHeld => ?_)
            · (try dsimp only); go_keep
            refine tk 0 (v := ?_) rfl ⟨by kernel_rfl, by kernel_rfl, by kernel_rfl⟩ (fun _ _ _ h => h) (by kernel_rfl) hHeld ?_ ?_
            rotate_left
            · (intro w0 hSw; (try dsimp only at hSw); go_simp; (try with_reducible rfl))
            (try simp only [Act.put, List.setIfInBounds_toArray, List.set_cons_zero, List.set_cons_succ])
            refine tk 1 (v := ?_) rfl ⟨by kernel_rfl, by kernel_rfl, by kernel_rfl⟩ (fun _ _ _ h => h) (by kernel_rfl) hHeld ?_ ?_
            rotate_left
            · (intro w0 hSw; (try dsimp only at hSw); go_simp; (try with_reducible rfl))
            (try simp only [Act.put, List.setIfInBounds_toArray, List.set_cons_zero, List.set_cons_succ])
            refine tk 2 (v := ?_) rfl ⟨by kernel_rfl, by kernel_rfl, by kernel_rfl⟩ (fun _ _ _ h => h) (by kernel_rfl) hHeld ?_ ?_
            rotate_left
            · (intro w0 hSw; (try dsimp only at hSw); go_simp; (try with_reducible rfl))
            (try simp only [Act.put, List.setIfInBounds_toArray, List.set_cons_zero, List.set_cons_succ])
            refine tk 3 (v := ?_) rfl ⟨by kernel_rfl, by kernel_rfl, by kernel_rfl⟩ (fun _ _ _ h => h) (by kernel_rfl) hHeld ?_ ?_
            rotate_left
            · (intro w0 hSw; (try dsimp only at hSw); go_simp; (try with_reducible rfl))
            (try simp only [Act.put, List.setIfInBounds_toArray, List.set_cons_zero, List.set_cons_succ])
            refine tk 4 (v := ?_) rfl ⟨by kernel_rfl, by kernel_rfl, by kernel_rfl⟩ (fun _ _ _ h => h) (by kernel_rfl) hHeld ?_ ?_
            rotate_left
            · (intro w0 hSw; (try dsimp only at hSw); go_simp; (try with_reducible rfl))
            (try simp only [Act.put, List.setIfInBounds_toArray, List.set_cons_zero, List.set_cons_succ])
            refine cr 5 rfl (by kernel_rfl) (fun K hK => ?_)
            (refine goes Try.func55 (by kernel_rfl) rfl #[.pointer (some ⟨g, 0, none⟩), o.val] rfl rfl (by simp only [List.map_toArray, List.map_cons, List.map_nil]; rfl) ?_; refine (laid_ g g vb bs 0 _ HCD.out.isw o hbb HOK.out.n HRD.out).mono ?_; rintro r w5 ⟨rfl, vb5, hW6, hF6⟩; refine ⟨_, rfl, ?_⟩; rw [HE.out] at hW6 ⊢; rw [HB.out] at hW6; have HD := Lib.hid (HCD.out.laid hgs hW6 hF6); clear hW6 hF6; obtain ⟨q0, q1, q2, q3, q4, q5, hqe⟩ := cut_cells HD.out hL ho HS.out HQ.out)
            clear hHeld
            refine hK.out _ _ ?_ (fun hHeld => ?_)
            · (try dsimp only); go_keep
            clear hK K
            (try simp only [Act.put, List.setIfInBounds_toArray, List.set_cons_zero, List.set_cons_succ])
            refine tk 6 (v := ?_) rfl ⟨by kernel_rfl, by kernel_rfl, by kernel_rfl⟩ (fun _ _ _ h => h) (by kernel_rfl) hHeld ?_ ?_
            rotate_left
            · (intro w0 hSw; (try dsimp only at hSw); go_simp; (try with_reducible rfl))
            (try simp only [Act.put, List.setIfInBounds_toArray, List.set_cons_zero, List.set_cons_succ])
            refine tk 7 (v := ?_) rfl ⟨by kernel_rfl, by kernel_rfl, by kernel_rfl⟩ (fun _ _ _ h => h) (by kernel_rfl) hHeld ?_ ?_
            rotate_left
            · (intro w0 hSw; (try dsimp only at hSw); go_simp; (try with_reducible rfl))
            (try simp only [Act.put, List.setIfInBounds_toArray, List.set_cons_zero, List.set_cons_succ])
            refine tk 9 (v := ?_) rfl ⟨by kernel_rfl, by kernel_rfl, by kernel_rfl⟩ (fun _ _ _ h => h) (by kernel_rfl) hHeld ?_ ?_
            rotate_left
            · (intro w0 hSw; (try dsimp only at hSw); go_simp; (try with_reducible rfl))
            (try simp only [Act.put, List.setIfInBounds_toArray, List.set_cons_zero, List.set_cons_succ])
            refine tk 10 (v := ?_) rfl ⟨by kernel_rfl, by kernel_rfl, by kernel_rfl⟩ (fun _ _ _ h => h) (by kernel_rfl) hHeld ?_ ?_
            rotate_left
            · (intro w0 hSw; (try dsimp only at hSw); go_simp; (try with_reducible rfl))
            (try simp only [Act.put, List.setIfInBounds_toArray, List.set_cons_zero, List.set_cons_succ])
            refine tk 11 (v := ?_) rfl ⟨by kernel_rfl, by kernel_rfl, by kernel_rfl⟩ (fun _ _ _ h => h) (by kernel_rfl) hHeld ?_ ?_
            rotate_left
            · (intro w0 hSw; (try dsimp only at hSw); go_simp; (try with_reducible rfl))
            (try simp only [Act.put, List.setIfInBounds_toArray, List.set_cons_zero, List.set_cons_succ])
            refine tk 12 (v := ?_) rfl ⟨by kernel_rfl, by kernel_rfl, by kernel_rfl⟩ (fun _ _ _ h => h) (by kernel_rfl) hHeld ?_ ?_
            rotate_left
            · (intro w0 hSw; (try dsimp only at hSw); go_simp; (try with_reducible rfl))
            (try simp only [Act.put, List.setIfInBounds_toArray, List.set_cons_zero, List.set_cons_succ])
            refine tk 13 (v := ?_) rfl ⟨by kernel_rfl, by kernel_rfl, by kernel_rfl⟩ (fun _ _ _ h => h) (by kernel_rfl) hHeld ?_ ?_
            rotate_left
            · (intro w0 hSw; (try dsimp only at hSw); go_simp; (try with_reducible rfl))
            (try simp only [Act.put, List.setIfInBounds_toArray, List.set_cons_zero, List.set_cons_succ])
            refine tk 14 (v := ?_) rfl ⟨by kernel_rfl, by kernel_rfl, by kernel_rfl⟩ (fun _ _ _ h => h) (by kernel_rfl) hHeld ?_ ?_
            rotate_left
            · (intro w0 hSw; (try dsimp only at hSw); go_simp; (try with_reducible rfl))
            (try simp only [Act.put, List.setIfInBounds_toArray, List.set_cons_zero, List.set_cons_succ])
            refine cr 8 rfl (by kernel_rfl) (fun K hK => ?_)
            (refine goes Try.func48 (by kernel_rfl) rfl #[.pointer (some ⟨g, 0, none⟩)] rfl rfl (by simp only [List.map_toArray, List.map_cons, List.map_nil]; rfl) ?_; refine (wLen g g vb5 bs' 0 _ HD.out.isw).mono ?_; rintro r w6 ⟨rfl, rfl⟩; refine ⟨_, rfl, ?_⟩)
            clear hHeld
            refine hK.out _ _ ?_ (fun hHeld => ?_)
            · (try dsimp only); go_keep
            clear hK K
            (try simp only [Act.put, List.setIfInBounds_toArray, List.set_cons_zero, List.set_cons_succ])
            refine tk 15 (v := ?_) rfl ⟨by kernel_rfl, by kernel_rfl, by kernel_rfl⟩ (fun _ _ _ h => h) (by kernel_rfl) hHeld ?_ ?_
            rotate_left
            · (intro w0 hSw; (try dsimp only at hSw); go_simp; (try with_reducible rfl))
            (try simp only [Act.put, List.setIfInBounds_toArray, List.set_cons_zero, List.set_cons_succ])
            refine tk 16 (v := ?_) rfl ⟨by kernel_rfl, by kernel_rfl, by kernel_rfl⟩ (fun _ _ _ h => h) (by kernel_rfl) hHeld ?_ ?_
            rotate_left
            · (intro w0 hSw; (try dsimp only at hSw); go_simp; (try with_reducible rfl))
            (try simp only [Act.put, List.setIfInBounds_toArray, List.set_cons_zero, List.set_cons_succ])
            refine wpAnyH_done (by kernel_rfl) ?_ _
            clear hHeld e0 e1 e2 e3 e4 e5 hec wq1 wq2
            have hb7 := below_alloc (Below.refl w6.heap.size w6) (.cells o.cells.toList.toArray 54)
            have HX := Lib.hid (And.intro (HD.out.later hb7) (box_cells w6 o.cells.toList 54))
            have hs5 : w.heap.size ≤ w6.heap.size := HD.out.below.size
            have hll3 : (opc Ls).length ≤ 1000000 := by rw [opc_length]; exact hll2
            clear hb7 hqe
            go_wp2_with ((with_reducible refine at_builtin_ (b := .append) rfl ?_); go_must (refine app_row rfl _ _ 54 42 rfl w.heap.size 6 72 _ Try.underlying42 infoOp rfl (by decide) _ (opc Ls) rfl ⟨w6.heap.size, 0, none⟩ 1 rfl HX.out.1.ops o.cells.toList rfl (by intro u hu; simp [OpV.cells] at hu; rcases hu with rfl | rfl | rfl | rfl | rfl | rfl <;> rfl) HX.out.2 (by omega) (by omega) (by simp; omega) _ rfl ?_); intro A8 c8 w8 hrow8 hg8 hat8)
            rw [opc_snoc] at hrow8
            have HY : Hid (CutC w w8 g vb5 bs' 0 _ _ (Ls ++ [o]) Es) := Lib.hid (HX.out.1.ops' hrow8 hg8)
            clear q0 q1 q2 q3 q4 q5 hrow8 hg8 hat8 HX
            refine (wLen g g vb5 bs' 0 _ HY.out.isw).mono ?_
            rintro r w9 ⟨rfl, rfl⟩
            have hb9 := below_alloc (Below.refl w9.heap.size w9) (.cells [Value.int .i64 ((bs'.length : Nat) : Int)].toArray 3)
            have HZ := Lib.hid (And.intro (HY.out.later hb9) (box_cells w9 [Value.int .i64 ((bs'.length : Nat) : Int)] 3))
            have hs9 : w.heap.size ≤ w9.heap.size := HY.out.below.size
            have hll4 : (intc Es).length ≤ 1000000 := by rw [intc_length]; exact hqm
            clear hb9
            go_wp2_with ((with_reducible refine at_builtin_ (b := .append) rfl ?_); go_must (refine app_row rfl _ _ 3 88 rfl w.heap.size 1 8 _ Try.underlying88 infoInt rfl (by decide) _ (intc Es) rfl ⟨w9.heap.size, 0, none⟩ 1 rfl HZ.out.1.ints [Value.int .i64 ((bs'.length : Nat) : Int)] rfl (by intro u hu; rw [List.mem_singleton.1 hu]; rfl) HZ.out.2 (by omega) (by omega) (by simp; omega) _ rfl ?_); intro A10 c10 w10 hrow10 hg10 hat10)
            rw [intc_snoc] at hrow10
            have HW : Hid (CutC w w10 g vb5 bs' 0 _ _ (Ls ++ [o]) (Es ++ [bs'.length])) := Lib.hid (HZ.out.1.ints' hrow10 hg10)
            clear hrow10 hg10 hat10 HZ HY
            go_wp2_with fail
            go_roundw
            case rel =>
              refine ⟨k + 1, vb5, bs', 0, Ls ++ [o], Es ++ [bs'.length], by omega, by go_num, HW, by rw [← HB.out, HLX.out.1]; exact HBL.out lx HLX.out.2, by rw [List.length_append]; simp; omega, by simp, Lib.hid ?_⟩
              have h := HS.out.snoc o HE.out (by rw [HB.out]; exact hgr) (by obtain ⟨_, _, _, h0, _⟩ := hL k o ho; exact ⟨h0.n, h0.rd, h0.c, h0.m, h0.z⟩)
              rw [HB.out] at h
              exact h
            case measure => simp [intOf]; omega
          · have hsame : bs' = bs := by have h := laid_same o bs (by rw [HB.out]; exact hgr); rw [HB.out] at h; exact h
            subst hsame
            have t1 : decide ((bs'.length : Int) < (bs'.length : Int)) = false := decide_eq_false (by omega)
            go_wp2_with fail
            refine wp_region_held_drew (S := (fun w' => w'.cell? (ad.add (k * 6)) = some (.int .i64 o.kind) ∧ w'.cell? ⟨(ad.add (k * 6)).block, (ad.add (k * 6)).off + 1, none⟩ = some (.int .i64 o.at_) ∧ w'.cell? ⟨(ad.add (k * 6)).block, (ad.add (k * 6)).off + 2, none⟩ = some (.int .u64 (o.n : Int)) ∧ w'.cell? ⟨(ad.add (k * 6)).block, (ad.add (k * 6)).off + 3, none⟩ = some (.int .i64 o.num) ∧ w'.cell? ⟨(ad.add (k * 6)).block, (ad.add (k * 6)).off + 4, none⟩ = some (.slice o.A o.p.length o.c) ∧ w'.cell? ⟨(ad.add (k * 6)).block, (ad.add (k * 6)).off + 5, none⟩ = some (.string o.s) ∧ w'.cell? (ade.add q) = some (.int .i64 ((bs'.length : Nat) : Int)))) (by kernel_rfl) ?_ (fun hHeld => ?_)
            · (try dsimp only); go_keep
            refine tk 0 (v := ?_) rfl ⟨by kernel_rfl, by kernel_rfl, by kernel_rfl⟩ (fun _ _ _ h => h) (by kernel_rfl) hHeld ?_ ?_
            rotate_left
            · (intro w0 hSw; (try dsimp only at hSw); go_simp; (try with_reducible rfl))
            (try simp only [Act.put, List.setIfInBounds_toArray, List.set_cons_zero, List.set_cons_succ])
            refine tk 1 (v := ?_) rfl ⟨by kernel_rfl, by kernel_rfl, by kernel_rfl⟩ (fun _ _ _ h => h) (by kernel_rfl) hHeld ?_ ?_
            rotate_left
            · (intro w0 hSw; (try dsimp only at hSw); go_simp; (try with_reducible rfl))
            (try simp only [Act.put, List.setIfInBounds_toArray, List.set_cons_zero, List.set_cons_succ])
            refine tk 2 (v := ?_) rfl ⟨by kernel_rfl, by kernel_rfl, by kernel_rfl⟩ (fun _ _ _ h => h) (by kernel_rfl) hHeld ?_ ?_
            rotate_left
            · (intro w0 hSw; (try dsimp only at hSw); go_simp; (try with_reducible rfl))
            (try simp only [Act.put, List.setIfInBounds_toArray, List.set_cons_zero, List.set_cons_succ])
            refine tk 3 (v := ?_) rfl ⟨by kernel_rfl, by kernel_rfl, by kernel_rfl⟩ (fun _ _ _ h => h) (by kernel_rfl) hHeld ?_ ?_
            rotate_left
            · (intro w0 hSw; (try dsimp only at hSw); go_simp; (try with_reducible rfl))
            (try simp only [Act.put, List.setIfInBounds_toArray, List.set_cons_zero, List.set_cons_succ])
            refine tk 4 (v := ?_) rfl ⟨by kernel_rfl, by kernel_rfl, by kernel_rfl⟩ (fun _ _ _ h => h) (by kernel_rfl) hHeld ?_ ?_
            rotate_left
            · (intro w0 hSw; (try dsimp only at hSw); go_simp; (try with_reducible rfl))
            (try simp only [Act.put, List.setIfInBounds_toArray, List.set_cons_zero, List.set_cons_succ])
            refine cr 5 rfl (by kernel_rfl) (fun K hK => ?_)
            (refine goes Try.func55 (by kernel_rfl) rfl #[.pointer (some ⟨g, 0, none⟩), o.val] rfl rfl (by simp only [List.map_toArray, List.map_cons, List.map_nil]; rfl) ?_; refine (laid_ g g vb bs' 0 _ HCD.out.isw o hbb HOK.out.n HRD.out).mono ?_; rintro r w5 ⟨rfl, vb5, hW6, hF6⟩; refine ⟨_, rfl, ?_⟩; rw [HE.out] at hW6 ⊢; rw [HB.out] at hW6; have HD := Lib.hid (HCD.out.laid hgs hW6 hF6); clear hW6 hF6; obtain ⟨q0, q1, q2, q3, q4, q5, hqe⟩ := cut_cells HD.out hL ho HS.out HQ.out)
            clear hHeld
            refine hK.out _ _ ?_ (fun hHeld => ?_)
            · (try dsimp only); go_keep
            clear hK K
            (try simp only [Act.put, List.setIfInBounds_toArray, List.set_cons_zero, List.set_cons_succ])
            refine tk 6 (v := ?_) rfl ⟨by kernel_rfl, by kernel_rfl, by kernel_rfl⟩ (fun _ _ _ h => h) (by kernel_rfl) hHeld ?_ ?_
            rotate_left
            · (intro w0 hSw; (try dsimp only at hSw); go_simp; (try with_reducible rfl))
            (try simp only [Act.put, List.setIfInBounds_toArray, List.set_cons_zero, List.set_cons_succ])
            refine tk 7 (v := ?_) rfl ⟨by kernel_rfl, by kernel_rfl, by kernel_rfl⟩ (fun _ _ _ h => h) (by kernel_rfl) hHeld ?_ ?_
            rotate_left
            · (intro w0 hSw; (try dsimp only at hSw); go_simp; (try with_reducible rfl))
            (try simp only [Act.put, List.setIfInBounds_toArray, List.set_cons_zero, List.set_cons_succ])
            refine tk 9 (v := ?_) rfl ⟨by kernel_rfl, by kernel_rfl, by kernel_rfl⟩ (fun _ _ _ h => h) (by kernel_rfl) hHeld ?_ ?_
            rotate_left
            · (intro w0 hSw; (try dsimp only at hSw); go_simp; (try with_reducible rfl))
            (try simp only [Act.put, List.setIfInBounds_toArray, List.set_cons_zero, List.set_cons_succ])
            refine tk 10 (v := ?_) rfl ⟨by kernel_rfl, by kernel_rfl, by kernel_rfl⟩ (fun _ _ _ h => h) (by kernel_rfl) hHeld ?_ ?_
            rotate_left
            · (intro w0 hSw; (try dsimp only at hSw); go_simp; (try with_reducible rfl))
            (try simp only [Act.put, List.setIfInBounds_toArray, List.set_cons_zero, List.set_cons_succ])
            refine tk 11 (v := ?_) rfl ⟨by kernel_rfl, by kernel_rfl, by kernel_rfl⟩ (fun _ _ _ h => h) (by kernel_rfl) hHeld ?_ ?_
            rotate_left
            · (intro w0 hSw; (try dsimp only at hSw); go_simp; (try with_reducible rfl))
            (try simp only [Act.put, List.setIfInBounds_toArray, List.set_cons_zero, List.set_cons_succ])
            refine tk 12 (v := ?_) rfl ⟨by kernel_rfl, by kernel_rfl, by kernel_rfl⟩ (fun _ _ _ h => h) (by kernel_rfl) hHeld ?_ ?_
            rotate_left
            · (intro w0 hSw; (try dsimp only at hSw); go_simp; (try with_reducible rfl))
            (try simp only [Act.put, List.setIfInBounds_toArray, List.set_cons_zero, List.set_cons_succ])
            refine tk 13 (v := ?_) rfl ⟨by kernel_rfl, by kernel_rfl, by kernel_rfl⟩ (fun _ _ _ h => h) (by kernel_rfl) hHeld ?_ ?_
            rotate_left
            · (intro w0 hSw; (try dsimp only at hSw); go_simp; (try with_reducible rfl))
            (try simp only [Act.put, List.setIfInBounds_toArray, List.set_cons_zero, List.set_cons_succ])
            refine tk 14 (v := ?_) rfl ⟨by kernel_rfl, by kernel_rfl, by kernel_rfl⟩ (fun _ _ _ h => h) (by kernel_rfl) hHeld ?_ ?_
            rotate_left
            · (intro w0 hSw; (try dsimp only at hSw); go_simp; (try with_reducible rfl))
            (try simp only [Act.put, List.setIfInBounds_toArray, List.set_cons_zero, List.set_cons_succ])
            refine cr 8 rfl (by kernel_rfl) (fun K hK => ?_)
            (refine goes Try.func48 (by kernel_rfl) rfl #[.pointer (some ⟨g, 0, none⟩)] rfl rfl (by simp only [List.map_toArray, List.map_cons, List.map_nil]; rfl) ?_; refine (wLen g g vb5 bs' 0 _ HD.out.isw).mono ?_; rintro r w6 ⟨rfl, rfl⟩; refine ⟨_, rfl, ?_⟩)
            clear hHeld
            refine hK.out _ _ ?_ (fun hHeld => ?_)
            · (try dsimp only); go_keep
            clear hK K
            (try simp only [Act.put, List.setIfInBounds_toArray, List.set_cons_zero, List.set_cons_succ])
            refine tk 15 (v := ?_) rfl ⟨by kernel_rfl, by kernel_rfl, by kernel_rfl⟩ (fun _ _ _ h => h) (by kernel_rfl) hHeld ?_ ?_
            rotate_left
            · (intro w0 hSw; (try dsimp only at hSw); go_simp; (try with_reducible rfl))
            (try simp only [Act.put, List.setIfInBounds_toArray, List.set_cons_zero, List.set_cons_succ])
            refine tk 16 (v := ?_) rfl ⟨by kernel_rfl, by kernel_rfl, by kernel_rfl⟩ (fun _ _ _ h => h) (by kernel_rfl) hHeld ?_ ?_
            rotate_left
            · (intro w0 hSw; (try dsimp only at hSw); go_simp; (try with_reducible rfl))
            (try simp only [Act.put, List.setIfInBounds_toArray, List.set_cons_zero, List.set_cons_succ])
            refine wpAnyH_done (by kernel_rfl) ?_ _
            clear hHeld e0 e1 e2 e3 e4 e5 hec wq1 wq2
            go_wp2_with fail
            go_roundw
            case rel => exact ⟨k + 1, vb5, bs', 0, Ls, Es, by omega, by go_num, HD, HBL3.out, by omega, hl1, HS⟩
            case measure => simp [intOf]; omega
        · have hnb : laidB o bs e = bs := by
            by_cases he : e = 0
            · subst he; exact laid_ref o bs hE
            · exact (laid_no o bs e he).1
          have HE2 := Lib.hid (beqf hE)
          have HNB := Lib.hid hnb
          clear hE hnb
          go_wp2_with fail
          refine wp_region_held_drew (S := (fun w' => w'.cell? (ad.add (k * 6)) = some (.int .i64 o.kind) ∧ w'.cell? ⟨(ad.add (k * 6)).block, (ad.add (k * 6)).off + 1, none⟩ = some (.int .i64 o.at_) ∧ w'.cell? ⟨(ad.add (k * 6)).block, (ad.add (k * 6)).off + 2, none⟩ = some (.int .u64 (o.n : Int)) ∧ w'.cell? ⟨(ad.add (k * 6)).block, (ad.add (k * 6)).off + 3, none⟩ = some (.int .i64 o.num) ∧ w'.cell? ⟨(ad.add (k * 6)).block, (ad.add (k * 6)).off + 4, none⟩ = some (.slice o.A o.p.length o.c) ∧ w'.cell? ⟨(ad.add (k * 6)).block, (ad.add (k * 6)).off + 5, none⟩ = some (.string o.s) ∧ w'.cell? (ade.add q) = some (.int .i64 ((bs.length : Nat) : Int)))) (by kernel_rfl) ?_ (fun hHeld => ?_)
          · (try dsimp only); go_keep
          refine tk 0 (v := ?_) rfl ⟨by kernel_rfl, by kernel_rfl, by kernel_rfl⟩ (fun _ _ _ h => h) (by kernel_rfl) hHeld ?_ ?_
          rotate_left
          · (intro w0 hSw; (try dsimp only at hSw); go_simp; (try with_reducible rfl))
          (try simp only [Act.put, List.setIfInBounds_toArray, List.set_cons_zero, List.set_cons_succ])
          refine tk 1 (v := ?_) rfl ⟨by kernel_rfl, by kernel_rfl, by kernel_rfl⟩ (fun _ _ _ h => h) (by kernel_rfl) hHeld ?_ ?_
          rotate_left
          · (intro w0 hSw; (try dsimp only at hSw); go_simp; (try with_reducible rfl))
          (try simp only [Act.put, List.setIfInBounds_toArray, List.set_cons_zero, List.set_cons_succ])
          refine tk 2 (v := ?_) rfl ⟨by kernel_rfl, by kernel_rfl, by kernel_rfl⟩ (fun _ _ _ h => h) (by kernel_rfl) hHeld ?_ ?_
          rotate_left
          · (intro w0 hSw; (try dsimp only at hSw); go_simp; (try with_reducible rfl))
          (try simp only [Act.put, List.setIfInBounds_toArray, List.set_cons_zero, List.set_cons_succ])
          refine tk 3 (v := ?_) rfl ⟨by kernel_rfl, by kernel_rfl, by kernel_rfl⟩ (fun _ _ _ h => h) (by kernel_rfl) hHeld ?_ ?_
          rotate_left
          · (intro w0 hSw; (try dsimp only at hSw); go_simp; (try with_reducible rfl))
          (try simp only [Act.put, List.setIfInBounds_toArray, List.set_cons_zero, List.set_cons_succ])
          refine tk 4 (v := ?_) rfl ⟨by kernel_rfl, by kernel_rfl, by kernel_rfl⟩ (fun _ _ _ h => h) (by kernel_rfl) hHeld ?_ ?_
          rotate_left
          · (intro w0 hSw; (try dsimp only at hSw); go_simp; (try with_reducible rfl))
          (try simp only [Act.put, List.setIfInBounds_toArray, List.set_cons_zero, List.set_cons_succ])
          refine cr 5 rfl (by kernel_rfl) (fun K hK => ?_)
          (refine goes Try.func55 (by kernel_rfl) rfl #[.pointer (some ⟨g, 0, none⟩), o.val] rfl rfl (by simp only [List.map_toArray, List.map_cons, List.map_nil]; rfl) ?_; refine (laid_ g g vb bs e _ HCD.out.isw o hbb HOK.out.n HRD.out).mono ?_; rintro r w5 ⟨rfl, vb5, hW6, hF6⟩; refine ⟨_, rfl, ?_⟩; rw [HNB.out] at hW6; rw [HE2.out]; have HD := Lib.hid (HCD.out.laid hgs hW6 hF6); clear hW6 hF6; obtain ⟨q0, q1, q2, q3, q4, q5, hqe⟩ := cut_cells HD.out hL ho HS.out HQ.out)
          clear hHeld
          refine hK.out _ _ ?_ (fun hHeld => ?_)
          · (try dsimp only); go_keep
          clear hK K
          (try simp only [Act.put, List.setIfInBounds_toArray, List.set_cons_zero, List.set_cons_succ])
          refine tk 6 (v := ?_) rfl ⟨by kernel_rfl, by kernel_rfl, by kernel_rfl⟩ (fun _ _ _ h => h) (by kernel_rfl) hHeld ?_ ?_
          rotate_left
          · (intro w0 hSw; (try dsimp only at hSw); go_simp; (try with_reducible rfl))
          (try simp only [Act.put, List.setIfInBounds_toArray, List.set_cons_zero, List.set_cons_succ])
          refine tkno 7 rfl ⟨by kernel_rfl, by kernel_rfl, by kernel_rfl⟩ (fun _ _ _ h => h) (by kernel_rfl) hHeld ?_
          (try simp only [Act.put, List.setIfInBounds_toArray, List.set_cons_zero, List.set_cons_succ])
          refine tkno 8 rfl ⟨by kernel_rfl, by kernel_rfl, by kernel_rfl⟩ (fun _ _ _ h => h) (by kernel_rfl) hHeld ?_
          (try simp only [Act.put, List.setIfInBounds_toArray, List.set_cons_zero, List.set_cons_succ])
          refine tkno 9 rfl ⟨by kernel_rfl, by kernel_rfl, by kernel_rfl⟩ (fun _ _ _ h => h) (by kernel_rfl) hHeld ?_
          (try simp only [Act.put, List.setIfInBounds_toArray, List.set_cons_zero, List.set_cons_succ])
          refine tkno 10 rfl ⟨by kernel_rfl, by kernel_rfl, by kernel_rfl⟩ (fun _ _ _ h => h) (by kernel_rfl) hHeld ?_
          (try simp only [Act.put, List.setIfInBounds_toArray, List.set_cons_zero, List.set_cons_succ])
          refine tkno 11 rfl ⟨by kernel_rfl, by kernel_rfl, by kernel_rfl⟩ (fun _ _ _ h => h) (by kernel_rfl) hHeld ?_
          (try simp only [Act.put, List.setIfInBounds_toArray, List.set_cons_zero, List.set_cons_succ])
          refine tkno 12 rfl ⟨by kernel_rfl, by kernel_rfl, by kernel_rfl⟩ (fun _ _ _ h => h) (by kernel_rfl) hHeld ?_
          (try simp only [Act.put, List.setIfInBounds_toArray, List.set_cons_zero, List.set_cons_succ])
          refine tkno 13 rfl ⟨by kernel_rfl, by kernel_rfl, by kernel_rfl⟩ (fun _ _ _ h => h) (by kernel_rfl) hHeld ?_
          (try simp only [Act.put, List.setIfInBounds_toArray, List.set_cons_zero, List.set_cons_succ])
          refine tkno 14 rfl ⟨by kernel_rfl, by kernel_rfl, by kernel_rfl⟩ (fun _ _ _ h => h) (by kernel_rfl) hHeld ?_
          (try simp only [Act.put, List.setIfInBounds_toArray, List.set_cons_zero, List.set_cons_succ])
          refine tkno 15 rfl ⟨by kernel_rfl, by kernel_rfl, by kernel_rfl⟩ (fun _ _ _ h => h) (by kernel_rfl) hHeld ?_
          (try simp only [Act.put, List.setIfInBounds_toArray, List.set_cons_zero, List.set_cons_succ])
          refine tk 16 (v := ?_) rfl ⟨by kernel_rfl, by kernel_rfl, by kernel_rfl⟩ (fun _ _ _ h => h) (by kernel_rfl) hHeld ?_ ?_
          rotate_left
          · (intro w0 hSw; (try dsimp only at hSw); go_simp; (try with_reducible rfl))
          (try simp only [Act.put, List.setIfInBounds_toArray, List.set_cons_zero, List.set_cons_succ])
          refine wpAnyH_done (by kernel_rfl) ?_ _
          clear hHeld e0 e1 e2 e3 e4 e5 hec wq1 wq2
          go_wp2_with fail
          go_roundw
          case rel => exact ⟨k + 1, vb5, bs, _, Ls, Es, by omega, by go_num, HD, HBL3.out, by omega, hl1, HS⟩
          case measure => simp [intOf]; omega
      · obtain rfl : k = m := by omega
        have hbl2 : bs.length ≤ 2147483651 := by
          have := HT.out
          have := total_le L k
          omega
        obtain ⟨q, hq⟩ : ∃ q, Es.length = q + 1 := ⟨Es.length - 1, by have := HS.out.len; omega⟩
        obtain ⟨Ai, ci, hvi, hci⟩ := HC.out.ints.shape
        rw [intc_length, hq] at hvi hci
        subst hvi
        obtain ⟨ade, hade, hec⟩ := intc_cell HC.out.ints q bs.length (HS.out.last q hq.symm)
        subst hade
        obtain ⟨A4, c4, hvo, hc4⟩ := HC.out.ops.shape
        obtain ⟨nL, hnL⟩ : ∃ nL, Ls.length = nL := ⟨_, rfl⟩
        rw [opc_length, hnL] at hvo hc4
        subst hvo
        have hmx := HC.out.ops.max
        rw [opc_length, hnL] at hmx
        obtain rfl : nL = q + 1 := by rw [← hq, HS.out.len, hnL]
        have hb1 : 1 ≤ bs.length := by
          have := (HS.out.ends q bs.length (HS.out.last q hq.symm)).2
          omega
        have HQ := Lib.hid hq
        have HN := Lib.hid hnL
        clear hbl hll hlt hk hec hq hnL hl1
        go_wp2_with fail
        refine (wAll g g vb bs e wr HC.out.isw (by omega)).mono ?_
        rintro r w5 ⟨A5, c5, rfl, hO5, hb5⟩
        have HC5 := Lib.hid (HC.out.later hb5)
        clear hb5 HC
        obtain ⟨ade', hade, hec⟩ := intc_cell HC5.out.ints q bs.length (HS.out.last q HQ.out.symm)
        injection hade with hade
        subst hade
        have wq2 : IntKind.i64.wrap (q : Int) = (q : Int) := IntWalk.i64_in _ (by omega)
        have wq1 : IntKind.i64.wrap ((q : Int) + 1 - 1) = (q : Int) := by rw [Int.add_sub_cancel]; exact wq2
        have hq0 : (0 : Int) ≤ (q : Int) := by omega
        have hq1 : (q : Int) < (q : Int) + 1 := by omega
        have t9 : ((bs.length : Int) != (bs.length : Int)) = false := by simp
        have hlc5 : bs.length ≤ c5 := by
          obtain ⟨A', c', e', hc', _⟩ := hO5.rd
          injection e' with _ _ e3
          omega
        go_wp2_with fail
        clear wq1 wq2
        obtain ⟨n, hn, hnl⟩ : ∃ n : Nat, x % ((bs.length : Int) - 1 + 1) = (n : Int) ∧ n < bs.length := by
          have h1 := Int.emod_nonneg x (show (bs.length : Int) - 1 + 1 ≠ 0 by omega)
          have h2 := Int.emod_lt_of_pos x (show (0 : Int) < (bs.length : Int) - 1 + 1 by omega)
          exact ⟨(x % ((bs.length : Int) - 1 + 1)).toNat, by omega, by omega⟩
        refine (within_ x ((bs.length : Int) - 1) _ hx0 hx1 (by omega) (by omega)).mono ?_
        rintro r w6 ⟨rfl, rfl⟩
        rw [hn]
        have hn5 : n ≤ c5 := by omega
        have hrd := hO5.rd_.takeb n (by omega)
        clear hn hO5 hec t9 hx0 hx1
        go_wp2_with fail
        refine (newReader A5 n c5 (bs.take n) _ hrd (by omega)).mono ?_
        rintro r w7 ⟨g6, A6, c6, rfl, hR6, hb6⟩
        have hg6 : w.heap.size ≤ g6 := Nat.le_trans HC5.out.below.size hR6.hg
        have HR : Hid (CutR w w7 w6.heap.size g6 A6 c6 (bs.take n) 0 0 (.slice A4 (q + 1) c4) (.slice (some ade) (q + 1) ci) Ls Es) := Lib.hid ⟨HC5.out.ops.below hb6, HC5.out.ints.below hb6, hR6, HC5.out.below.trans (hb6.mono HC5.out.below.size)⟩
        generalize w6.heap.size = B6 at *
        clear hR6 hb6 HC5 hrd
        go_wp2_with fail
        go_loopw [12, 13] (fun bg i wr => ∃ j at_, j ≤ q + 1 ∧ i = .int .i64 ((j : Nat) : Int) ∧ bg = .int .i64 ((at_ : Nat) : Int) ∧ at_ ≤ n ∧ Hid ((layAll (Ls.take j)).length = at_) ∧ Hid (CutR w wr B6 g6 A6 c6 (bs.take n) at_ 0 (.slice A4 (q + 1) c4) (.slice (some ade) (q + 1) ci) Ls Es)) (fun _ i _ => q + 1 - (intOf i).toNat)
        case atStart => exact ⟨0, 0, Nat.zero_le _, rfl, rfl, Nat.zero_le _, Lib.hid rfl, HR⟩
        case round =>
          clear HR
          obtain ⟨j, at_, hj, rfl, rfl, hatn, HA, HR⟩ := hrel
          by_cases hjl : j < q + 1
          · obtain ⟨o, ho⟩ : ∃ o, Ls[j]? = some o := ⟨_, List.getElem?_eq_getElem (by rw [HN.out]; exact hjl)⟩
            obtain ⟨xE, hxE⟩ : ∃ x, Es[j]? = some x := ⟨_, List.getElem?_eq_getElem (by rw [HQ.out]; exact hjl)⟩
            have HO := Lib.hid (And.intro ho hxE)
            have hokw := HS.out.ok o (List.mem_of_getElem? ho)
            have HOK := Lib.hid hokw
            have hpl := Nat.le_trans hokw.2.2.1 hokw.2.2.2.1
            obtain ⟨ad, had, _, _⟩ := HR.out.ops.cell j o.cells.toList (by simp [opc, ho])
            subst had
            obtain ⟨e0, e1, e2, e3, e4, e5, e6⟩ := cutr_cells HR.out ho hxE
            have hi0 : (0 : Int) ≤ (j : Int) := by omega
            have hi1 : (j : Int) < (q : Int) + 1 := by omega
            have hcut := cut_step HS.out n j xE o ho hxE (by rw [HA.out]; exact hatn)
            rw [HA.out] at hcut
            have HCUT := Lib.hid hcut
            clear hcut ho hxE hokw
            go_wp2_with fail
            refine (again_ B6 g6 A6 c6 (bs.take n) at_ 0 wr HR.out.r o hpl).mono ?_
            rintro r w8 ⟨o', rfl, hBk, hR8, hF8⟩
            have hv : o'.val = .agg #[.int .i64 o'.kind, .int .i64 o'.at_, .int .u64 (o'.n : Int), .int .i64 o'.num, .slice o'.A o'.p.length o'.c, .string o'.s] := rfl
            rw [hv]
            have hal := below_alloc (Below.refl w8.heap.size w8) (.cells #[.int .i64 o'.kind, .int .i64 o'.at_, .int .u64 (o'.n : Int), .int .i64 o'.num, .slice o'.A o'.p.length o'.c, .string o'.s] 54)
            by_cases hlt2 : n < xE
            · have t1 : decide ((n : Int) < (xE : Int)) = true := decide_eq_true (by omega)
              have t2 : decide (n < xE) = true := decide_eq_true hlt2
              obtain ⟨f1, f2⟩ := HCUT.out.2 hlt2
              rw [f1, f2] at hR8
              have HR9 := Lib.hid ((HR.out.again hg6 hR8 hF8).later hal)
              clear e0 e1 e2 e3 e4 e5 e6 hBk hR8 hF8 hal hv f1 f2
              obtain ⟨e0, e1, e2, e3, e4, e5, e6⟩ := cutr_cells HR9.out HO.out.1 HO.out.2
              clear e0 e1 e2 e3 e4 e5
              go_wp2_with fail
              refine (rErr B6 g6 A6 c6 (bs.take n) at_ 10 _ HR9.out.r).mono ?_
              rintro r w9 ⟨rfl, rfl⟩
              go_wp2_with fail
              have HE := Lib.hid (show endE (bs.take n).length at_ 10 = 10 from if_neg (fun h => absurd h.1 (by decide)))
              refine (rEnd B6 g6 A6 c6 (bs.take n) at_ 10 _ HR9.out.r).mono ?_
              rintro r w10 ⟨rfl, ⟨n10, rfl⟩⟩
              rw [HE.out]
              have hR10 := HR9.out.r.below (below_drewN (Below.refl _ _) n10)
              have HB10 := Lib.hid HR9.out.below
              clear HR9 e6
              go_wp2_with fail
              refine (rAt B6 g6 A6 c6 (bs.take n) at_ 10 _ hR10).mono ?_
              rintro r w11 ⟨rfl, rfl⟩
              have t3 : ((at_ : Int) == (at_ : Int)) = true := by simp
              go_wp2_with fail
              refine (rLeft B6 g6 A6 c6 (bs.take n) at_ 10 _ hR10).mono ?_
              rintro r w12 ⟨rfl, ⟨n12, rfl⟩⟩
              have hl : (((bs.take n).length - at_ : Nat) : Int) = (n : Int) - (at_ : Int) := by rw [List.length_take]; omega
              rw [hl]
              have t4 : (((n : Int) - (at_ : Int)) == ((n : Int) - (at_ : Int))) = true := by simp
              clear hl hR10
              go_wp2_with fail
              go_ret
              exact ⟨rfl, by first | exact below_drewN HB10.out _ | exact below_drewN (below_drewN HB10.out _) _⟩
            · have t1 : decide ((n : Int) < (xE : Int)) = false := decide_eq_false (by omega)
              have t2 : decide (n < xE) = false := decide_eq_false hlt2
              obtain ⟨f1, f2, f3⟩ := HCUT.out.1 (by omega)
              have HAL := Lib.hid (f3 o' w8 hBk)
              rw [f1, f2] at hR8
              have HR9 := Lib.hid ((HR.out.again hg6 hR8 hF8).later hal)
              have HRD := Lib.hid (hBk.rd.below hal (Nat.le_refl _))
              clear e0 e1 e2 e3 e4 e5 e6 hBk hR8 hF8 hal hv f1 f2 f3
              obtain ⟨e0, e1, e2, e3, e4, e5, e6⟩ := cutr_cells HR9.out HO.out.1 HO.out.2
              obtain ⟨p0, p1, p2, p3, p4, p5⟩ := box6 w8 o'
              have HRO := Lib.hid (HOK.out.2.1.below HR9.out.below (Nat.le_refl _))
              go_wp2_with fail
              refine wp_region_held_drew (S := (fun w' => w'.cell? (ad.add (j * 6)) = some (.int .i64 o.kind) ∧ w'.cell? ⟨(ad.add (j * 6)).block, (ad.add (j * 6)).off + 1, none⟩ = some (.int .i64 o.at_) ∧ w'.cell? ⟨(ad.add (j * 6)).block, (ad.add (j * 6)).off + 2, none⟩ = some (.int .u64 (o.n : Int)) ∧ w'.cell? ⟨(ad.add (j * 6)).block, (ad.add (j * 6)).off + 3, none⟩ = some (.int .i64 o.num) ∧ w'.cell? ⟨(ad.add (j * 6)).block, (ad.add (j * 6)).off + 4, none⟩ = some (.slice o.A o.p.length o.c) ∧ w'.cell? ⟨(ad.add (j * 6)).block, (ad.add (j * 6)).off + 5, none⟩ = some (.string o.s) ∧ w'.cell? (ade.add j) = some (.int .i64 ((xE : Nat) : Int)) ∧ w'.cell? ⟨w8.heap.size, 0, none⟩ = some (.int .i64 o'.kind) ∧ w'.cell? ⟨w8.heap.size, 1, none⟩ = some (.int .i64 o'.at_) ∧ w'.cell? ⟨w8.heap.size, 2, none⟩ = some (.int .u64 (o'.n : Int)) ∧ w'.cell? ⟨w8.heap.size, 3, none⟩ = some (.int .i64 o'.num) ∧ w'.cell? ⟨w8.heap.size, 4, none⟩ = some (.slice o'.A o'.p.length o'.c) ∧ w'.cell? ⟨w8.heap.size, 5, none⟩ = some (.string o'.s))) (by kernel_rfl) ?_ (fun hHeld => ?_)
              · (try dsimp only); go_keep
              refine tk 0 (v := ?_) rfl ⟨by kernel_rfl, by kernel_rfl, by kernel_rfl⟩ (fun _ _ _ h => h) (by kernel_rfl) hHeld ?_ ?_
              rotate_left
              · (intro w0 hSw; (try dsimp only at hSw); go_simp; (try with_reducible rfl))
              (try simp only [Act.put, List.setIfInBounds_toArray, List.set_cons_zero, List.set_cons_succ])
              refine tk 1 (v := ?_) rfl ⟨by kernel_rfl, by kernel_rfl, by kernel_rfl⟩ (fun _ _ _ h => h) (by kernel_rfl) hHeld ?_ ?_
              rotate_left
              · (intro w0 hSw; (try dsimp only at hSw); go_simp; (try with_reducible rfl))
              (try simp only [Act.put, List.setIfInBounds_toArray, List.set_cons_zero, List.set_cons_succ])
              refine tk 2 (v := ?_) rfl ⟨by kernel_rfl, by kernel_rfl, by kernel_rfl⟩ (fun _ _ _ h => h) (by kernel_rfl) hHeld ?_ ?_
              rotate_left
              · (intro w0 hSw; (try dsimp only at hSw); go_simp; (try with_reducible rfl))
              (try simp only [Act.put, List.setIfInBounds_toArray, List.set_cons_zero, List.set_cons_succ])
              refine tk 3 (v := ?_) rfl ⟨by kernel_rfl, by kernel_rfl, by kernel_rfl⟩ (fun _ _ _ h => h) (by kernel_rfl) hHeld ?_ ?_
              rotate_left
              · (intro w0 hSw; (try dsimp only at hSw); go_simp; (try with_reducible rfl))
              (try simp only [Act.put, List.setIfInBounds_toArray, List.set_cons_zero, List.set_cons_succ])
              refine tk 4 (v := ?_) rfl ⟨by kernel_rfl, by kernel_rfl, by kernel_rfl⟩ (fun _ _ _ h => h) (by kernel_rfl) hHeld ?_ ?_
              rotate_left
              · (intro w0 hSw; (try dsimp only at hSw); go_simp; (try with_reducible rfl))
              (try simp only [Act.put, List.setIfInBounds_toArray, List.set_cons_zero, List.set_cons_succ])
              refine cr 5 rfl (by kernel_rfl) (fun K hK => ?_)
              (refine goes Try.func56 (by kernel_rfl) rfl #[o.val, o'.val] rfl rfl (by simp only [List.map_toArray, List.map_cons, List.map_nil]; rfl) ?_; refine (alike_ o o' _ HAL.out HRO.out.drew HRD.out.drew).mono ?_; rintro r w9 ⟨rfl, hb9⟩; refine ⟨_, rfl, ?_⟩; have HR10 := Lib.hid ((HR9.out.later (below_drewN (Below.refl _ _) 1)).later hb9); obtain ⟨e0, e1, e2, e3, e4, e5, e6⟩ := cutr_cells HR10.out HO.out.1 HO.out.2; obtain ⟨p0, p1, p2, p3, p4, p5⟩ := box6_below w8 o' hb9; clear hb9)
              clear hHeld
              refine hK.out _ _ ?_ (fun hHeld => ?_)
              · (try dsimp only); go_keep
              clear hK K
              (try simp only [Act.put, List.setIfInBounds_toArray, List.set_cons_zero, List.set_cons_succ])
              refine tk 6 (v := ?_) rfl ⟨by kernel_rfl, by kernel_rfl, by kernel_rfl⟩ (fun _ _ _ h => h) (by kernel_rfl) hHeld ?_ ?_
              rotate_left
              · (intro w0 hSw; (try dsimp only at hSw); go_simp; (try with_reducible rfl))
              (try simp only [Act.put, List.setIfInBounds_toArray, List.set_cons_zero, List.set_cons_succ])
              refine tk 7 (v := ?_) rfl ⟨by kernel_rfl, by kernel_rfl, by kernel_rfl⟩ (fun _ _ _ h => h) (by kernel_rfl) hHeld ?_ ?_
              rotate_left
              · (intro w0 hSw; (try dsimp only at hSw); go_simp; (try with_reducible rfl))
              (try simp only [Act.put, List.setIfInBounds_toArray, List.set_cons_zero, List.set_cons_succ])
              refine tk 8 (v := ?_) rfl ⟨by kernel_rfl, by kernel_rfl, by kernel_rfl⟩ (fun _ _ _ h => h) (by kernel_rfl) hHeld ?_ ?_
              rotate_left
              · (intro w0 hSw; (try dsimp only at hSw); go_simp; (try with_reducible rfl))
              (try simp only [Act.put, List.setIfInBounds_toArray, List.set_cons_zero, List.set_cons_succ])
              refine cr 9 rfl (by kernel_rfl) (fun K hK => ?_)
              (refine goes Try.func41 (by kernel_rfl) rfl #[.pointer (some ⟨g6, 0, none⟩)] rfl rfl (by simp only [List.map_toArray, List.map_cons, List.map_nil]; rfl) ?_; refine (rErr B6 g6 A6 c6 (bs.take n) xE 0 _ HR10.out.r).mono ?_; rintro r w10 ⟨rfl, rfl⟩; refine ⟨_, rfl, ?_⟩)
              clear hHeld
              refine hK.out _ _ ?_ (fun hHeld => ?_)
              · (try dsimp only); go_keep
              clear hK K
              (try simp only [Act.put, List.setIfInBounds_toArray, List.set_cons_zero, List.set_cons_succ])
              refine tk 10 (v := ?_) rfl ⟨by kernel_rfl, by kernel_rfl, by kernel_rfl⟩ (fun _ _ _ h => h) (by kernel_rfl) hHeld ?_ ?_
              rotate_left
              · (intro w0 hSw; (try dsimp only at hSw); go_simp; (try with_reducible rfl))
              (try simp only [Act.put, List.setIfInBounds_toArray, List.set_cons_zero, List.set_cons_succ])
              refine tk 11 (v := ?_) rfl ⟨by kernel_rfl, by kernel_rfl, by kernel_rfl⟩ (fun _ _ _ h => h) (by kernel_rfl) hHeld ?_ ?_
              rotate_left
              · (intro w0 hSw; (try dsimp only at hSw); go_simp; (try with_reducible rfl))
              (try simp only [Act.put, List.setIfInBounds_toArray, List.set_cons_zero, List.set_cons_succ])
              refine tk 12 (v := ?_) rfl ⟨by kernel_rfl, by kernel_rfl, by kernel_rfl⟩ (fun _ _ _ h => h) (by kernel_rfl) hHeld ?_ ?_
              rotate_left
              · (intro w0 hSw; (try dsimp only at hSw); go_simp; (try with_reducible rfl))
              (try simp only [Act.put, List.setIfInBounds_toArray, List.set_cons_zero, List.set_cons_succ])
              refine tk 13 (v := ?_) rfl ⟨by kernel_rfl, by kernel_rfl, by kernel_rfl⟩ (fun _ _ _ h => h) (by kernel_rfl) hHeld ?_ ?_
              rotate_left
              · (intro w0 hSw; (try dsimp only at hSw); go_simp; (try with_reducible rfl))
              (try simp only [Act.put, List.setIfInBounds_toArray, List.set_cons_zero, List.set_cons_succ])
              refine tk 15 (v := ?_) rfl ⟨by kernel_rfl, by kernel_rfl, by kernel_rfl⟩ (fun _ _ _ h => h) (by kernel_rfl) hHeld ?_ ?_
              rotate_left
              · (intro w0 hSw; (try dsimp only at hSw); go_simp; (try with_reducible rfl))
              (try simp only [Act.put, List.setIfInBounds_toArray, List.set_cons_zero, List.set_cons_succ])
              refine tk 16 (v := ?_) rfl ⟨by kernel_rfl, by kernel_rfl, by kernel_rfl⟩ (fun _ _ _ h => h) (by kernel_rfl) hHeld ?_ ?_
              rotate_left
              · (intro w0 hSw; (try dsimp only at hSw); go_simp; (try with_reducible rfl))
              (try simp only [Act.put, List.setIfInBounds_toArray, List.set_cons_zero, List.set_cons_succ])
              refine tk 17 (v := ?_) rfl ⟨by kernel_rfl, by kernel_rfl, by kernel_rfl⟩ (fun _ _ _ h => h) (by kernel_rfl) hHeld ?_ ?_
              rotate_left
              · (intro w0 hSw; (try dsimp only at hSw); go_simp; (try with_reducible rfl))
              (try simp only [Act.put, List.setIfInBounds_toArray, List.set_cons_zero, List.set_cons_succ])
              refine tk 18 (v := ?_) rfl ⟨by kernel_rfl, by kernel_rfl, by kernel_rfl⟩ (fun _ _ _ h => h) (by kernel_rfl) hHeld ?_ ?_
              rotate_left
              · (intro w0 hSw; (try dsimp only at hSw); go_simp; (try with_reducible rfl))
              (try simp only [Act.put, List.setIfInBounds_toArray, List.set_cons_zero, List.set_cons_succ])
              refine cr 14 rfl (by kernel_rfl) (fun K hK => ?_)
              (refine goes Try.func42 (by kernel_rfl) rfl #[.pointer (some ⟨g6, 0, none⟩)] rfl rfl (by simp only [List.map_toArray, List.map_cons, List.map_nil]; rfl) ?_; refine (rAt B6 g6 A6 c6 (bs.take n) xE 0 _ HR10.out.r).mono ?_; rintro r w11 ⟨rfl, rfl⟩; refine ⟨_, rfl, ?_⟩)
              clear hHeld
              refine hK.out _ _ ?_ (fun hHeld => ?_)
              · (try dsimp only); go_keep
              clear hK K
              (try simp only [Act.put, List.setIfInBounds_toArray, List.set_cons_zero, List.set_cons_succ])
              refine tk 19 (v := ?_) rfl ⟨by kernel_rfl, by kernel_rfl, by kernel_rfl⟩ (fun _ _ _ h => h) (by kernel_rfl) hHeld ?_ ?_
              rotate_left
              · (intro w0 hSw; (try dsimp only at hSw); go_simp; (try with_reducible rfl))
              (try simp only [Act.put, List.setIfInBounds_toArray, List.set_cons_zero, List.set_cons_succ])
              refine tk 20 (v := ?_) rfl ⟨by kernel_rfl, by kernel_rfl, by kernel_rfl⟩ (fun _ _ _ h => h) (by kernel_rfl) hHeld ?_ ?_
              rotate_left
              · (intro w0 hSw; (try dsimp only at hSw); go_simp; (try with_reducible rfl))
              (try simp only [Act.put, List.setIfInBounds_toArray, List.set_cons_zero, List.set_cons_succ])
              refine wpAnyH_done (by kernel_rfl) ?_ _
              clear hHeld e0 e1 e2 e3 e4 e5 p0 p1 p2 p3 p4 p5
              go_wp2_with fail
              go_roundw
              case rel => exact ⟨j + 1, xE, by omega, by go_num, rfl, by omega, Lib.hid (HS.out.ends j xE HO.out.2).1.symm, HR10⟩
              case measure => simp [intOf]; omega
          · exfalso
            obtain rfl : j = q + 1 := by omega
            have h1 := HA.out
            rw [← HN.out, List.take_length, HS.out.all] at h1
            omega
end Go.Proofs.Ythdjddpomaendaa.B
