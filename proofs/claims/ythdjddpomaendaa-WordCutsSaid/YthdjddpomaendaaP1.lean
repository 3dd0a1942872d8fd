/- The walk of WordBack. -/
import Derived.Test.YthdjddpomaendaaO9
import Derived.Test.YthdjddpomaendaaO8
import Derived.Test.YthdjddpomaendaaO7
import Derived.Test.YthdjddpomaendaaQ
namespace Go.Proofs.Ythdjddpomaendaa.B
open Go.RowKit
set_option linter.unusedVariables false
set_option linter.unusedSimpArgs false

def opc (L : List OpV) : List (List Value) := L.map fun o => o.cells.toList
theorem opc_length (L : List OpV) : (opc L).length = L.length := by simp [opc]
theorem opc_snoc (L : List OpV) (o : OpV) : opc L ++ [o.cells.toList] = opc (L ++ [o]) := by simp [opc]
theorem OpV.Ok.below {o : OpV} {w w' : World} (h : o.Ok w) (hb : Below w.heap.size w w') : o.Ok w' := ⟨h.n, h.rd.below hb (Nat.le_refl _), h.c, h.m, h.z⟩
theorem opsAt_row {w : World} {base : Nat} {A : Option Addr} {n c : Nat} {L : List OpV} (h : Row w base 54 6 (.slice A n c) (opc L)) (hk : ∀ o ∈ L, o.Ok w) : OpsAt w A L := by
  intro i o hi
  obtain ⟨ad, rfl, hlt, hc⟩ := h.cell i o.cells.toList (by simp [opc, hi])
  refine ⟨ad, rfl, fun j v hj => hc j v (by rw [Array.getElem?_toList]; exact hj), hk o (List.mem_of_getElem? hi), fun j hj => ?_⟩
  have : (ad.add (i * 6 + j)).block = ad.block := by unfold Addr.add; split <;> rfl
  rw [this]; exact hlt
set_option maxRecDepth 100000 in
theorem infoOp : (Try.prog.info? 54).map (fun i => (i.zero, i.size, i.bytes)) = some (some (OpV.val ⟨0, 0, 0, 0, none, 0, [], ByteArray.empty⟩), 6, 72) := by kernel_rfl
theorem total_ge (L : List OpV) : ∀ k, k ≤ L.length → 4097 * k ≤ total (L.take k)
  | 0, _ => by simp
  | k + 1, hk => by
    have h := total_succ L k L[k] (List.getElem?_eq_getElem (by omega))
    have h2 := total_ge L k (by omega)
    generalize total (L.take (k + 1)) = x at *
    generalize total (L.take k) = y at *
    omega
theorem total_le (L : List OpV) (k : Nat) : total (L.take k) ≤ total L := by
  conv => rhs; rw [← List.take_append_drop k L]
  unfold total
  rw [List.map_append, List.sum_append]
  omega
/-- The six cells of a step, as the walk reads them. -/
theorem op_cells {w : World} {ad : Addr} {k : Nat} {o : OpV} (hcell : ∀ (j : Nat) (v : Value), o.cells[j]? = some v → w.cell? (ad.add (k * 6 + j)) = some v) :
    w.cell? (ad.add (k * 6)) = some (.int .i64 o.kind) ∧ w.cell? ⟨(ad.add (k * 6)).block, (ad.add (k * 6)).off + 1, none⟩ = some (.int .i64 o.at_) ∧ w.cell? ⟨(ad.add (k * 6)).block, (ad.add (k * 6)).off + 2, none⟩ = some (.int .u64 (o.n : Int)) ∧
    w.cell? ⟨(ad.add (k * 6)).block, (ad.add (k * 6)).off + 3, none⟩ = some (.int .i64 o.num) ∧ w.cell? ⟨(ad.add (k * 6)).block, (ad.add (k * 6)).off + 4, none⟩ = some (.slice o.A o.p.length o.c) ∧ w.cell? ⟨(ad.add (k * 6)).block, (ad.add (k * 6)).off + 5, none⟩ = some (.string o.s) := by
  have e0 := hcell 0 (.int .i64 o.kind) rfl
  rw [Nat.add_zero] at e0
  have e1 := hcell 1 (.int .i64 o.at_) rfl
  rw [add_at _ _ 1 (by decide)] at e1
  have e2 := hcell 2 (.int .u64 (o.n : Int)) rfl
  rw [add_at _ _ 2 (by decide)] at e2
  have e3 := hcell 3 (.int .i64 o.num) rfl
  rw [add_at _ _ 3 (by decide)] at e3
  have e4 := hcell 4 (.slice o.A o.p.length o.c) rfl
  rw [add_at _ _ 4 (by decide)] at e4
  have e5 := hcell 5 (.string o.s) rfl
  rw [add_at _ _ 5 (by decide)] at e5
  exact ⟨e0, e1, e2, e3, e4, e5⟩
/-- A row of structs lies apart from a Writer. -/
theorem row_isW {w : World} {base base' g k : Nat} {t : TypeId} {v : Value} {cs : List (List Value)} {vb : Option Nat} {bs : List UInt8} {e : Int} (h : Row w base t k v cs) (hW : IsW w base' g vb bs e) (h1 : t ≠ 108) (h2 : t ≠ 5) :
    ∀ b, v.ownBlock = some b → ¬ (b = g ∨ vb = some b) := by
  obtain ⟨A, c, hvb, hbg, hk, ho⟩ := hW
  intro b hb hor
  rcases hor with rfl | hor
  · exact h.ne_blk hk h1 hb
  · exact h.ne_own ho h2 b hb (hvb.trans hor)
theorem isW_row {w : World} {base base' g k : Nat} {t : TypeId} {v : Value} {cs : List (List Value)} {vb : Option Nat} {bs : List UInt8} {e : Int} (h : Row w base t k v cs) (hW : IsW w base' g vb bs e) (h1 : t ≠ 108) (h2 : t ≠ 5) {w1 : World} (hg : w.grownBy w1 v.ownBlock) :
    IsW w1 base' g vb bs e := by
  have hne := row_isW h hW h1 h2
  exact hW.fr (S := fun b => v.ownBlock = some b) (Fr.of_grown hg (fun b hb => .inl hb)) (fun hb => hne g hb (.inl rfl)) (fun b hb hv => hne b hv (.inr hb))
/-- Where the reading stands. -/
structure BackC (w W : World) (B g : Nat) (A : Option Addr) (c : Nat) (bs : List UInt8) (a1 : Nat) (v : Value) (Ls : List OpV) : Prop where
  r : IsR W B g A c bs a1 0
  row : Row W w.heap.size 54 6 v (opc Ls)
  below : Below w.heap.size w W
structure BackS (w : World) (g : Nat) (bs : List UInt8) (at_ j : Nat) (Ls : List OpV) (o : OpV) : Prop where
  ok : o.Ok w
  good : GoodL Ls
  all : layAll Ls = bs
  at_ : (layAll (Ls.take j)).length = at_
  hj : Ls[j]? = some o
  g : w.heap.size ≤ g
theorem row_cells {W : World} {base : Nat} {ad : Addr} {n c : Nat} {Ls : List OpV} {o : OpV} {j : Nat} (h : Row W base 54 6 (.slice (some ad) n c) (opc Ls)) (ho : Ls[j]? = some o) :
    W.cell? (ad.add (j * 6)) = some (.int .i64 o.kind) ∧ W.cell? ⟨(ad.add (j * 6)).block, (ad.add (j * 6)).off + 1, none⟩ = some (.int .i64 o.at_) ∧ W.cell? ⟨(ad.add (j * 6)).block, (ad.add (j * 6)).off + 2, none⟩ = some (.int .u64 (o.n : Int)) ∧
    W.cell? ⟨(ad.add (j * 6)).block, (ad.add (j * 6)).off + 3, none⟩ = some (.int .i64 o.num) ∧ W.cell? ⟨(ad.add (j * 6)).block, (ad.add (j * 6)).off + 4, none⟩ = some (.slice o.A o.p.length o.c) ∧ W.cell? ⟨(ad.add (j * 6)).block, (ad.add (j * 6)).off + 5, none⟩ = some (.string o.s) := by
  obtain ⟨ad', had, _, hcc⟩ := h.cell j o.cells.toList (by simp [opc, ho])
  injection had with had
  subst had
  exact op_cells (fun x v hx => hcc x v (by rw [Array.getElem?_toList]; exact hx))
theorem BackC.later {w W W' : World} {B g : Nat} {A : Option Addr} {c : Nat} {bs : List UInt8} {a1 : Nat} {v : Value} {Ls : List OpV} (h : BackC w W B g A c bs a1 v Ls) (hb : Below W.heap.size W W') : BackC w W' B g A c bs a1 v Ls :=
  ⟨h.r.below hb, h.row.below hb, h.below.trans (hb.mono h.below.size)⟩
theorem again_step {w W w8 : World} {B g : Nat} {A : Option Addr} {c : Nat} {bs : List UInt8} {at_ j n4 c4 : Nat} {ad : Addr} {Ls : List OpV} {o o' : OpV} (hS : BackS w g bs at_ j Ls o) (hC : BackC w W B g A c bs at_ (.slice (some ad) n4 c4) Ls)
    (hb : Back o bs at_ 0 o' w8) (hR : IsR w8 B g A c bs (againA o bs at_ 0) (againE o bs at_ 0)) (hF : Fr (fun k => k = g) W w8) :
    BackC w w8 B g A c bs (layAll (Ls.take (j + 1))).length (.slice (some ad) n4 c4) Ls ∧ alikeP o o' ∧ Rd w8 o.A o.p.length (bvs o.p) ∧ Rd w8 o'.A o'.p.length (bvs o'.p) ∧
      (w8.cell? (ad.add (j * 6)) = some (.int .i64 o.kind) ∧ w8.cell? ⟨(ad.add (j * 6)).block, (ad.add (j * 6)).off + 1, none⟩ = some (.int .i64 o.at_) ∧ w8.cell? ⟨(ad.add (j * 6)).block, (ad.add (j * 6)).off + 2, none⟩ = some (.int .u64 (o.n : Int)) ∧
      w8.cell? ⟨(ad.add (j * 6)).block, (ad.add (j * 6)).off + 3, none⟩ = some (.int .i64 o.num) ∧ w8.cell? ⟨(ad.add (j * 6)).block, (ad.add (j * 6)).off + 4, none⟩ = some (.slice o.A o.p.length o.c) ∧ w8.cell? ⟨(ad.add (j * 6)).block, (ad.add (j * 6)).off + 5, none⟩ = some (.string o.s)) := by
  obtain ⟨s1, s2, s3, s4, s5, s6⟩ := hS
  subst s3 s4
  obtain ⟨f1, f2, f3⟩ := step_back s2 j o o' w8 s5 hb
  rw [f1, f2] at hR
  have hrow8 : Row w8 w.heap.size 54 6 (.slice (some ad) n4 c4) (opc Ls) := hC.row.fr hF (fun b hb e => hC.row.ne_blk hC.r.blk (by decide) (by rw [hb, e]))
  have hB8 : Below w.heap.size w w8 := hC.below.trans (hF.below (fun k hk => by rw [hk]; exact s6) hC.below.size)
  exact ⟨⟨hR, hrow8, hB8⟩, f3, s1.rd.below hB8 (Nat.le_refl _), hb.rd, row_cells hrow8 s5⟩
theorem alike_step {w W W' : World} {B g : Nat} {A : Option Addr} {c : Nat} {bs : List UInt8} {a1 j n4 c4 : Nat} {ad : Addr} {Ls : List OpV} {o : OpV} (hC : BackC w W B g A c bs a1 (.slice (some ad) n4 c4) Ls) (hb : Below W.heap.size W W') (ho : Ls[j]? = some o) :
    BackC w W' B g A c bs a1 (.slice (some ad) n4 c4) Ls ∧
      (W'.cell? (ad.add (j * 6)) = some (.int .i64 o.kind) ∧ W'.cell? ⟨(ad.add (j * 6)).block, (ad.add (j * 6)).off + 1, none⟩ = some (.int .i64 o.at_) ∧ W'.cell? ⟨(ad.add (j * 6)).block, (ad.add (j * 6)).off + 2, none⟩ = some (.int .u64 (o.n : Int)) ∧
      W'.cell? ⟨(ad.add (j * 6)).block, (ad.add (j * 6)).off + 3, none⟩ = some (.int .i64 o.num) ∧ W'.cell? ⟨(ad.add (j * 6)).block, (ad.add (j * 6)).off + 4, none⟩ = some (.slice o.A o.p.length o.c) ∧ W'.cell? ⟨(ad.add (j * 6)).block, (ad.add (j * 6)).off + 5, none⟩ = some (.string o.s)) :=
  ⟨hC.later hb, row_cells (hC.later hb).row ho⟩

theorem e0_laid : laidE ⟨6, 0, 0, 0, none, 0, [], ⟨#[97, 98]⟩⟩ [] 0 = 0 ∧ (laidB ⟨6, 0, 0, 0, none, 0, [], ⟨#[97, 98]⟩⟩ [] 0).length = 4 := by
  constructor <;> decide

set_option maxHeartbeats 6400000 in
set_option maxRecDepth 100000 in
theorem back_walk (As : Option Addr) (m cs : Nat) (L : List OpV) (w : World) (hL : OpsAt w As L) (hm : L.length = m) (hcs : m ≤ cs) (hmm : m ≤ 9223372036854775807) :
    Calls Try.prog 10 #[.slice As m cs] w fun r w' => r = .returned (.bool true) ∧ Below w.heap.size w w' := by
  have HM := Lib.hid hm
  clear hm
  go_enter Try.func10, Try.ntmps10
  go_wp2_with fail
  refine (sbeyond_ As m cs L _ hL HM.out hcs hmm).mono ?_
  rintro r w1 ⟨b, rfl, hb, hB1⟩
  cases b with
  | true =>
    go_wp2_with fail
    go_ret
    exact ⟨rfl, hB1⟩
  | false =>
    have htot := hb rfl
    have HT := Lib.hid htot
    clear hb htot
    go_wp2_with fail
    refine (newWriter _).mono ?_
    rintro r w2 ⟨rfl, hW2, hb2⟩
    have hB2 : Below w.heap.size w w2 := hB1.trans (hb2.mono hB1.size)
    have hgs := hB1.size
    generalize hg2 : w1.heap.size = g at *
    clear hb2 hB1 hg2
    go_wp2_with fail
    refine (laid_ g g none [] 0 _ hW2 ⟨6, 0, 0, 0, none, 0, [], ⟨#[97, 98]⟩⟩ (by decide) (by decide) (Rd.nil _ _)).mono ?_
    rintro r w3 ⟨rfl, vb3, hW3, hF3⟩
    have hE0 := e0_laid.1
    have hl0 := e0_laid.2
    rw [hE0] at hW3 ⊢
    have hB3 : Below w.heap.size w w3 := hB2.trans (hF3.below hgs (fun k hk => by cases hk) hB2.size)
    have HB0 := Lib.hid (show layAll [⟨6, 0, 0, 0, none, 0, [], ⟨#[97, 98]⟩⟩] = laidB ⟨6, 0, 0, 0, none, 0, [], ⟨#[97, 98]⟩⟩ [] 0 from rfl)
    have HG0 := Lib.hid (show GoodL [⟨6, 0, 0, 0, none, 0, [], ⟨#[97, 98]⟩⟩] from by
      have h := GoodL.snoc (L := []) (fun k o h => by simp at h) ⟨6, 0, 0, 0, none, 0, [], ⟨#[97, 98]⟩⟩ hE0 (by decide)
      exact h)
    generalize hbs0 : laidB ⟨6, 0, 0, 0, none, 0, [], ⟨#[97, 98]⟩⟩ [] 0 = bs0 at *
    clear hF3 hB2 hW2 hE0 hbs0
    go_wp2_with fail
    refine (wLen g g vb3 bs0 0 _ hW3).mono ?_
    rintro r w4 ⟨rfl, rfl⟩
    have hl0' : (bs0.length : Int) = 4 := by omega
    rw [hl0']
    have hrow0 := Row.lit w4 w.heap.size 54 6 (opc [⟨6, 0, 0, 0, none, 0, [], ⟨#[97, 98]⟩⟩]) (by simp [opc]; rfl) hB3.size (by decide)
    have hW5 := hW3.below (below_alloc (Below.refl _ w4) (.cells (opc [⟨6, 0, 0, 0, none, 0, [], ⟨#[97, 98]⟩⟩]).flatten.toArray 54))
    have hB5 := below_alloc hB3 (.cells (opc [⟨6, 0, 0, 0, none, 0, [], ⟨#[97, 98]⟩⟩]).flatten.toArray 54)
    have HL0 := Lib.hid hl0
    clear hl0 hl0' hW3
    go_wp2_with fail
    go_loopw [4, 5, 6] (fun v nn i wr => ∃ k vb bs e Ls, k ≤ m ∧ i = .int .i64 (k : Int) ∧ nn = .int .i64 ((bs.length : Nat) : Int) ∧ Row wr w.heap.size 54 6 v (opc Ls) ∧ IsW wr g g vb bs e ∧ Below w.heap.size w wr ∧ bs.length ≤ 4 + total (L.take k) ∧ Ls.length ≤ 1 + k ∧ Hid (layAll Ls = bs ∧ GoodL Ls ∧ ∀ o ∈ Ls, o.Ok w)) (fun _ _ i _ => m - (intOf i).toNat)
    case atStart =>
      refine ⟨0, vb3, bs0, 0, [⟨6, 0, 0, 0, none, 0, [], ⟨#[97, 98]⟩⟩], Nat.zero_le _, rfl, by rw [HL0.out]; rfl, hrow0, hW5, hB5, by rw [HL0.out]; omega, by simp, Lib.hid ⟨HB0.out, HG0.out, fun o ho => ?_⟩⟩
      rw [List.mem_singleton.1 ho]
      exact ⟨by decide, Rd.nil _ _, Nat.le_refl _, by decide, by decide⟩
    case round =>
      clear hrow0 hW5 hB5 hB3 HL0 HB0 HG0
      obtain ⟨k, vb, bs, e, Ls, hk, rfl, rfl, hrow, hW, hB, hbl, hll, HS⟩ := hrel
      by_cases hlt : k < m
      · obtain ⟨o, ho⟩ : ∃ o, L[k]? = some o := ⟨_, List.getElem?_eq_getElem (by rw [HM.out]; exact hlt)⟩
        obtain ⟨ad, rfl, hcell, hok, hblk⟩ := (hL.below hB) k o ho
        obtain ⟨e0, e1, e2, e3, e4, e5⟩ := op_cells hcell
        have hts := total_succ L k o ho
        have htk := total_le L (k + 1)
        have htt := HT.out
        have hkl := total_ge L k (by have := HM.out; omega)
        have hbb : bs.length + o.p.length + o.s.size + 4104 ≤ 140737488351232 := by omega
        have hll2 : Ls.length ≤ 1000000 := by omega
        have hbl2 : ∀ l : List UInt8, l.length ≤ 4097 + o.p.length + o.s.size → (bs ++ l).length ≤ 4 + total (L.take (k + 1)) := fun l hl => by rw [List.length_append, hts]; omega
        have HBL := Lib.hid hbl2
        have HBL3 := Lib.hid (show bs.length ≤ 4 + total (L.take (k + 1)) by omega)
        clear hcell hts htk htt hkl hbl2 hblk hbl
        have hneW := row_isW hrow hW (by decide) (by decide)
        obtain ⟨lx, hlx, hlx2⟩ := laid_ext o bs e
        have HLX := Lib.hid (And.intro hlx hlx2)
        clear hlx hlx2
        by_cases hE : laidE o bs e = 0
        · have he : e = 0 := Classical.byContradiction fun hne => hne (by rw [(laid_no o bs e hne).2] at hE; exact hE)
          subst he
          go_wp2_with fail
          refine (laid_ g g vb bs 0 wr hW o hbb hok.n hok.rd).mono ?_
          rintro r w5 ⟨rfl, vb5, hW6, hF6⟩
          rw [hE] at hW6 ⊢
          have hrow6 := hrow.fr hF6.1 hneW
          have hB6 : Below w.heap.size w w5 := hB.trans (hF6.below hgs (fun b hb => by have := hW.lt.2.2 b hb; omega) hB.size)
          obtain ⟨ad', had', hcell', hok', _⟩ := (hL.below hB6) k o ho
          injection had' with had'
          subst had'
          have HOK := Lib.hid hok'
          clear e0 e1 e2 e3 e4 e5 hok hrow hW hB hF6 hneW hok'
          obtain ⟨e0, e1, e2, e3, e4, e5⟩ := op_cells hcell'
          clear hcell'
          have hb7 := below_alloc (Below.refl w5.heap.size w5) (.cells o.cells.toList.toArray 54)
          have hrow7 := hrow6.below hb7
          have hW7 := hW6.below hb7
          have hB7 := hB6.trans (hb7.mono hB6.size)
          have hbx := box_cells w5 o.cells.toList 54
          have HX := Lib.hid (And.intro hrow7 (And.intro hW7 (And.intro hB7 hbx)))
          have hs5 : w.heap.size ≤ w5.heap.size := hB6.size
          have hll3 : (opc Ls).length ≤ 1000000 := by rw [opc_length]; exact hll2
          clear hrow6 hrow7 hW6 hW7 hB6 hB7 hb7 hbx
          go_wp2_with ((with_reducible refine at_builtin_ (b := .append) rfl ?_); go_must (refine app_row rfl _ _ 54 42 rfl w.heap.size 6 72 _ Try.underlying42 infoOp rfl (by decide) _ (opc Ls) rfl ⟨w5.heap.size, 0, none⟩ 1 rfl HX.out.1 o.cells.toList rfl (by intro u hu; simp [OpV.cells] at hu; rcases hu with rfl | rfl | rfl | rfl | rfl | rfl <;> rfl) HX.out.2.2.2 (by omega) (by omega) (by simp; omega) _ rfl ?_); intro A8 c8 w8 hrow8 hg8 hat8)
          have hW8 := isW_row HX.out.1 HX.out.2.1 (by decide) (by decide) hg8
          have hF8 : Fr (fun b => w.heap.size ≤ b) (w5.alloc (.cells o.cells.toList.toArray 54)) w8 := Fr.of_grown hg8 (fun b hb => .inl (HX.out.1.typed b hb).1)
          have hB8 : Below w.heap.size w w8 := HX.out.2.2.1.trans (hF8.below (fun b hb => hb) HX.out.2.2.1.size)
          have HY := Lib.hid (And.intro hrow8 (And.intro hW8 hB8))
          clear HX hrow8 hg8 hat8 hF8 hB8 e0 e1 e2 e3 e4 e5
          refine (wLen g g vb5 (laidB o bs 0) 0 _ hW8).mono ?_
          rintro r w9 ⟨rfl, rfl⟩
          clear hW8
          go_wp2_with fail
          go_roundw
          case rel =>
            refine ⟨k + 1, vb5, laidB o bs 0, 0, Ls ++ [o], by omega, by go_num, rfl, by rw [← opc_snoc]; exact HY.out.1, HY.out.2.1, HY.out.2.2, by rw [HLX.out.1]; exact HBL.out lx HLX.out.2, by rw [List.length_append]; simp; omega, Lib.hid ?_⟩
            obtain ⟨s1, s2, s3⟩ := HS.out
            subst s1
            refine ⟨by rw [layAll_snoc], s2.snoc o hE HOK.out.n, fun o' ho' => ?_⟩
            rcases List.mem_append.1 ho' with ho' | ho'
            · exact s3 o' ho'
            · rw [List.mem_singleton.1 ho']
              obtain ⟨_, _, _, hok0, _⟩ := hL k o ho
              exact hok0
          case measure => simp [intOf]; omega
        · have hnb : laidB o bs e = bs := by
            by_cases he : e = 0
            · subst he; exact laid_ref o bs hE
            · exact (laid_no o bs e he).1
          have hE2 : (laidE o bs e == 0) = false := beqf hE
          have HNB := Lib.hid hnb
          clear hE hnb
          go_wp2_with fail
          refine (laid_ g g vb bs e wr hW o hbb hok.n hok.rd).mono ?_
          rintro r w5 ⟨rfl, vb5, hW6, hF6⟩
          have hrow6 := hrow.fr hF6.1 hneW
          have hB6 : Below w.heap.size w w5 := hB.trans (hF6.below hgs (fun b hb => by have := hW.lt.2.2 b hb; omega) hB.size)
          rw [HNB.out] at hW6
          have HX := Lib.hid (And.intro hrow6 (And.intro hW6 hB6))
          clear e0 e1 e2 e3 e4 e5 hok hrow hW hB hF6 hneW hrow6 hW6 hB6
          rw [hE2]
          go_wp2_with fail
          go_roundw
          case rel => exact ⟨k + 1, vb5, bs, _, Ls, by omega, by go_num, rfl, HX.out.1, HX.out.2.1, HX.out.2.2, HBL3.out, by omega, HS⟩
          case measure => simp [intOf]; omega
      · obtain rfl : k = m := by omega
        have hbl2 : bs.length ≤ 2147483651 := by
          have := HT.out
          have := total_le L k
          omega
        have HLL := Lib.hid hll
        clear hbl hll hlt hk
        go_wp2_with fail
        refine (wAll g g vb bs e wr hW (by omega)).mono ?_
        rintro r w5 ⟨A5, c5, rfl, hO5, hb5⟩
        have hrow5 := hrow.below hb5
        have hW5 := hW.below hb5
        have hB5 : Below w.heap.size w w5 := hB.trans (hb5.mono hB.size)
        clear hrow hW hB hb5
        go_wp2_with fail
        refine (newReader A5 bs.length c5 bs _ hO5.rd_ (by omega)).mono ?_
        rintro r w6 ⟨g6, A6, c6, rfl, hR6, hb6⟩
        have hrow6 := hrow5.below hb6
        have hW6 := hW5.below hb6
        have hB6 : Below w.heap.size w w6 := hB5.trans (hb6.mono hB5.size)
        have hg6 := hR6.hg
        have hs5 := hB5.size
        clear hrow5 hW5 hB5 hO5
        go_wp2_with fail
        refine (wLen g g vb bs e _ hW6).mono ?_
        rintro r w7 ⟨rfl, rfl⟩
        have t7 : ((bs.length : Int) != (bs.length : Int)) = false := by simp
        clear hW6
        go_wp2_with fail
        obtain ⟨A4, c4, hv4, hc4⟩ := hrow6.shape
        rw [opc_length] at hv4 hc4
        subst hv4
        have hmx := hrow6.max
        rw [opc_length] at hmx
        obtain ⟨n4, hn4⟩ : ∃ n4, Ls.length = n4 := ⟨_, rfl⟩
        have HN4 := Lib.hid hn4
        rw [hn4] at hrow6 hc4 hmx ⊢
        clear hn4 t7
        go_loopw [8] (fun i wr => ∃ j at_, j ≤ n4 ∧ i = .int .i64 ((j : Nat) : Int) ∧ Hid ((layAll (Ls.take j)).length = at_) ∧ IsR wr w5.heap.size g6 A6 c6 bs at_ 0 ∧ Row wr w.heap.size 54 6 (.slice A4 n4 c4) (opc Ls) ∧ Below w.heap.size w wr) (fun i _ => n4 - (intOf i).toNat)
        case atStart => exact ⟨0, 0, Nat.zero_le _, rfl, Lib.hid rfl, hR6, hrow6, hB6⟩
        case round =>
          clear hR6 hrow6 hB6
          obtain ⟨j, at_, hj, rfl, HA, hR, hrow, hB⟩ := hrel
          by_cases hjl : j < n4
          · obtain ⟨o, ho⟩ : ∃ o, Ls[j]? = some o := ⟨_, List.getElem?_eq_getElem (by rw [HN4.out]; exact hjl)⟩
            have HO := Lib.hid ho
            have hokw := HS.out.2.2 o (List.mem_of_getElem? ho)
            obtain ⟨ad, rfl, hadl, hcc⟩ := hrow.cell j o.cells.toList (by simp [opc, ho])
            obtain ⟨e0, e1, e2, e3, e4, e5⟩ := op_cells (w := wr) (ad := ad) (k := j) (o := o) (fun x v hx => hcc x v (by rw [Array.getElem?_toList]; exact hx))
            have hi0 : (0 : Int) ≤ (j : Int) := by omega
            have hi1 : (j : Int) < (n4 : Int) := by omega
            have HC : Hid (BackC w wr.drew w5.heap.size g6 A6 c6 bs at_ (.slice (some ad) n4 c4) Ls) := Lib.hid (BackC.later ⟨hR, hrow, hB⟩ (below_drewN (Below.refl _ wr) 1))
            have HBS : Hid (BackS w g6 bs at_ j Ls o) := Lib.hid ⟨hokw, HS.out.2.1, HS.out.1, HA.out, ho, Nat.le_trans hs5 hg6⟩
            have HPL := Lib.hid (Nat.le_trans hokw.c hokw.m)
            clear hcc ho hokw hR hrow hB
            go_wp2_with fail
            refine wp_region_held_drew (S := (fun w' => w'.cell? (ad.add (j * 6)) = some (.int .i64 o.kind) ∧ w'.cell? ⟨(ad.add (j * 6)).block, (ad.add (j * 6)).off + 1, none⟩ = some (.int .i64 o.at_) ∧ w'.cell? ⟨(ad.add (j * 6)).block, (ad.add (j * 6)).off + 2, none⟩ = some (.int .u64 (o.n : Int)) ∧ w'.cell? ⟨(ad.add (j * 6)).block, (ad.add (j * 6)).off + 3, none⟩ = some (.int .i64 o.num) ∧ w'.cell? ⟨(ad.add (j * 6)).block, (ad.add (j * 6)).off + 4, none⟩ = some (.slice o.A o.p.length o.c) ∧ w'.cell? ⟨(ad.add (j * 6)).block, (ad.add (j * 6)).off + 5, none⟩ = some (.string o.s))) (by kernel_rfl) ?_ (fun hHeld => ?_)
            · (try dsimp only); go_keep
            refine tk 0 (v := ?_) rfl ⟨by kernel_rfl, by kernel_rfl, by kernel_rfl⟩ (fun _ _ _ h => h) (by kernel_rfl) hHeld ?_ ?_
            rotate_left
            · (intro w0 hSw; (try dsimp only at hSw); go_simp; (try with_reducible rfl))
            (try simp only [Act.put, List.setIfInBounds_toArray, List.set_cons_zero, List.set_cons_succ])
            refine tk 1 (v := ?_) rfl ⟨by kernel_rfl, by kernel_rfl, by kernel_rfl⟩ (fun _ _ _ h => h) (by kernel_rfl) hHeld ?_ ?_
            rotate_left
            · (intro w0 hSw; (try dsimp only at hSw); go_simp; (try with_reducible rfl))
            (try simp only [Act.put, List.setIfInBounds_toArray, List.set_cons_zero, List.set_cons_succ])
            refine tk 2 (v := ?_) rfl ⟨by kernel_rfl, by kernel_rfl, by kernel_rfl⟩ (fun _ _ _ h => h) (by kernel_rfl) hHeld ?_ ?_
            rotate_left
            · (intro w0 hSw; (try dsimp only at hSw); go_simp; (try with_reducible rfl))
            (try simp only [Act.put, List.setIfInBounds_toArray, List.set_cons_zero, List.set_cons_succ])
            refine tk 3 (v := ?_) rfl ⟨by kernel_rfl, by kernel_rfl, by kernel_rfl⟩ (fun _ _ _ h => h) (by kernel_rfl) hHeld ?_ ?_
            rotate_left
            · (intro w0 hSw; (try dsimp only at hSw); go_simp; (try with_reducible rfl))
            (try simp only [Act.put, List.setIfInBounds_toArray, List.set_cons_zero, List.set_cons_succ])
            refine tk 4 (v := ?_) rfl ⟨by kernel_rfl, by kernel_rfl, by kernel_rfl⟩ (fun _ _ _ h => h) (by kernel_rfl) hHeld ?_ ?_
            rotate_left
            · (intro w0 hSw; (try dsimp only at hSw); go_simp; (try with_reducible rfl))
            (try simp only [Act.put, List.setIfInBounds_toArray, List.set_cons_zero, List.set_cons_succ])
            refine tk 5 (v := ?_) rfl ⟨by kernel_rfl, by kernel_rfl, by kernel_rfl⟩ (fun _ _ _ h => h) (by kernel_rfl) hHeld ?_ ?_
            rotate_left
            · (intro w0 hSw; (try dsimp only at hSw); go_simp; (try with_reducible rfl))
            (try simp only [Act.put, List.setIfInBounds_toArray, List.set_cons_zero, List.set_cons_succ])
            refine tk 6 (v := ?_) rfl ⟨by kernel_rfl, by kernel_rfl, by kernel_rfl⟩ (fun _ _ _ h => h) (by kernel_rfl) hHeld ?_ ?_
            rotate_left
            · (intro w0 hSw; (try dsimp only at hSw); go_simp; (try with_reducible rfl))
            (try simp only [Act.put, List.setIfInBounds_toArray, List.set_cons_zero, List.set_cons_succ])
            refine tk 7 (v := ?_) rfl ⟨by kernel_rfl, by kernel_rfl, by kernel_rfl⟩ (fun _ _ _ h => h) (by kernel_rfl) hHeld ?_ ?_
            rotate_left
            · (intro w0 hSw; (try dsimp only at hSw); go_simp; (try with_reducible rfl))
            (try simp only [Act.put, List.setIfInBounds_toArray, List.set_cons_zero, List.set_cons_succ])
            refine tk 8 (v := ?_) rfl ⟨by kernel_rfl, by kernel_rfl, by kernel_rfl⟩ (fun _ _ _ h => h) (by kernel_rfl) hHeld ?_ ?_
            rotate_left
            · (intro w0 hSw; (try dsimp only at hSw); go_simp; (try with_reducible rfl))
            (try simp only [Act.put, List.setIfInBounds_toArray, List.set_cons_zero, List.set_cons_succ])
            refine cr 9 rfl (by kernel_rfl) (fun K hK => ?_)
            (refine goes Try.func57 (by kernel_rfl) rfl #[.pointer (some ⟨g6, 0, none⟩), o.val] rfl rfl (by simp only [List.map_toArray, List.map_cons, List.map_nil]; rfl) ?_; refine (again_ w5.heap.size g6 A6 c6 bs at_ 0 _ HC.out.r o HPL.out).mono ?_; rintro r w8 ⟨o', rfl, hBk, hR8, hF8⟩; refine ⟨_, rfl, ?_⟩; have HD := Lib.hid (again_step HBS.out HC.out hBk hR8 hF8); clear hBk hR8 hF8; obtain ⟨q0, q1, q2, q3, q4, q5⟩ := HD.out.2.2.2.2)
            clear hHeld
            refine hK.out _ _ ?_ (fun hHeld => ?_)
            · (try dsimp only); go_keep
            clear hK K
            (try simp only [Act.put, List.setIfInBounds_toArray, List.set_cons_zero, List.set_cons_succ])
            refine cr 10 rfl (by kernel_rfl) (fun K hK => ?_)
            (refine goes Try.func56 (by kernel_rfl) rfl #[o.val, o'.val] rfl rfl (by simp only [List.map_toArray, List.map_cons, List.map_nil]; rfl) ?_; refine (alike_ o o' _ HD.out.2.1 HD.out.2.2.1 HD.out.2.2.2.1).mono ?_; rintro r w9 ⟨rfl, hb9⟩; refine ⟨_, rfl, ?_⟩; clear q0 q1 q2 q3 q4 q5; have HE := Lib.hid (alike_step HD.out.1 hb9 HO.out); clear hb9; obtain ⟨q0, q1, q2, q3, q4, q5⟩ := HE.out.2)
            clear hHeld
            refine hK.out _ _ ?_ (fun hHeld => ?_)
            · (try dsimp only); go_keep
            clear hK K
            (try simp only [Act.put, List.setIfInBounds_toArray, List.set_cons_zero, List.set_cons_succ])
            refine tk 11 (v := ?_) rfl ⟨by kernel_rfl, by kernel_rfl, by kernel_rfl⟩ (fun _ _ _ h => h) (by kernel_rfl) hHeld ?_ ?_
            rotate_left
            · (intro w0 hSw; (try dsimp only at hSw); go_simp; (try with_reducible rfl))
            (try simp only [Act.put, List.setIfInBounds_toArray, List.set_cons_zero, List.set_cons_succ])
            refine tk 12 (v := ?_) rfl ⟨by kernel_rfl, by kernel_rfl, by kernel_rfl⟩ (fun _ _ _ h => h) (by kernel_rfl) hHeld ?_ ?_
            rotate_left
            · (intro w0 hSw; (try dsimp only at hSw); go_simp; (try with_reducible rfl))
            (try simp only [Act.put, List.setIfInBounds_toArray, List.set_cons_zero, List.set_cons_succ])
            refine tk 13 (v := ?_) rfl ⟨by kernel_rfl, by kernel_rfl, by kernel_rfl⟩ (fun _ _ _ h => h) (by kernel_rfl) hHeld ?_ ?_
            rotate_left
            · (intro w0 hSw; (try dsimp only at hSw); go_simp; (try with_reducible rfl))
            (try simp only [Act.put, List.setIfInBounds_toArray, List.set_cons_zero, List.set_cons_succ])
            refine cr 14 rfl (by kernel_rfl) (fun K hK => ?_)
            (refine goes Try.func41 (by kernel_rfl) rfl #[.pointer (some ⟨g6, 0, none⟩)] rfl rfl (by simp only [List.map_toArray, List.map_cons, List.map_nil]; rfl) ?_; refine (rErr w5.heap.size g6 A6 c6 bs (layAll (Ls.take (j + 1))).length 0 _ HE.out.1.r).mono ?_; rintro r w10 ⟨rfl, rfl⟩; refine ⟨_, rfl, ?_⟩)
            clear hHeld
            refine hK.out _ _ ?_ (fun hHeld => ?_)
            · (try dsimp only); go_keep
            clear hK K
            (try simp only [Act.put, List.setIfInBounds_toArray, List.set_cons_zero, List.set_cons_succ])
            refine tk 15 (v := ?_) rfl ⟨by kernel_rfl, by kernel_rfl, by kernel_rfl⟩ (fun _ _ _ h => h) (by kernel_rfl) hHeld ?_ ?_
            rotate_left
            · (intro w0 hSw; (try dsimp only at hSw); go_simp; (try with_reducible rfl))
            (try simp only [Act.put, List.setIfInBounds_toArray, List.set_cons_zero, List.set_cons_succ])
            refine tk 16 (v := ?_) rfl ⟨by kernel_rfl, by kernel_rfl, by kernel_rfl⟩ (fun _ _ _ h => h) (by kernel_rfl) hHeld ?_ ?_
            rotate_left
            · (intro w0 hSw; (try dsimp only at hSw); go_simp; (try with_reducible rfl))
            (try simp only [Act.put, List.setIfInBounds_toArray, List.set_cons_zero, List.set_cons_succ])
            refine wpAnyH_done (by kernel_rfl) ?_ _
            clear hHeld q0 q1 q2 q3 q4 q5 e0 e1 e2 e3 e4 e5
            go_wp2_with fail
            go_roundw
            case rel => exact ⟨j + 1, _, by omega, by go_num, Lib.hid rfl, HE.out.1.r, HE.out.1.row, HE.out.1.below⟩
            case measure => simp [intOf]; omega
          · obtain rfl : j = n4 := by omega
            have hat : at_ = bs.length := by
              have h1 := HA.out
              rw [← HN4.out, List.take_length, HS.out.1] at h1
              exact h1.symm
            subst hat
            have HE := Lib.hid (show endE bs.length bs.length 0 = 0 from if_neg (by omega))
            have HB := Lib.hid hB
            clear hB hrow
            go_wp2_with fail
            refine (rEnd w5.heap.size g6 A6 c6 bs bs.length 0 _ hR).mono ?_
            rintro r w8 ⟨rfl, ⟨n8, rfl⟩⟩
            rw [HE.out]
            have hR8 := hR.below (below_drewN (Below.refl _ wr) n8)
            clear hR
            go_wp2_with fail
            refine (rLeft w5.heap.size g6 A6 c6 bs bs.length 0 _ hR8).mono ?_
            rintro r w9 ⟨rfl, ⟨n9, rfl⟩⟩
            rw [Nat.sub_self]
            have hR9 : IsR (wr.drewN (n8 + n9)) w5.heap.size g6 A6 c6 bs bs.length 0 := by rw [← World.drewN_drewN]; exact hR8.below (below_drewN (Below.refl _ _) n9)
            clear hR8
            go_wp2_with fail
            refine (rAt w5.heap.size g6 A6 c6 bs bs.length 0 _ hR9).mono ?_
            rintro r w10 ⟨rfl, rfl⟩
            have t7 : ((bs.length : Int) == (bs.length : Int)) = true := by simp
            clear hR9
            go_wp2_with fail
            go_ret
            exact ⟨rfl, below_drewN HB.out _⟩
end Go.Proofs.Ythdjddpomaendaa.B
