/- takes, kind 5, and takes of every kind. -/
import Derived.Test.YthdjddpomaendaaY4
namespace Go.Proofs.Ythdjddpomaendaa.B
open Go.RowKit
set_option linter.unusedVariables false
set_option linter.unusedSimpArgs false

/-- Steps stay as they are. -/
def OpKeep (w w' : World) : Prop := ∀ (b : Nat) (l : List Value), Blk w b l 54 → Blk w' b l 54
theorem OpKeep.trans {w w1 w2 : World} (h : OpKeep w w1) (k : OpKeep w1 w2) : OpKeep w w2 := fun b l hb => k b l (h b l hb)
theorem OpKeep.below {w w1 : World} (h : Below w.heap.size w w1) : OpKeep w w1 := fun b l hb => hb.below h hb.lt
theorem OpKeep.fr {w w1 : World} {S : Nat → Prop} (hf : Fr S w w1) (hS : ∀ k, S k → ∃ cells t, w.heap[k]? = some (.cells cells t (0, 0)) ∧ t ≠ 54) : OpKeep w w1 := fun b l hb => hb.fr hf (fun h => by
  obtain ⟨cells, t, hc, ht⟩ := hS b h
  exact typed_ne hc hb ht rfl)
theorem Rp.opKeep {p : Rp} {w w1 : World} {b c0 : Nat} {A0 : Option Addr} {bs : List UInt8} (h : p.ok w b A0 c0 bs) (hf : Fr p.S w w1) : OpKeep w w1 := OpKeep.fr hf (fun k hk => by
  rcases hk with rfl | rfl
  · exact ⟨_, _, h.hr.blk, by decide⟩
  · exact ⟨_, _, h.hu.blk, by decide⟩)
section
variable {w w1 : World} {base gx c0 : Nat} {A0 : Option Addr} {bs : List UInt8} {vrs vis vl vw : Value} {n : Int} {P : List Rp} {I : List Kp}
theorem ShC.bookKeep (h : ShC w base gx A0 c0 bs vrs vis vl vw n (rpc P) (upc P) P I) (hf : Fr (bookS w base gx) w w1) : OpKeep w w1 := OpKeep.fr hf (fun k hk => by
  rcases hk with rfl | ⟨_, cells, hc⟩
  · exact ⟨_, _, h.blk, by decide⟩
  · exact ⟨_, _, hc, by decide⟩)
theorem ShC.set {w1 : World} (h : ShC w base gx A0 c0 bs vrs vis vl vw n (rpc P) (upc P) P I) {i : Nat} {q : Rp} (hi : P[i]? = some q) (a : Nat) (e : Int) (hp' : Rp.ok ⟨q.g, q.A, q.c, q.gv, a, e⟩ w1 base A0 c0 bs) (hf : Fr q.S w w1) :
    ShC w1 base gx A0 c0 bs vrs vis vl vw n (rpc (P.set i ⟨q.g, q.A, q.c, q.gv, a, e⟩)) (upc (P.set i ⟨q.g, q.A, q.c, q.gv, a, e⟩)) (P.set i ⟨q.g, q.A, q.c, q.gv, a, e⟩) I := by
  rw [rpc_set (p' := ⟨q.g, q.A, q.c, q.gv, a, e⟩) hi rfl, upc_set (p' := ⟨q.g, q.A, q.c, q.gv, a, e⟩) hi rfl]
  exact h.step i q _ hi rfl rfl hp' hf
theorem Rp.S_base {q : Rp} (h : q.ok w base A0 c0 bs) : ∀ k, q.S k → base ≤ k := fun k hk => by
  rcases hk with rfl | rfl
  · exact h.hr.hg
  · exact h.hu.hg
end

set_option maxHeartbeats 6400000 in
set_option maxRecDepth 100000 in
theorem takes5 (base gx : Nat) (A0 : Option Addr) (c0 : Nat) (bs : List UInt8) (vrs vis vl vw : Value) (n : Int) (P : List Rp) (I : List Kp) (i : Nat) (q : Rp) (a : Int) (nn : Nat) (num : Int) (A2 : Option Addr) (c2 : Nat) (p : List UInt8) (s : ByteArray) (w : World)
    (hS : ShC w base gx A0 c0 bs vrs vis vl vw n (rpc P) (upc P) P I) (hi : P[i]? = some q) (hnum : num ≤ 9223372036854775807) :
    Calls Try.prog 88 #[.pointer (some ⟨gx, 0, none⟩), .pointer (some ⟨q.g, 0, none⟩), .pointer (some ⟨q.gv, 0, none⟩), OpV.val ⟨5, a, nn, num, A2, c2, p, s⟩] w fun r w' => r = .returned (.bool true) ∧
      ∃ vl' vw' n' I', ShC w' base gx A0 c0 bs vrs vis vl' vw' n' (rpc (P.set i ⟨q.g, q.A, q.c, q.gv, bytesA num bs q.at_ q.e, bytesE num bs q.at_ q.e⟩)) (upc (P.set i ⟨q.g, q.A, q.c, q.gv, bytesA num bs q.at_ q.e, bytesE num bs q.at_ q.e⟩)) (P.set i ⟨q.g, q.A, q.c, q.gv, bytesA num bs q.at_ q.e, bytesE num bs q.at_ q.e⟩) I' ∧ Below base w w' ∧ OpKeep w w' := by
  have hb1 : Below w.heap.size w (w.alloc (.cells (OpV.cells ⟨5, a, nn, num, A2, c2, p, s⟩) 54)) := below_alloc (Below.refl _ w) _
  have hk1 : Blk (w.alloc (.cells (OpV.cells ⟨5, a, nn, num, A2, c2, p, s⟩) 54)) w.heap.size (OpV.cells ⟨5, a, nn, num, A2, c2, p, s⟩).toList 54 := Blk.new w _ _
  have HI := Lib.hid hi
  have HS := Lib.hid hS
  have HS1 := Lib.hid (And.intro (hS.below hb1) (And.intro hb1 hk1))
  have hlen := hS.hlen
  have q0 := hk1.cell 3 (.int .i64 num) rfl
  clear hS hb1 hk1 hi
  show Calls Try.prog 88 #[.pointer (some ⟨gx, 0, none⟩), .pointer (some ⟨q.g, 0, none⟩), .pointer (some ⟨q.gv, 0, none⟩), .agg #[.int .i64 5, .int .i64 a, .int .u64 (nn : Int), .int .i64 num, .slice A2 p.length c2, .string s]] w _
  go_enter Try.func88, Try.ntmps88
  go_wp2_with fail
  have hq1 := HS1.out.1.ok q (List.mem_of_getElem? HI.out)
  refine (rBytes base q.g q.A q.c bs q.at_ q.e _ hq1.hr num hnum).mono ?_
  rintro r w2 ⟨A4, n4, c4, rfl, hn4, hO4, hR2, hF2⟩
  have hU2 := hq1.hu.past_r hq1.hr hF2
  have hk2 := HS1.out.2.2.fr hF2 (fun h => by have := (HS.out.P_lt q (List.mem_of_getElem? HI.out)).1; omega)
  clear q0
  have q0 := hk2.cell 3 (.int .i64 num) rfl
  have H2 := Lib.hid (And.intro hR2 (And.intro hU2 (And.intro hF2 (And.intro hO4 (And.intro hn4 hq1)))))
  clear hR2 hU2 hF2 hk2 hO4 hn4 hq1
  go_wp2_with fail
  refine (uBytes base q.gv A0 c0 bs q.at_ q.e _ H2.out.2.1 num hnum).mono ?_
  rintro r w3 ⟨A5, n5, c5, rfl, hn5, hO5, hU3, hF3⟩
  have hR3 := H2.out.1.past_u H2.out.2.1 hF3
  have hO4 : Own w3 (w.alloc (.cells (OpV.cells ⟨5, a, nn, num, A2, c2, p, s⟩) 54)).heap.size (.slice A4 n4 c4) (bytesV num bs q.at_ q.e) := H2.out.2.2.2.1.fr hF3 (fun k hk h => by
    obtain ⟨cells, hc⟩ := own_typed H2.out.2.2.2.1 k hk
    exact typed_ne hc H2.out.2.1.blk (by decide) h)
  have hFq := Fr.two HS1.out.2.1 H2.out.2.2.1 hF3
  have hq0 := HS.out.ok q (List.mem_of_getElem? HI.out)
  have hS3 := HS.out.set HI.out (bytesA num bs q.at_ q.e) (bytesE num bs q.at_ q.e) ⟨hR3, hU3⟩ hFq
  have hB3 : Below base w w3 := hFq.below (Rp.S_base hq0) (by have := HS.out.lt; omega)
  have hrx := hO4.rd_
  have hry := hO5.rd_
  have hsame := same A4 A5 n4 c4 n5 c5 (bytesV num bs q.at_ q.e) (bytesV num bs q.at_ q.e) w3 hrx hry
  rw [decide_eq_true rfl] at hsame
  have HM := Lib.hid hsame
  have hn4 := H2.out.2.2.2.2.1
  have hvl : (bytesV num bs q.at_ q.e).length ≤ bs.length := by
    unfold bytesV
    split
    · simp; omega
    · simp
  have H3 := Lib.hid (And.intro hS3 (And.intro hB3 (And.intro hO4 (And.intro (Rp.opKeep hq0 hFq) (And.intro hn4 hvl)))))
  clear hR3 hO4 hFq hq0 hS3 hB3 hrx hry hsame hU3 hF3 hO5 hn5 H2 q0 hn4 hvl
  go_wp2_with fail
  refine HM.out.mono ?_
  rintro r w4 ⟨rfl, ⟨nd, rfl⟩⟩
  clear HM
  go_wp2_with fail
  have hS4 := H3.out.1.below (below_drewN (Below.refl _ w3) nd)
  obtain ⟨e4, hvl⟩ := H3.out.2.2.2.2
  subst e4
  refine (keep_ base gx 3 75 [.slice A0 bs.length c0, vrs, vis] [] vl vw I A4 c4 (bytesV num bs q.at_ q.e) _ n hS4.book hS4.hn hS4.kps hS4.sz ((H3.out.2.2.1.mono (by have := HS.out.lt; simp; omega)).below (below_drewN (Below.refl _ w3) nd)) (by omega) (fun x hx b hb e => by have h1 := HS.out.I_lt x hx b (.inl hb); have h2 := (H3.out.2.2.1.base_le b e).1; simp at h2; omega)).mono ?_
  rintro r w5 ⟨rfl, vl5, vw5, I5, n5', hC5, hn5, hK5, hl5, hI5, hF5⟩
  have hS5 := hS4.kept hC5 hn5 hK5 hl5 hF5
  have hB5 : Below base w w5 := (H3.out.2.1.trans (below_drewN (Below.refl base w3) nd)).trans (hF5.below (fun x hx => by rcases hx with rfl | hx; exact HS.out.lt.1; exact hx.1) (by have := hS4.lt; omega))
  have hk5 : OpKeep w w5 := (H3.out.2.2.2.1.trans (OpKeep.below (below_drewN (Below.refl _ w3) nd))).trans (hS4.bookKeep hF5)
  have HX := Lib.hid (And.intro hS5 (And.intro hB5 hk5))
  clear hC5 hn5 hK5 hl5 hI5 hF5 hS5 hB5 hk5 hS4 hvl
  go_wp2_with fail
  go_ret
  exact ⟨rfl, _, _, _, _, HX.out.1, HX.out.2.1, HX.out.2.2⟩

theorem takes_ (base gx : Nat) (A0 : Option Addr) (c0 : Nat) (bs : List UInt8) (vrs vis vl vw : Value) (n : Int) (P : List Rp) (I : List Kp) (i : Nat) (q : Rp) (o : OpV) (w : World)
    (hS : ShC w base gx A0 c0 bs vrs vis vl vw n (rpc P) (upc P) P I) (hi : P[i]? = some q) (hnum : o.num ≤ 9223372036854775807) :
    Calls Try.prog 88 #[.pointer (some ⟨gx, 0, none⟩), .pointer (some ⟨q.g, 0, none⟩), .pointer (some ⟨q.gv, 0, none⟩), o.val] w fun r w' => r = .returned (.bool true) ∧
      ∃ vl' vw' n' I' a' e', ShC w' base gx A0 c0 bs vrs vis vl' vw' n' (rpc (P.set i ⟨q.g, q.A, q.c, q.gv, a', e'⟩)) (upc (P.set i ⟨q.g, q.A, q.c, q.gv, a', e'⟩)) (P.set i ⟨q.g, q.A, q.c, q.gv, a', e'⟩) I' ∧ Below base w w' ∧ OpKeep w w' := by
  obtain ⟨kd, a, nn, num, A2, c2, p, s⟩ := o
  have hq := hS.ok q (List.mem_of_getElem? hi)
  have fin : ∀ (a' : Nat) (e' : Int) (r : Ending) (w' : World), (r = .returned (.bool true) ∧ Rp.ok ⟨q.g, q.A, q.c, q.gv, a', e'⟩ w' base A0 c0 bs ∧ Fr q.S w w') → (r = .returned (.bool true) ∧
      ∃ vl' vw' n' I' a' e', ShC w' base gx A0 c0 bs vrs vis vl' vw' n' (rpc (P.set i ⟨q.g, q.A, q.c, q.gv, a', e'⟩)) (upc (P.set i ⟨q.g, q.A, q.c, q.gv, a', e'⟩)) (P.set i ⟨q.g, q.A, q.c, q.gv, a', e'⟩) I' ∧ Below base w w' ∧ OpKeep w w') :=
    fun a' e' r w' h => ⟨h.1, _, _, _, _, a', e', hS.set hi a' e' h.2.1 h.2.2, h.2.2.below (Rp.S_base hq) (by have := hS.lt; omega), Rp.opKeep hq h.2.2⟩
  by_cases h1 : kd = 1
  · subst h1; exact (takes1 base gx q A0 c0 bs w hq a nn num A2 c2 p s).mono (fin _ _)
  by_cases h2 : kd = 2
  · subst h2; exact (takes2 base gx q A0 c0 bs w hq a nn num A2 c2 p s).mono (fin _ _)
  by_cases h3 : kd = 3
  · subst h3; exact (takes3 base gx q A0 c0 bs w hq a nn num A2 c2 p s).mono (fin _ _)
  by_cases h4 : kd = 4
  · subst h4; exact (takes4 base gx q A0 c0 bs w hq a nn num A2 c2 p s).mono (fin _ _)
  by_cases h5 : kd = 5
  · subst h5
    refine (takes5 base gx A0 c0 bs vrs vis vl vw n P I i q a nn num A2 c2 p s w hS hi hnum).mono ?_
    rintro r w' ⟨e, h1, h2, h3, h4, h⟩
    exact ⟨e, h1, h2, h3, h4, _, _, h⟩
  by_cases h6 : kd = 6
  · subst h6; exact (takes6 base gx q A0 c0 bs w hq a nn num A2 c2 p s).mono (fin _ _)
  by_cases h7 : kd = 7
  · subst h7; exact (takes7 base gx q A0 c0 bs w hq a nn num A2 c2 p s).mono (fin _ _)
  by_cases h8 : kd = 8
  · subst h8; exact (takes8 base gx q A0 c0 bs w hq a nn num A2 c2 p s).mono (fin _ _)
  exact (takesX base gx q A0 c0 bs w hq a nn num A2 c2 p s kd (beqf h1) (beqf h2) (beqf h3) (beqf h4) (beqf h5) (beqf h6) (beqf h7) (beqf h8)).mono (fin _ _)
end Go.Proofs.Ythdjddpomaendaa.B
