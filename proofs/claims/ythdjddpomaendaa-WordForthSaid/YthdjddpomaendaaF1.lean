/- The walk of forth. -/
import Derived.Test.YthdjddpomaendaaO5
namespace Go.Proofs.Ythdjddpomaendaa.B
open Go.RowKit
set_option linter.unusedVariables false
set_option linter.unusedSimpArgs false

set_option maxHeartbeats 3200000 in
set_option maxRecDepth 100000 in
theorem forth_ (A : Option Addr) (n c : Nat) (bs : List UInt8) (As : Option Addr) (m cs : Nat) (L : List OpV) (must : Bool) (w : World) (hr : Rd w A n (bvs bs)) (hn : n ≤ 4294967296) (hL : OpsAt w As L) (hm : L.length = m) (hcs : m ≤ cs) (hmm : m ≤ 9223372036854775807)
    (hmust : must = true → (∀ j, (runS bs (L.take j)).2 = 0) ∧ (runS bs L).1 = bs.length) :
    Calls Try.prog 54 #[.slice A n c, .slice As m cs, .bool must] w fun r w' => r = .returned (.bool true) ∧ Below w.heap.size w w' := by
  have hbl := hr.len
  have HM := Lib.hid hmust
  have HN := Lib.hid hbl
  have HLN := Lib.hid hm
  clear hmust hbl hm
  go_enter Try.func54, Try.ntmps54
  go_wp2_with fail
  refine (newReader A n c bs _ hr (by omega)).mono ?_
  rintro r w1 ⟨g1, A1, c1, rfl, hR1, hb1⟩
  go_wp2_with fail
  refine (newWriter _).mono ?_
  rintro r w2 ⟨rfl, hW2, hb⟩
  have hR2 := hR1.below hb
  have hg1 := hR1.lt
  have hov := hR1.own_lt
  have hs1 := hb1.size
  have hb2 : Below w.heap.size w w2 := hb1.trans (hb.mono hb1.size)
  generalize hg2 : w1.heap.size = g2 at *
  clear hb hb1 hR1 hg2
  go_wp2_with fail
  go_loopw [9] (fun i wr => ∃ k at_ vb, k ≤ m ∧ i = .int .i64 (k : Int) ∧ Hid (runS bs (L.take k) = (at_, 0)) ∧ IsR wr w.heap.size g1 A1 c1 bs at_ 0 ∧ IsW wr g2 g2 vb (bs.take at_) 0 ∧ Below w.heap.size w wr) (fun i _ => m - (intOf i).toNat)
  case atStart => exact ⟨0, 0, none, Nat.zero_le _, rfl, Lib.hid rfl, hR2, hW2, hb2⟩
  case round =>
    obtain ⟨k, at_, vb, hk, rfl, HS, hR, hW, hB⟩ := hrel
    by_cases hlt : k < m
    · obtain ⟨o, ho⟩ : ∃ o, L[k]? = some o := ⟨_, List.getElem?_eq_getElem (by rw [HLN.out]; exact hlt)⟩
      obtain ⟨ad, rfl, hcell, hok, hblk⟩ := (hL.below hB) k o ho
      have e0 := hcell 0 (.int .i64 o.kind) rfl
      rw [Nat.add_zero] at e0
      have e1 := hcell 1 (.int .i64 o.at_) rfl
      rw [add_at _ _ 1 (by decide)] at e1
      have e2 := hcell 2 (.int .u64 (o.n : Int)) rfl
      rw [add_at _ _ 2 (by decide)] at e2
      have e3 := hcell 3 (.int .i64 o.num) rfl
      rw [add_at _ _ 3 (by decide)] at e3
      have e4 := hcell 4 (.slice o.A o.p.length o.c) rfl
      rw [add_at _ _ 4 (by decide)] at e4
      have e5 := hcell 5 (.string o.s) rfl
      rw [add_at _ _ 5 (by decide)] at e5
      clear hcell hblk
      go_wp2_with fail
      refine (again_ w.heap.size g1 A1 c1 bs at_ 0 wr hR o (Nat.le_trans hok.c hok.m)).mono ?_
      rintro r w3 ⟨o', rfl, hBk, hR3, hF⟩
      have hst := runS_succ bs L k o ho
      rw [HS.out] at hst
      have HST := Lib.hid hst
      obtain ⟨at2, hat2⟩ : ∃ at2, againA o bs at_ 0 = at2 := ⟨_, rfl⟩
      obtain ⟨er, her⟩ : ∃ er, againE o bs at_ 0 = er := ⟨_, rfl⟩
      have hlaid := back_laid o o' bs at_ w3 hR.hat hBk
      obtain ⟨hs1', hs2', hs3'⟩ := hBk.small
      rw [hat2, her] at hR3 hlaid
      have HA := Lib.hid hat2
      have HE := Lib.hid her
      have HLA := Lib.hid hlaid
      have hrd' := hBk.rd
      have hB3 : Below w.heap.size w w3 := hB.trans (hF.below (fun k hk => hk ▸ hR.hg) hB.size)
      have hW3 := hW.fr hF (by have := hW.lt.2.1; omega) (fun k hk => by have := hW.lt.2.2 k hk; omega)
      have hal := below_alloc (Below.refl w3.heap.size w3) (.cells o'.cells 54)
      have hR4 := hR3.below hal
      have hW4 := hW3.below hal
      have hB4 : Below w.heap.size w (w3.alloc (.cells o'.cells 54)) := hB3.trans (hal.mono hB3.size)
      have hrd4 := hrd'.below hal (Nat.le_refl _)
      have hbl' : bs.length ≤ 4294967296 := by rw [HN.out]; exact hn
      have hv : o'.val = .agg #[.int .i64 o'.kind, .int .i64 o'.at_, .int .u64 (o'.n : Int), .int .i64 o'.num, .slice o'.A o'.p.length o'.c, .string o'.s] := rfl
      rw [hv]
      have k5 : Blk (w3.alloc (.cells o'.cells 54)) w3.heap.size o'.cells.toList 54 := Blk.new w3 o'.cells.toList 54
      have q0 := k5.cell 0 (.int .i64 o'.kind) rfl
      have q1 := k5.cell 1 (.int .i64 o'.at_) rfl
      have q2 := k5.cell 2 (.int .u64 (o'.n : Int)) rfl
      have q3 := k5.cell 3 (.int .i64 o'.num) rfl
      have q4 := k5.cell 4 (.slice o'.A o'.p.length o'.c) rfl
      have q5 := k5.cell 5 (.string o'.s) rfl
      clear k5
      clear hst hat2 her hlaid hBk hF hrd' hal hB3 hR3 hW3 hR hW e0 e1 e2 e3 e4 e5 hv hB
      go_wp2_with fail
      refine (rErr w.heap.size g1 A1 c1 bs at2 er _ hR4).mono ?_
      rintro r w5 ⟨rfl, rfl⟩
      by_cases her0 : er = 0
      · subst her0
        go_wp2_with fail
        refine (laid_ g2 g2 vb (bs.take at_) 0 _ hW4 o' (by simp; omega) hs3' hrd4).mono ?_
        rintro r w6 ⟨rfl, vb6, hW6, hF6⟩
        obtain ⟨p1, p2⟩ := HLA.out (by first | trivial | rfl)
        rw [p1, p2] at hW6
        rw [p2]
        clear p1 p2
        have hR6 := hR4.fr hF6.1 (fun h => h.elim (fun h => by omega) (fun h => by have := hW4.lt.2.2 g1 h; omega)) (fun k hk h => h.elim (fun h => by have := hov k hk; omega) (fun h => by have := hov k hk; have := hW4.lt.2.2 k h; omega))
        have hB6 : Below w.heap.size w w6 := hB4.trans (hF6.below hs1 (fun k hk => by have := hW4.lt.2.2 k hk; omega) hB4.size)
        go_wp2
        go_roundw
        case rel => exact ⟨k + 1, at2, vb6, by omega, by go_num, Lib.hid (by rw [HST.out]; show (againA o bs at_ 0, againE o bs at_ 0) = _; rw [HA.out, HE.out]), hR6, hW6, hB6⟩
        case measure => simp [intOf]; omega
      · have t1 : (er != 0) = true := bne_iff_ne.2 her0
        cases must with
        | true =>
          exfalso
          have h := (HM.out rfl).1 (k + 1)
          rw [HST.out] at h
          exact her0 (by rw [← HE.out]; exact h)
        | false =>
          go_wp2
          go_ret
          exact ⟨rfl, hB4⟩
    · obtain rfl : k = m := by omega
      have HS2 := Lib.hid (show runS bs L = (at_, 0) by have := HS.out; rwa [List.take_of_length_le (by rw [HLN.out]; exact Nat.le_refl _)] at this)
      have kb : ∀ j, (convert 22 9 (.slice A n c)).run Try.prog (wr.drewN j) = .ok (.string (mkS bs)) (wr.drewN j) := fun j => conv_string ((hr.below hB (Nat.le_refl _)).drewN j)
      by_cases hfull : at_ = bs.length
      · have HE := Lib.hid (show endE bs.length at_ 0 = 0 from if_neg (by omega))
        rw [hfull, List.take_length] at hW
        have hwl : bs.length ≤ 140737488355328 := by rw [HN.out]; omega
        clear hfull
        go_wp2_with fail
        first | go_region_law (first
          | (refine goes Try.func40 (by kernel_rfl) rfl #[.pointer (some ⟨g1, 0, none⟩)] rfl rfl (by simp only [List.map_toArray, List.map_cons, List.map_nil]; rfl) ?_; refine (rEnd w.heap.size g1 A1 c1 bs at_ 0 _ (hR.below (below_drewN (Below.refl _ wr) 1))).mono ?_; rintro e w8 ⟨rfl, ⟨n8, rfl⟩⟩; rw [HE.out]; refine ⟨_, rfl, ?_⟩)
          | (refine goes Try.func34 (by kernel_rfl) rfl #[.pointer (some ⟨g2, 0, none⟩)] rfl rfl (by simp only [List.map_toArray, List.map_cons, List.map_nil]; rfl) ?_; refine (wAll g2 g2 vb bs 0 _ (hW.below (below_drewN (Below.refl _ wr) (1 + n8))) hwl).mono ?_; rintro e w9 ⟨A9, c9, rfl, hO9, hb9⟩; refine ⟨_, rfl, ?_⟩; have hB9 := (below_drewN hB (1 + n8)).trans (hb9.mono (below_drewN hB (1 + n8)).size); have ka := conv_string (c := c9) hO9.rd_; have kb9 := conv_string (c := c) (hr.below hB9 (Nat.le_refl _)))) | fail
        all_goals
          go_wp2
          go_ret
          exact ⟨rfl, hB9⟩
      · have HE := Lib.hid (show endE bs.length at_ 0 = 12 from if_pos ⟨rfl, by have := hR.hat; omega⟩)
        cases must with
        | true =>
          exfalso
          have h := (HM.out rfl).2
          rw [HS2.out] at h
          exact hfull h
        | false =>
          go_wp2_with fail
          first | go_region_law (first | (refine goes Try.func40 (by kernel_rfl) rfl #[.pointer (some ⟨g1, 0, none⟩)] rfl rfl (by simp only [List.map_toArray, List.map_cons, List.map_nil]; rfl) ?_; refine (rEnd w.heap.size g1 A1 c1 bs at_ 0 _ (hR.below (below_drewN (Below.refl _ wr) 1))).mono ?_; rintro e w8 ⟨rfl, ⟨n8, rfl⟩⟩; rw [HE.out]; refine ⟨_, rfl, ?_⟩)) | fail
          all_goals
            go_wp2
            go_ret
            exact ⟨rfl, below_drewN hB (1 + n8)⟩
end Go.Proofs.Ythdjddpomaendaa.B
