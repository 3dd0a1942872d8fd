/- What is cut off: the first step that does not lie there whole is refused. -/
import Derived.Test.YthdjddpomaendaaO9
namespace Go.Proofs.Ythdjddpomaendaa.B
open Go.RowKit
set_option linter.unusedVariables false
set_option linter.unusedSimpArgs false

/-- The beginning of what goes on from a by l and then by r. -/
theorem ahead_cut {full bs l : List UInt8} {n : Nat} (h : full.take (bs ++ l).length = bs ++ l) (hn : (bs ++ l).length ≤ n) : (full.take n).take (bs ++ l).length = bs ++ l := by
  rw [List.take_take, Nat.min_eq_left hn, h]
theorem laid_cut (o : OpV) (bs full : List UInt8) (n : Nat) (hfull : full.take (laidB o bs 0).length = laidB o bs 0) (hE : laidE o bs 0 = 0) (h1 : bs.length ≤ n) (h2 : n < (laidB o bs 0).length) :
    againA o (full.take n) bs.length 0 = bs.length ∧ againE o (full.take n) bs.length 0 = 10 := by
  have hfl : (laidB o bs 0).length ≤ full.length := by
    have := congrArg List.length hfull
    rw [List.length_take] at this
    omega
  have hln : (full.take n).length = n := by rw [List.length_take]; omega
  obtain ⟨kd, a, nn, num, A2, c2, p, s⟩ := o
  have hnum : ∀ (z x : Nat), laidB ⟨kd, a, nn, num, A2, c2, p, s⟩ bs 0 = bs ++ leBytes z x → stepA z (full.take n) bs.length 0 = bs.length ∧ shortE z (full.take n) bs.length 0 = 10 := by
    intro z x e
    rw [e, List.length_append, leBytes_length] at h2
    have hlt : (full.take n).length < bs.length + z := by omega
    exact ⟨if_neg (by omega), if_pos ⟨rfl, hlt⟩⟩
  by_cases h1' : kd = 1
  · subst h1'; exact hnum 1 (nn % 256) rfl
  by_cases h2' : kd = 2
  · subst h2'; exact hnum 2 (nn % 65536) rfl
  by_cases h3' : kd = 3
  · subst h3'; exact hnum 4 (nn % 4294967296) rfl
  by_cases h4' : kd = 4
  · subst h4'; exact hnum 8 nn rfl
  by_cases h5' : kd = 5
  · subst h5'
    have e : laidB ⟨5, a, nn, num, A2, c2, p, s⟩ bs 0 = bs ++ p := rfl
    rw [e, List.length_append] at h2
    constructor
    · show bytesA (p.length : Int) (full.take n) bs.length 0 = bs.length
      unfold bytesA
      rw [if_neg (by omega)]
    · show bytesE (p.length : Int) (full.take n) bs.length 0 = 10
      unfold bytesE
      rw [if_pos rfl, if_neg (by omega), if_pos (by omega)]
  by_cases h6' : kd = 6
  · subst h6'
    have hsz : s.size ≤ 65535 := by
      have h : textE 0 s = 0 := hE
      unfold textE at h
      by_cases hlt : 65535 < s.size
      · rw [if_pos ⟨rfl, hlt⟩] at h; simp at h
      · omega
    have hB : laidB ⟨6, a, nn, num, A2, c2, p, s⟩ bs 0 = (bs ++ leBytes 2 s.size) ++ sb s := by
      show textB bs 0 s = _
      unfold textB
      rw [if_pos ⟨rfl, hsz⟩]
    rw [hB] at h2 hfull
    rw [List.length_append, List.length_append, leBytes_length, sb_length] at h2
    have hno : ¬ rtextOk (s.size : Int) (full.take n) bs.length 0 := by
      intro hok
      obtain ⟨_, c1, _, c3⟩ := hok
      obtain ⟨_, _, e5⟩ := ahead hfull
      have e6 := ahead_cut e5 (n := n) (by rw [List.length_append, leBytes_length]; omega)
      obtain ⟨_, e3, _⟩ := ahead e6
      rw [leBytes_length] at e3
      have hN : textN (full.take n) bs.length = s.size := by
        unfold textN
        rw [e3, leNum_leBytes']
        omega
      omega
    constructor
    · show rtextA (s.size : Int) (full.take n) bs.length 0 = bs.length
      unfold rtextA
      rw [if_neg hno]
    · show rtextE (s.size : Int) (full.take n) bs.length 0 = 10
      unfold rtextE
      rw [if_pos rfl]
      by_cases c1 : (full.take n).length < bs.length + 2
      · rw [if_pos c1]
      · rw [if_neg c1]
        obtain ⟨_, _, e5⟩ := ahead hfull
        have e6 := ahead_cut e5 (n := n) (by rw [List.length_append, leBytes_length]; omega)
        obtain ⟨_, e3, _⟩ := ahead e6
        rw [leBytes_length] at e3
        have hN : textN (full.take n) bs.length = s.size := by
          unfold textN
          rw [e3, leNum_leBytes']
          omega
        rw [hN, if_neg (by omega), if_pos (by omega)]
  by_cases h7' : kd = 7
  · subst h7'
    have hok : 1 ≤ num ∧ num ≤ 4096 := by
      have h : padE 0 num = 0 := hE
      unfold padE at h
      by_cases hc : 1 ≤ num ∧ num ≤ 4096
      · exact hc
      · rw [if_pos ⟨rfl, hc⟩] at h; simp at h
    have hB : laidB ⟨7, a, nn, num, A2, c2, p, s⟩ bs 0 = bs ++ List.replicate (gapN bs.length num.toNat) 0 := by
      show padB bs 0 num = _
      unfold padB
      rw [if_pos ⟨rfl, hok.1, hok.2⟩]
    rw [hB, List.length_append, List.length_replicate] at h2
    constructor
    · show rpadA num (full.take n) bs.length 0 = bs.length
      unfold rpadA
      rw [if_neg (fun h => by have := h.2.2.2.1; omega)]
    · show rpadE num (full.take n) bs.length 0 = 10
      unfold rpadE
      rw [if_pos rfl, if_neg (fun h => h hok), if_pos (by omega)]
  by_cases h8' : kd = 8
  · subst h8'
    have hok : 0 ≤ num ∧ num ≤ bs.length := by
      have h : sealE bs 0 num = 0 := hE
      unfold sealE at h
      by_cases hc : 0 ≤ num ∧ num ≤ bs.length
      · exact hc
      · rw [if_pos ⟨rfl, hc⟩] at h; simp at h
    have hB : laidB ⟨8, a, nn, num, A2, c2, p, s⟩ bs 0 = bs ++ leBytes 4 (moreC 0 (bs.drop num.toNat)).toNat := by
      show sealB bs 0 num = _
      unfold sealB
      rw [if_pos ⟨rfl, hok.1, hok.2⟩]
    rw [hB, List.length_append, leBytes_length] at h2
    constructor
    · show rsealA num (full.take n) bs.length 0 = bs.length
      unfold rsealA
      rw [if_neg (fun h => by have := h.2.2.2.1; omega)]
    · show rsealE num (full.take n) bs.length 0 = 10
      unfold rsealE
      rw [if_pos rfl, if_neg (by omega), if_pos (by omega)]
  exfalso
  simp [laidB, h1', h2', h3', h4', h5', h6', h7', h8'] at h2
  omega

/-- Steps that each lay something, and where each ends. -/
structure CutS (w : World) (Ls : List OpV) (Es : List Nat) (bs : List UInt8) : Prop where
  all : layAll Ls = bs
  good : GoodL Ls
  ok : ∀ o ∈ Ls, o.n < 18446744073709551616 ∧ Rd w o.A o.p.length (bvs o.p) ∧ o.p.length ≤ o.c ∧ o.c ≤ 9223372036854775807 ∧ o.s.size ≤ 9223372036854775807
  len : Es.length = Ls.length
  ends : ∀ i x, Es[i]? = some x → x = (layAll (Ls.take (i + 1))).length ∧ (layAll (Ls.take i)).length < x
  last : ∀ q, q + 1 = Es.length → Es[q]? = some bs.length
theorem CutS.snoc {w : World} {Ls : List OpV} {Es : List Nat} {bs : List UInt8} (h : CutS w Ls Es bs) (o : OpV) (hE : laidE o bs 0 = 0) (hlt : bs.length < (laidB o bs 0).length)
    (hok : o.n < 18446744073709551616 ∧ Rd w o.A o.p.length (bvs o.p) ∧ o.p.length ≤ o.c ∧ o.c ≤ 9223372036854775807 ∧ o.s.size ≤ 9223372036854775807) :
    CutS w (Ls ++ [o]) (Es ++ [(laidB o bs 0).length]) (laidB o bs 0) := by
  obtain ⟨s1, s2, s3, s4, s5, s6⟩ := h
  subst s1
  refine ⟨layAll_snoc Ls o, s2.snoc o hE hok.1, fun o' ho' => ?_, by simp [s4], fun i x hx => ?_, fun q hq => ?_⟩
  · rcases List.mem_append.1 ho' with ho' | ho'
    · exact s3 o' ho'
    · rw [List.mem_singleton.1 ho']; exact hok
  · by_cases hi : i < Es.length
    · rw [List.getElem?_append_left hi] at hx
      obtain ⟨t1, t2⟩ := s5 i x hx
      rw [List.take_append_of_le_length (by omega), List.take_append_of_le_length (by omega)]
      exact ⟨t1, t2⟩
    · rw [List.getElem?_append_right (by omega)] at hx
      have h0 : i - Es.length = 0 := by
        rcases Nat.eq_zero_or_pos (i - Es.length) with h0 | h0
        · exact h0
        · rw [List.getElem?_eq_none (by simp; omega)] at hx; cases hx
      rw [h0] at hx
      obtain rfl : (laidB o (layAll Ls) 0).length = x := by simpa using hx
      have hi' : i = Ls.length := by omega
      subst hi'
      rw [List.take_left, List.take_of_length_le (by simp), layAll_snoc]
      exact ⟨rfl, hlt⟩
  · simp at hq
    subst hq
    simp
theorem laid_same (o : OpV) (bs : List UInt8) (h : ¬ bs.length < (laidB o bs 0).length) : laidB o bs 0 = bs := by
  obtain ⟨l, hl, _⟩ := laid_ext o bs 0
  rw [hl] at h ⊢
  rw [List.length_append] at h
  rw [List.eq_nil_of_length_eq_zero (by omega : l.length = 0), List.append_nil]
/-- One step of the cut bytes: it lies there whole, or it is refused. -/
theorem cut_step {w : World} {Ls : List OpV} {Es : List Nat} {bs : List UInt8} (h : CutS w Ls Es bs) (n j x : Nat) (o : OpV) (hj : Ls[j]? = some o) (hx : Es[j]? = some x) (hat : (layAll (Ls.take j)).length ≤ n) :
    (x ≤ n → againA o (bs.take n) (layAll (Ls.take j)).length 0 = x ∧ againE o (bs.take n) (layAll (Ls.take j)).length 0 = 0 ∧ ∀ (o' : OpV) (W : World), Back o (bs.take n) (layAll (Ls.take j)).length 0 o' W → alikeP o o') ∧
    (n < x → againA o (bs.take n) (layAll (Ls.take j)).length 0 = (layAll (Ls.take j)).length ∧ againE o (bs.take n) (layAll (Ls.take j)).length 0 = 10) := by
  obtain ⟨s1, s2, s3, s4, s5, s6⟩ := h
  obtain ⟨t1, t2⟩ := s5 j x hx
  obtain ⟨g1, g2⟩ := s2 j o hj
  have hs := layAll_succ Ls j o hj
  have ht := layAll_take Ls (j + 1)
  rw [hs] at ht t1
  rw [s1] at ht
  refine ⟨fun hle => ?_, fun hlt => ?_⟩
  · have hall : (bs.take n).take (laidB o (layAll (Ls.take j)) 0).length = laidB o (layAll (Ls.take j)) 0 := by
      rw [List.take_take, Nat.min_eq_left (by omega), ht]
    obtain ⟨e1, e2, _⟩ := laid_back0 o ⟨o.kind, 0, againN o (bs.take n) (layAll (Ls.take j)).length 0, o.num, none, 0, againP o (bs.take n) (layAll (Ls.take j)).length 0, againS o (bs.take n) (layAll (Ls.take j)).length 0⟩ (layAll (Ls.take j)) (bs.take n) g2 hall g1 ⟨rfl, rfl, rfl, rfl, rfl⟩
    exact ⟨by rw [e1, ← t1], e2, fun o' W hb => (laid_back o o' (layAll (Ls.take j)) (bs.take n) W g2 hall g1 hb).2.2⟩
  · exact laid_cut o (layAll (Ls.take j)) bs n ht g1 hat (by omega)
end Go.Proofs.Ythdjddpomaendaa.B
