/- What a step has laid, the same step takes. -/
import Derived.Test.YthdjddpomaendaaO5
namespace Go.Proofs.Ythdjddpomaendaa.B
open Go.RowKit
set_option linter.unusedVariables false
set_option linter.unusedSimpArgs false

theorem leNum_leBytes' (size x : Nat) : leNum (leBytes size x) = x % 256 ^ size := by
  induction size generalizing x with
  | zero => simp [leBytes_zero, leNum, Nat.mod_one]
  | succ size ih =>
    rw [leBytes_succ, leNum, ih, Nat.pow_succ', Nat.mod_mul]
    simp
/-- Where all goes on from bs by l. -/
theorem ahead {all bs l : List UInt8} (h : all.take (bs ++ l).length = bs ++ l) : bs.length + l.length ≤ all.length ∧ (all.drop bs.length).take l.length = l ∧ all.take bs.length = bs := by
  have h1 : (bs ++ l).length ≤ all.length := by
    have := congrArg List.length h
    rw [List.length_take] at this
    omega
  rw [List.length_append] at h1 h
  refine ⟨h1, ?_, ?_⟩
  · rw [List.take_add] at h
    have hl : (all.take bs.length).length = bs.length := by simp; omega
    exact (List.append_inj h hl).2
  · rw [List.take_add] at h
    have hl : (all.take bs.length).length = bs.length := by simp; omega
    exact (List.append_inj h hl).1
theorem num_taken (z x : Nat) (bs all : List UInt8) (h : all.take (bs ++ leBytes z x).length = bs ++ leBytes z x) :
    stepA z all bs.length 0 = (bs ++ leBytes z x).length ∧ shortE z all bs.length 0 = 0 ∧ numV z all bs.length 0 = x % 256 ^ z := by
  obtain ⟨h1, h2, _⟩ := ahead h
  rw [leBytes_length] at h1 h2
  obtain ⟨e1, e2, e3⟩ := num_ok h1
  rw [e1, e2, e3, h2, leNum_leBytes']
  simp [leBytes_length]
/-- Two steps that bear the same. -/
def alikeP (o o' : OpV) : Prop :=
  (o.kind = 1 → o.n % 256 = o'.n) ∧ (o.kind = 2 → o.n % 65536 = o'.n) ∧ (o.kind = 3 → o.n % 4294967296 = o'.n) ∧ (o.kind = 4 → o.n = o'.n) ∧ (o.kind = 5 → o.p = o'.p) ∧ (o.kind = 6 → o.s = o'.s)
theorem laid_back0 (o o' : OpV) (bs all : List UInt8) (hn : o.n < 18446744073709551616) (hall : all.take (laidB o bs 0).length = laidB o bs 0) (hE : laidE o bs 0 = 0) (hb : o'.kind = o.kind ∧ o'.num = o.num ∧ o'.n = againN o all bs.length 0 ∧ o'.p = againP o all bs.length 0 ∧ o'.s = againS o all bs.length 0) :
    againA o all bs.length 0 = (laidB o bs 0).length ∧ againE o all bs.length 0 = 0 ∧ alikeP o o' := by
  obtain ⟨kd, a, n, num, A2, c2, p, s⟩ := o
  obtain ⟨kd', a', n', num', A2', c2', p', s'⟩ := o'
  obtain ⟨hk, hnum, hn', hp, hs⟩ := hb
  simp only at hk hnum hn' hp hs hn
  subst hk hnum hn' hp hs
  by_cases h1 : kd' = 1
  · subst h1
    obtain ⟨e1, e2, e3⟩ := num_taken 1 (n % 256) bs all hall
    refine ⟨e1, e2, fun _ => ?_, by simp, by simp, by simp, by simp, by simp⟩
    show n % 256 = numV 1 all bs.length 0
    rw [e3]; omega
  by_cases h2 : kd' = 2
  · subst h2
    obtain ⟨e1, e2, e3⟩ := num_taken 2 (n % 65536) bs all hall
    refine ⟨e1, e2, by simp, fun _ => ?_, by simp, by simp, by simp, by simp⟩
    show n % 65536 = numV 2 all bs.length 0
    rw [e3]; omega
  by_cases h3 : kd' = 3
  · subst h3
    obtain ⟨e1, e2, e3⟩ := num_taken 4 (n % 4294967296) bs all hall
    refine ⟨e1, e2, by simp, by simp, fun _ => ?_, by simp, by simp, by simp⟩
    show n % 4294967296 = numV 4 all bs.length 0
    rw [e3]; omega
  by_cases h4 : kd' = 4
  · subst h4
    obtain ⟨e1, e2, e3⟩ := num_taken 8 n bs all hall
    refine ⟨e1, e2, by simp, by simp, by simp, fun _ => ?_, by simp, by simp⟩
    show n = numV 8 all bs.length 0
    rw [e3]; omega
  by_cases h5 : kd' = 5
  · subst h5
    obtain ⟨e1, e2, _⟩ := ahead (bs := bs) (l := p) hall
    refine ⟨?_, ?_, by simp, by simp, by simp, by simp, fun _ => ?_, by simp⟩
    · show bytesA (p.length : Int) all bs.length 0 = (bs ++ p).length
      unfold bytesA
      rw [if_pos ⟨rfl, by omega, by omega⟩, Int.toNat_natCast, List.length_append]
    · show bytesE (p.length : Int) all bs.length 0 = 0
      unfold bytesE
      rw [if_pos rfl, if_neg (by omega), if_neg (by omega)]
    · show p = bytesV (p.length : Int) all bs.length 0
      unfold bytesV
      rw [if_pos ⟨rfl, by omega, by omega⟩, Int.toNat_natCast, e2]
  by_cases h6 : kd' = 6
  · subst h6
    have hsz : s.size ≤ 65535 := by
      have h : textE 0 s = 0 := hE
      unfold textE at h
      by_cases hlt : 65535 < s.size
      · rw [if_pos ⟨rfl, hlt⟩] at h; simp at h
      · omega
    have hB : laidB ⟨6, a, n, num', A2, c2, p, s⟩ bs 0 = (bs ++ leBytes 2 s.size) ++ sb s := by
      show textB bs 0 s = _
      unfold textB
      rw [if_pos ⟨rfl, hsz⟩]
    rw [hB] at hall ⊢
    obtain ⟨e1, e4, e5⟩ := ahead hall
    obtain ⟨_, e3, _⟩ := ahead e5
    rw [leBytes_length] at e3
    rw [List.length_append, leBytes_length, sb_length] at e1 e4
    have hN : textN all bs.length = s.size := by
      unfold textN
      rw [e3, leNum_leBytes']
      omega
    have hok : rtextOk (s.size : Int) all bs.length 0 := ⟨rfl, by omega, by rw [hN]; omega, by rw [hN]; omega⟩
    refine ⟨?_, ?_, by simp, by simp, by simp, by simp, by simp, fun _ => ?_⟩
    · show rtextA (s.size : Int) all bs.length 0 = _
      unfold rtextA
      rw [if_pos hok, hN, List.length_append, List.length_append, leBytes_length, sb_length]
    · show rtextE (s.size : Int) all bs.length 0 = 0
      unfold rtextE
      rw [if_pos rfl, if_neg (by omega), if_neg (by rw [hN]; omega), if_neg (by rw [hN]; omega)]
    · show s = mkS (rtextL (s.size : Int) all bs.length 0)
      unfold rtextL
      rw [if_pos hok, hN, e4, mkS_sb]
  by_cases h7 : kd' = 7
  · subst h7
    have hok : 1 ≤ num' ∧ num' ≤ 4096 := by
      have h : padE 0 num' = 0 := hE
      unfold padE at h
      by_cases hc : 1 ≤ num' ∧ num' ≤ 4096
      · exact hc
      · rw [if_pos ⟨rfl, hc⟩] at h; simp at h
    have hB : laidB ⟨7, a, n, num', A2, c2, p, s⟩ bs 0 = bs ++ List.replicate (gapN bs.length num'.toNat) 0 := by
      show padB bs 0 num' = _
      unfold padB
      rw [if_pos ⟨rfl, hok.1, hok.2⟩]
    rw [hB] at hall ⊢
    obtain ⟨e1, e2, _⟩ := ahead hall
    rw [List.length_replicate] at e1 e2
    have hk : rpadOk num' all bs.length 0 := ⟨rfl, hok.1, hok.2, e1, e2⟩
    refine ⟨?_, ?_, by simp, by simp, by simp, by simp, by simp, by simp⟩
    · show rpadA num' all bs.length 0 = _
      unfold rpadA
      rw [if_pos hk, List.length_append, List.length_replicate]
    · show rpadE num' all bs.length 0 = 0
      unfold rpadE
      rw [if_pos rfl, if_neg (fun h => h hok), if_neg (by omega), if_pos hk]
  by_cases h8 : kd' = 8
  · subst h8
    have hok : 0 ≤ num' ∧ num' ≤ bs.length := by
      have h : sealE bs 0 num' = 0 := hE
      unfold sealE at h
      by_cases hc : 0 ≤ num' ∧ num' ≤ bs.length
      · exact hc
      · rw [if_pos ⟨rfl, hc⟩] at h; simp at h
    have hB : laidB ⟨8, a, n, num', A2, c2, p, s⟩ bs 0 = bs ++ leBytes 4 (moreC 0 (bs.drop num'.toNat)).toNat := by
      show sealB bs 0 num' = _
      unfold sealB
      rw [if_pos ⟨rfl, hok.1, hok.2⟩]
    rw [hB] at hall ⊢
    obtain ⟨e1, e2, e3⟩ := ahead hall
    rw [leBytes_length] at e1 e2
    have hk : rsealOk num' all bs.length 0 := by
      refine ⟨rfl, hok.1, hok.2, e1, ?_⟩
      rw [e2, leNum_leBytes', ← List.drop_take, e3]
      exact Nat.mod_eq_of_lt (moreC 0 (bs.drop num'.toNat)).toNat_lt
    refine ⟨?_, ?_, by simp, by simp, by simp, by simp, by simp, by simp⟩
    · show rsealA num' all bs.length 0 = _
      unfold rsealA
      rw [if_pos hk, List.length_append, leBytes_length]
    · show rsealE num' all bs.length 0 = 0
      unfold rsealE
      rw [if_pos rfl, if_neg (by omega), if_neg (by omega), if_pos hk]
  refine ⟨?_, ?_, fun h => absurd h h1, fun h => absurd h h2, fun h => absurd h h3, fun h => absurd h h4, fun h => absurd h h5, fun h => absurd h h6⟩
  · simp [againA, laidB, h1, h2, h3, h4, h5, h6, h7, h8]
  · simp [againE, h1, h2, h3, h4, h5, h6, h7, h8]
theorem laid_back (o o' : OpV) (bs all : List UInt8) (w : World) (hn : o.n < 18446744073709551616) (hall : all.take (laidB o bs 0).length = laidB o bs 0) (hE : laidE o bs 0 = 0) (hb : Back o all bs.length 0 o' w) :
    againA o all bs.length 0 = (laidB o bs 0).length ∧ againE o all bs.length 0 = 0 ∧ alikeP o o' := laid_back0 o o' bs all hn hall hE ⟨hb.kind, hb.num, hb.n, hb.p, hb.s⟩
end Go.Proofs.Ythdjddpomaendaa.B
