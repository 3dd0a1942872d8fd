/- Steps one behind the other: what all of them lay; what is refused lays nothing. -/
import Derived.Test.YthdjddpomaendaaO6
namespace Go.Proofs.Ythdjddpomaendaa.B
open Go.RowKit
set_option linter.unusedVariables false
set_option linter.unusedSimpArgs false

theorem laid_ext (o : OpV) (bs : List UInt8) (e : Int) : ∃ l, laidB o bs e = bs ++ l ∧ l.length ≤ 4097 + o.p.length + o.s.size := by
  obtain ⟨kd, a, n, num, A2, c2, p, s⟩ := o
  have okx : ∀ (l : List UInt8), l.length ≤ 4097 + p.length + s.size → ∃ l', okB e (bs ++ l) bs = bs ++ l' ∧ l'.length ≤ 4097 + p.length + s.size := fun l hl => by
    by_cases he : e = 0
    · subst he; exact ⟨l, okB_ok _ _, hl⟩
    · exact ⟨[], by rw [okB_no he]; simp, by simp⟩
  by_cases h1 : kd = 1
  · subst h1; exact okx (leBytes 1 (n % 256)) (by rw [leBytes_length]; omega)
  by_cases h2 : kd = 2
  · subst h2; exact okx (leBytes 2 (n % 65536)) (by rw [leBytes_length]; omega)
  by_cases h3 : kd = 3
  · subst h3; exact okx (leBytes 4 (n % 4294967296)) (by rw [leBytes_length]; omega)
  by_cases h4 : kd = 4
  · subst h4; exact okx (leBytes 8 n) (by rw [leBytes_length]; omega)
  by_cases h5 : kd = 5
  · subst h5; exact okx p (by omega)
  by_cases h6 : kd = 6
  · subst h6
    show ∃ l, textB bs e s = bs ++ l ∧ _
    unfold textB
    by_cases hc : e = 0 ∧ s.size ≤ 65535
    · rw [if_pos hc]
      exact ⟨leBytes 2 s.size ++ sb s, by rw [List.append_assoc], by rw [List.length_append, leBytes_length, sb_length]; show _ ≤ 4097 + p.length + s.size; omega⟩
    · rw [if_neg hc]; exact ⟨[], by simp, by simp⟩
  by_cases h7 : kd = 7
  · subst h7
    show ∃ l, padB bs e num = bs ++ l ∧ _
    unfold padB
    by_cases hc : e = 0 ∧ 1 ≤ num ∧ num ≤ 4096
    · rw [if_pos hc]
      have := gapN_lt bs.length num.toNat (by omega)
      exact ⟨_, rfl, by rw [List.length_replicate]; show _ ≤ 4097 + p.length + s.size; omega⟩
    · rw [if_neg hc]; exact ⟨[], by simp, by simp⟩
  by_cases h8 : kd = 8
  · subst h8
    show ∃ l, sealB bs e num = bs ++ l ∧ _
    unfold sealB
    by_cases hc : e = 0 ∧ 0 ≤ num ∧ num ≤ bs.length
    · rw [if_pos hc]
      exact ⟨_, rfl, by rw [leBytes_length]; show _ ≤ 4097 + p.length + s.size; omega⟩
    · rw [if_neg hc]; exact ⟨[], by simp, by simp⟩
  exact ⟨[], by simp [laidB, h1, h2, h3, h4, h5, h6, h7, h8], by simp⟩
theorem laid_no (o : OpV) (bs : List UInt8) (e : Int) (h : e ≠ 0) : laidB o bs e = bs ∧ laidE o bs e = e := by
  have k : ∀ P : Prop, ¬ (e = 0 ∧ P) := fun P hp => h hp.1
  unfold laidB laidE textB textE padB padE sealB sealE
  rw [okB_no h, okB_no h, okB_no h, okB_no h, okB_no h, if_neg (k _), if_neg (k _), if_neg (k _), if_neg (k _), if_neg (k _), if_neg (k _)]
  refine ⟨?_, ?_⟩ <;> (repeat' split) <;> rfl
theorem laid_ref (o : OpV) (bs : List UInt8) (h : laidE o bs 0 ≠ 0) : laidB o bs 0 = bs := by
  unfold laidE at h
  by_cases h6 : o.kind = 6
  · rw [if_pos h6] at h
    unfold laidB
    rw [if_neg (by omega), if_neg (by omega), if_neg (by omega), if_neg (by omega), if_neg (by omega), if_pos h6]
    unfold textE at h
    unfold textB
    by_cases hc : 65535 < o.s.size
    · rw [if_neg (by omega)]
    · rw [if_neg (by omega)] at h; exact absurd rfl h
  rw [if_neg h6] at h
  by_cases h7 : o.kind = 7
  · rw [if_pos h7] at h
    unfold laidB
    rw [if_neg (by omega), if_neg (by omega), if_neg (by omega), if_neg (by omega), if_neg (by omega), if_neg (by omega), if_pos h7]
    unfold padE at h
    unfold padB
    by_cases hc : 1 ≤ o.num ∧ o.num ≤ 4096
    · rw [if_neg (fun hx => hx.2 hc)] at h; exact absurd rfl h
    · rw [if_neg (fun hx => hc hx.2)]
  rw [if_neg h7] at h
  by_cases h8 : o.kind = 8
  · rw [if_pos h8] at h
    unfold laidB
    rw [if_neg (by omega), if_neg (by omega), if_neg (by omega), if_neg (by omega), if_neg (by omega), if_neg (by omega), if_neg (by omega), if_pos h8]
    unfold sealE at h
    unfold sealB
    by_cases hc : 0 ≤ o.num ∧ o.num ≤ bs.length
    · rw [if_neg (fun hx => hx.2 hc)] at h; exact absurd rfl h
    · rw [if_neg (fun hx => hc hx.2)]
  rw [if_neg h8] at h
  exact absurd rfl h
/-- What steps lay, none of them refused. -/
def layAll (L : List OpV) : List UInt8 := L.foldl (fun b o => laidB o b 0) []
theorem layAll_snoc (L : List OpV) (o : OpV) : layAll (L ++ [o]) = laidB o (layAll L) 0 := by unfold layAll; rw [List.foldl_append]; rfl
theorem layAll_succ (L : List OpV) (k : Nat) (o : OpV) (h : L[k]? = some o) : layAll (L.take (k + 1)) = laidB o (layAll (L.take k)) 0 := by
  obtain ⟨hk, rfl⟩ := List.getElem?_eq_some_iff.1 h
  rw [List.take_succ_eq_append_getElem hk, layAll_snoc]
theorem layAll_append (L M : List OpV) : ∃ l, layAll (L ++ M) = layAll L ++ l := by
  induction M generalizing L with
  | nil => exact ⟨[], by simp⟩
  | cons o M ih =>
    obtain ⟨l1, h1, _⟩ := laid_ext o (layAll L) 0
    obtain ⟨l2, h2⟩ := ih (L ++ [o])
    refine ⟨l1 ++ l2, ?_⟩
    rw [show L ++ o :: M = L ++ [o] ++ M by simp, h2, layAll_snoc, h1, List.append_assoc]
theorem layAll_take (L : List OpV) (k : Nat) : (layAll L).take (layAll (L.take k)).length = layAll (L.take k) := by
  obtain ⟨l, h⟩ := layAll_append (L.take k) (L.drop k)
  rw [List.take_append_drop] at h
  rw [h, List.take_left]
/-- None of them is refused; numbers are of 64 bits. -/
def GoodL (L : List OpV) : Prop := ∀ (k : Nat) (o : OpV), L[k]? = some o → laidE o (layAll (L.take k)) 0 = 0 ∧ o.n < 18446744073709551616
theorem GoodL.snoc {L : List OpV} (h : GoodL L) (o : OpV) (ho : laidE o (layAll L) 0 = 0) (hn : o.n < 18446744073709551616) : GoodL (L ++ [o]) := by
  intro k o' hk
  by_cases hlt : k < L.length
  · rw [List.getElem?_append_left hlt] at hk
    rw [List.take_append_of_le_length (by omega)]
    exact h k o' hk
  · rw [List.getElem?_append_right (by omega)] at hk
    have h0 : k - L.length = 0 := by
      rcases Nat.eq_zero_or_pos (k - L.length) with h0 | h0
      · exact h0
      · rw [List.getElem?_eq_none (by simp; omega)] at hk; cases hk
    rw [h0] at hk
    obtain rfl : o = o' := by simpa using hk
    rw [show k = L.length by omega, List.take_left]
    exact ⟨ho, hn⟩
/-- One step of the list is taken back. -/
theorem step_back {L : List OpV} (h : GoodL L) (k : Nat) (o o' : OpV) (w : World) (hk : L[k]? = some o) (hb : Back o (layAll L) (layAll (L.take k)).length 0 o' w) :
    againA o (layAll L) (layAll (L.take k)).length 0 = (layAll (L.take (k + 1))).length ∧ againE o (layAll L) (layAll (L.take k)).length 0 = 0 ∧ alikeP o o' := by
  obtain ⟨h1, h2⟩ := h k o hk
  have hs := layAll_succ L k o hk
  have ht := layAll_take L (k + 1)
  rw [hs] at ht ⊢
  exact laid_back o o' (layAll (L.take k)) (layAll L) w h2 ht h1 hb
end Go.Proofs.Ythdjddpomaendaa.B
