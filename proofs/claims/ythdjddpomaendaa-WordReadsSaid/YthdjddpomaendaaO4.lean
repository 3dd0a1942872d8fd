/- Steps (Op): again and laid, whichever kind. -/
import Derived.Test.YthdjddpomaendaaO2
import Derived.Test.YthdjddpomaendaaO3
namespace Go.Proofs.Ythdjddpomaendaa.B
open Go.RowKit
set_option linter.unusedVariables false
set_option linter.unusedSimpArgs false

def againA (o : OpV) (bs : List UInt8) (at_ : Nat) (e : Int) : Nat :=
  if o.kind = 1 then stepA 1 bs at_ e else if o.kind = 2 then stepA 2 bs at_ e else if o.kind = 3 then stepA 4 bs at_ e else if o.kind = 4 then stepA 8 bs at_ e
  else if o.kind = 5 then bytesA (o.p.length : Int) bs at_ e else if o.kind = 6 then rtextA (o.s.size : Int) bs at_ e else if o.kind = 7 then rpadA o.num bs at_ e else if o.kind = 8 then rsealA o.num bs at_ e else at_
def againE (o : OpV) (bs : List UInt8) (at_ : Nat) (e : Int) : Int :=
  if o.kind = 1 then shortE 1 bs at_ e else if o.kind = 2 then shortE 2 bs at_ e else if o.kind = 3 then shortE 4 bs at_ e else if o.kind = 4 then shortE 8 bs at_ e
  else if o.kind = 5 then bytesE (o.p.length : Int) bs at_ e else if o.kind = 6 then rtextE (o.s.size : Int) bs at_ e else if o.kind = 7 then rpadE o.num bs at_ e else if o.kind = 8 then rsealE o.num bs at_ e else e
def againN (o : OpV) (bs : List UInt8) (at_ : Nat) (e : Int) : Nat :=
  if o.kind = 1 then numV 1 bs at_ e else if o.kind = 2 then numV 2 bs at_ e else if o.kind = 3 then numV 4 bs at_ e else if o.kind = 4 then numV 8 bs at_ e else 0
def againP (o : OpV) (bs : List UInt8) (at_ : Nat) (e : Int) : List UInt8 := if o.kind = 5 then bytesV (o.p.length : Int) bs at_ e else []
def againS (o : OpV) (bs : List UInt8) (at_ : Nat) (e : Int) : ByteArray := if o.kind = 6 then mkS (rtextL (o.s.size : Int) bs at_ e) else ByteArray.empty
/-- What was answered. -/
structure Back (o : OpV) (bs : List UInt8) (at_ : Nat) (e : Int) (o' : OpV) (w : World) : Prop where
  kind : o'.kind = o.kind
  num : o'.num = o.num
  n : o'.n = againN o bs at_ e
  p : o'.p = againP o bs at_ e
  s : o'.s = againS o bs at_ e
  rd : Rd w o'.A o'.p.length (bvs o'.p)
def laidB (o : OpV) (bs : List UInt8) (e : Int) : List UInt8 :=
  if o.kind = 1 then okB e (bs ++ leBytes 1 (o.n % 256)) bs else if o.kind = 2 then okB e (bs ++ leBytes 2 (o.n % 65536)) bs else if o.kind = 3 then okB e (bs ++ leBytes 4 (o.n % 4294967296)) bs else if o.kind = 4 then okB e (bs ++ leBytes 8 o.n) bs
  else if o.kind = 5 then okB e (bs ++ o.p) bs else if o.kind = 6 then textB bs e o.s else if o.kind = 7 then padB bs e o.num else if o.kind = 8 then sealB bs e o.num else bs
def laidE (o : OpV) (bs : List UInt8) (e : Int) : Int :=
  if o.kind = 6 then textE e o.s else if o.kind = 7 then padE e o.num else if o.kind = 8 then sealE bs e o.num else e

theorem beqf {a b : Int} (h : ¬ a = b) : (a == b) = false := beq_eq_false_iff_ne.2 h
theorem again_ (base g : Nat) (A : Option Addr) (c : Nat) (bs : List UInt8) (at_ : Nat) (e : Int) (w : World) (hR : IsR w base g A c bs at_ e) (o : OpV) (hp : o.p.length ≤ 9223372036854775807) :
    Calls Try.prog 57 #[.pointer (some ⟨g, 0, none⟩), o.val] w fun r w' => ∃ o' : OpV, r = .returned o'.val ∧ Back o bs at_ e o' w' ∧ IsR w' base g A c bs (againA o bs at_ e) (againE o bs at_ e) ∧ Fr (fun k => k = g) w w' := by
  obtain ⟨kd, a, n, num, A2, c2, p, s⟩ := o
  by_cases h1 : kd = 1
  · subst h1
    refine (again1 base g A c bs at_ e w hR a n num A2 c2 p s).mono ?_
    rintro r w' ⟨o', rfl, h2, h3, rfl⟩
    exact ⟨_, rfl, ⟨rfl, rfl, rfl, rfl, rfl, Rd.nil _ _⟩, h2, h3⟩
  by_cases h2 : kd = 2
  · subst h2
    refine (again2 base g A c bs at_ e w hR a n num A2 c2 p s).mono ?_
    rintro r w' ⟨o', rfl, h2, h3, rfl⟩
    exact ⟨_, rfl, ⟨rfl, rfl, rfl, rfl, rfl, Rd.nil _ _⟩, h2, h3⟩
  by_cases h3 : kd = 3
  · subst h3
    refine (again3 base g A c bs at_ e w hR a n num A2 c2 p s).mono ?_
    rintro r w' ⟨o', rfl, h2, h3, rfl⟩
    exact ⟨_, rfl, ⟨rfl, rfl, rfl, rfl, rfl, Rd.nil _ _⟩, h2, h3⟩
  by_cases h4 : kd = 4
  · subst h4
    refine (again4 base g A c bs at_ e w hR a n num A2 c2 p s).mono ?_
    rintro r w' ⟨o', rfl, h2, h3, rfl⟩
    exact ⟨_, rfl, ⟨rfl, rfl, rfl, rfl, rfl, Rd.nil _ _⟩, h2, h3⟩
  by_cases h5 : kd = 5
  · subst h5
    refine (again5 base g A c bs at_ e w hR a n num A2 c2 p s hp).mono ?_
    rintro r w' ⟨o', A', c', rfl, hO, h2, h3, rfl⟩
    exact ⟨_, rfl, ⟨rfl, rfl, rfl, rfl, rfl, hO.rd_⟩, h2, h3⟩
  by_cases h6 : kd = 6
  · subst h6
    refine (again6 base g A c bs at_ e w hR a n num A2 c2 p s).mono ?_
    rintro r w' ⟨o', rfl, h2, h3, rfl⟩
    exact ⟨_, rfl, ⟨rfl, rfl, rfl, rfl, rfl, Rd.nil _ _⟩, h2, h3⟩
  by_cases h7 : kd = 7
  · subst h7
    refine (again7 base g A c bs at_ e w hR a n num A2 c2 p s).mono ?_
    rintro r w' ⟨o', rfl, h2, h3, rfl⟩
    exact ⟨_, rfl, ⟨rfl, rfl, rfl, rfl, rfl, Rd.nil _ _⟩, h2, h3⟩
  by_cases h8 : kd = 8
  · subst h8
    refine (again8 base g A c bs at_ e w hR a n num A2 c2 p s).mono ?_
    rintro r w' ⟨o', rfl, h2, h3, rfl⟩
    exact ⟨_, rfl, ⟨rfl, rfl, rfl, rfl, rfl, Rd.nil _ _⟩, h2, h3⟩
  refine (againX base g A c bs at_ e w hR a n num A2 c2 p s kd (beqf h1) (beqf h2) (beqf h3) (beqf h4) (beqf h5) (beqf h6) (beqf h7) (beqf h8)).mono ?_
  rintro r w' ⟨o', rfl, k2, k3, rfl⟩
  refine ⟨_, rfl, ⟨rfl, rfl, ?_, ?_, ?_, Rd.nil _ _⟩, ?_, k3⟩
  · simp [againN, h1, h2, h3, h4]
  · simp [againP, h5]
  · simp [againS, h6]
  · simpa [againA, againE, h1, h2, h3, h4, h5, h6, h7, h8] using k2
theorem laid_ (base g : Nat) (vb : Option Nat) (bs : List UInt8) (e : Int) (w : World) (hW : IsW w base g vb bs e) (o : OpV) (hl : bs.length + o.p.length + o.s.size + 4104 ≤ 140737488351232) (hn : o.n < 18446744073709551616) (hr : Rd w o.A o.p.length (bvs o.p)) :
    Calls Try.prog 55 #[.pointer (some ⟨g, 0, none⟩), o.val] w fun r w' => r = .returned (.bool (laidE o bs e == 0)) ∧ ∃ vb', IsW w' base g vb' (laidB o bs e) (laidE o bs e) ∧ FrW w w' g vb vb' := by
  obtain ⟨kd, a, n, num, A2, c2, p, s⟩ := o
  by_cases h1 : kd = 1
  · subst h1; exact laid1 base g vb bs e w hW a n num A2 c2 p s hl
  by_cases h2 : kd = 2
  · subst h2; exact laid2 base g vb bs e w hW a n num A2 c2 p s hl
  by_cases h3 : kd = 3
  · subst h3; exact laid3 base g vb bs e w hW a n num A2 c2 p s hl
  by_cases h4 : kd = 4
  · subst h4; exact laid4 base g vb bs e w hW a n num A2 c2 p s hl hn
  by_cases h5 : kd = 5
  · subst h5; exact laid5 base g vb bs e w hW a n num A2 c2 p s hl hr
  by_cases h6 : kd = 6
  · subst h6; exact laid6 base g vb bs e w hW a n num A2 c2 p s hl
  by_cases h7 : kd = 7
  · subst h7; exact laid7 base g vb bs e w hW a n num A2 c2 p s hl
  by_cases h8 : kd = 8
  · subst h8; exact laid8 base g vb bs e w hW a n num A2 c2 p s hl
  have h := laidX base g vb bs e w hW a n num A2 c2 p s hl kd (beqf h1) (beqf h2) (beqf h3) (beqf h4) (beqf h5) (beqf h6) (beqf h7) (beqf h8)
  refine h.mono ?_
  rintro r w' ⟨rfl, vb', k2, k3⟩
  have e1 : laidE ⟨kd, a, n, num, A2, c2, p, s⟩ bs e = e := by simp [laidE, h6, h7, h8]
  have e2 : laidB ⟨kd, a, n, num, A2, c2, p, s⟩ bs e = bs := by simp [laidB, h1, h2, h3, h4, h5, h6, h7, h8]
  rw [e1, e2]
  exact ⟨rfl, vb', k2, k3⟩

/-! ### What was taken, laid again -/
theorem leBytes_leNum (l : List UInt8) : leBytes l.length (leNum l) = l := by
  induction l with
  | nil => rfl
  | cons b t ih =>
    have hb := b.toNat_lt
    rw [List.length_cons, leBytes_succ, leNum]
    congr 1
    · apply UInt8.toNat_inj.1
      rw [UInt8.toNat_ofNat']
      omega
    · rw [show (b.toNat + 256 * leNum t) / 256 = leNum t by omega]
      exact ih
theorem leBytes_of (z : Nat) (l : List UInt8) (h : l.length = z) : leBytes z (leNum l) = l := by subst h; exact leBytes_leNum l
theorem take_on (bs : List UInt8) (a k : Nat) : bs.take (a + k) = bs.take a ++ (bs.drop a).take k := List.take_add
theorem num_laid (z : Nat) (bs : List UInt8) (at_ : Nat) (h : shortE z bs at_ 0 = 0) : bs.take at_ ++ leBytes z (numV z bs at_ 0) = bs.take (stepA z bs at_ 0) := by
  have hz : at_ + z ≤ bs.length := by
    unfold shortE at h
    by_cases hlt : bs.length < at_ + z
    · rw [if_pos ⟨rfl, hlt⟩] at h; simp at h
    · omega
  obtain ⟨h1, h2, _⟩ := num_ok hz
  rw [h1, h2, leBytes_of z _ (by simp; omega), take_on]
/-- A step that was taken lays just what it took. -/
theorem back_laid (o o' : OpV) (bs : List UInt8) (at_ : Nat) (w : World) (hat : at_ ≤ bs.length) (hb : Back o bs at_ 0 o' w) (h0 : againE o bs at_ 0 = 0) : laidB o' (bs.take at_) 0 = bs.take (againA o bs at_ 0) ∧ laidE o' (bs.take at_) 0 = 0 := by
  obtain ⟨kd, a, n, num, A2, c2, p, s⟩ := o
  obtain ⟨kd', a', n', num', A2', c2', p', s'⟩ := o'
  obtain ⟨hk, hnum, hn, hp, hs, _⟩ := hb
  simp only at hk hnum hn hp hs
  subst hk hnum hn hp hs
  have hta : (bs.take at_).length = at_ := by simp; omega
  by_cases h1 : kd' = 1
  · subst h1
    have h0' : shortE 1 bs at_ 0 = 0 := h0
    have hlt := numV_lt 1 bs at_ 0
    refine ⟨?_, rfl⟩
    show bs.take at_ ++ leBytes 1 (numV 1 bs at_ 0 % 256) = _
    rw [Nat.mod_eq_of_lt (by omega)]
    exact num_laid 1 bs at_ h0'
  by_cases h2 : kd' = 2
  · subst h2
    have h0' : shortE 2 bs at_ 0 = 0 := h0
    have hlt := numV_lt 2 bs at_ 0
    refine ⟨?_, rfl⟩
    show bs.take at_ ++ leBytes 2 (numV 2 bs at_ 0 % 65536) = _
    rw [Nat.mod_eq_of_lt (by omega)]
    exact num_laid 2 bs at_ h0'
  by_cases h3 : kd' = 3
  · subst h3
    have h0' : shortE 4 bs at_ 0 = 0 := h0
    have hlt := numV_lt 4 bs at_ 0
    refine ⟨?_, rfl⟩
    show bs.take at_ ++ leBytes 4 (numV 4 bs at_ 0 % 4294967296) = _
    rw [Nat.mod_eq_of_lt (by omega)]
    exact num_laid 4 bs at_ h0'
  by_cases h4 : kd' = 4
  · subst h4
    have h0' : shortE 8 bs at_ 0 = 0 := h0
    refine ⟨?_, rfl⟩
    show bs.take at_ ++ leBytes 8 (numV 8 bs at_ 0) = _
    exact num_laid 8 bs at_ h0'
  by_cases h5 : kd' = 5
  · subst h5
    have h0' : bytesE (p.length : Int) bs at_ 0 = 0 := h0
    have hok : at_ + p.length ≤ bs.length := by
      unfold bytesE at h0'
      by_cases hlt : (bs.length : Int) < at_ + (p.length : Int)
      · rw [if_pos rfl, if_neg (by omega), if_pos hlt] at h0'; simp at h0'
      · omega
    refine ⟨?_, rfl⟩
    show bs.take at_ ++ bytesV (p.length : Int) bs at_ 0 = bs.take (bytesA (p.length : Int) bs at_ 0)
    unfold bytesV bytesA
    rw [if_pos ⟨rfl, by omega, by omega⟩, if_pos ⟨rfl, by omega, by omega⟩, Int.toNat_natCast, take_on]
  by_cases h6 : kd' = 6
  · subst h6
    have h0' : rtextE (s.size : Int) bs at_ 0 = 0 := h0
    have hok : rtextOk (s.size : Int) bs at_ 0 := by
      unfold rtextE at h0'
      rw [if_pos rfl] at h0'
      by_cases c1 : bs.length < at_ + 2
      · rw [if_pos c1] at h0'; simp at h0'
      rw [if_neg c1] at h0'
      by_cases c2 : (s.size : Int) < textN bs at_
      · rw [if_pos c2] at h0'; simp at h0'
      rw [if_neg c2] at h0'
      by_cases c3 : bs.length < at_ + 2 + textN bs at_
      · rw [if_pos c3] at h0'; simp at h0'
      exact ⟨rfl, by omega, by omega, by omega⟩
    have hlt := textN_lt bs at_
    have hsz : (mkS ((bs.drop (at_ + 2)).take (textN bs at_))).size = textN bs at_ := by
      rw [mkS_size]
      have := hok.2.2.2
      simp
      omega
    have e1 : againS ⟨6, a, n, num', A2, c2, p, s⟩ bs at_ 0 = mkS ((bs.drop (at_ + 2)).take (textN bs at_)) := by
      show mkS (rtextL (s.size : Int) bs at_ 0) = _
      unfold rtextL
      rw [if_pos hok]
    constructor
    · show textB (bs.take at_) 0 (againS ⟨6, a, n, num', A2, c2, p, s⟩ bs at_ 0) = bs.take (rtextA (s.size : Int) bs at_ 0)
      rw [e1]
      unfold textB rtextA
      rw [if_pos ⟨rfl, by rw [hsz]; omega⟩, if_pos hok, hsz, sb_mkS, take_on, take_on]
      congr 2
      exact leBytes_of 2 _ (by have := hok.2.1; simp; omega)
    · show textE 0 (againS ⟨6, a, n, num', A2, c2, p, s⟩ bs at_ 0) = 0
      rw [e1]
      exact if_neg (by rw [hsz]; omega)
  by_cases h7 : kd' = 7
  · subst h7
    have h0' : rpadE num' bs at_ 0 = 0 := h0
    have hok : rpadOk num' bs at_ 0 := by
      unfold rpadE at h0'
      rw [if_pos rfl] at h0'
      by_cases c1 : ¬ (1 ≤ num' ∧ num' ≤ 4096)
      · rw [if_pos c1] at h0'; simp at h0'
      rw [if_neg c1] at h0'
      by_cases c2 : bs.length < at_ + gapN at_ num'.toNat
      · rw [if_pos c2] at h0'; simp at h0'
      rw [if_neg c2] at h0'
      by_cases c3 : rpadOk num' bs at_ 0
      · exact c3
      · rw [if_neg c3] at h0'; simp at h0'
    constructor
    · show padB (bs.take at_) 0 num' = bs.take (rpadA num' bs at_ 0)
      unfold padB rpadA
      rw [if_pos ⟨rfl, hok.2.1, hok.2.2.1⟩, if_pos hok, hta, take_on, ← hok.2.2.2.2]
      rfl
    · show padE 0 num' = 0
      exact if_neg (fun h => h.2 ⟨hok.2.1, hok.2.2.1⟩)
  by_cases h8 : kd' = 8
  · subst h8
    have h0' : rsealE num' bs at_ 0 = 0 := h0
    have hok : rsealOk num' bs at_ 0 := by
      unfold rsealE at h0'
      rw [if_pos rfl] at h0'
      by_cases c1 : num' < 0 ∨ (at_ : Int) < num'
      · rw [if_pos c1] at h0'; simp at h0'
      rw [if_neg c1] at h0'
      by_cases c2 : bs.length < at_ + 4
      · rw [if_pos c2] at h0'; simp at h0'
      rw [if_neg c2] at h0'
      by_cases c3 : rsealOk num' bs at_ 0
      · exact c3
      · rw [if_neg c3] at h0'; simp at h0'
    constructor
    · show sealB (bs.take at_) 0 num' = bs.take (rsealA num' bs at_ 0)
      unfold sealB rsealA
      rw [if_pos ⟨rfl, hok.2.1, by rw [hta]; exact hok.2.2.1⟩, if_pos hok, take_on, List.drop_take, ← hok.2.2.2.2]
      congr 1
      exact leBytes_of 4 _ (by have := hok.2.2.2.1; simp; omega)
    · show sealE (bs.take at_) 0 num' = 0
      exact if_neg (fun h => h.2 ⟨hok.2.1, by rw [hta]; exact hok.2.2.1⟩)
  have e1 : againA ⟨kd', a, n, num', A2, c2, p, s⟩ bs at_ 0 = at_ := by simp [againA, h1, h2, h3, h4, h5, h6, h7, h8]
  rw [e1]
  constructor
  · simp [laidB, h1, h2, h3, h4, h5, h6, h7, h8]
  · simp [laidE, h6, h7, h8]
end Go.Proofs.Ythdjddpomaendaa.B
