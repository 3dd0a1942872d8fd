/- The walk of WordReads. Printed by gen_reads.py. -/
import Derived.Test.YthdjddpomaendaaY6
import Derived.Test.YthdjddpomaendaaR0
namespace Go.Proofs.Ythdjddpomaendaa.B
open Go.RowKit
set_option linter.unusedVariables false
set_option linter.unusedSimpArgs false

theorem beyond1' (a : Nat) (ha : a ≤ 140737488351232) : beyondF 2147483647 [(a : Int)] = decide (2147483647 < a) := by
  simp only [beyondF]
  by_cases h : a ≤ 2147483647
  · rw [if_neg (by omega), decide_eq_false (by omega)]
  · rw [decide_eq_true (by omega), if_pos (by omega)]
theorem ivs1' (w : World) (x : Int) : Rd (w.alloc (.cells #[.int .i64 x] 3)) (some ⟨w.heap.size, 0, none⟩) 1 (ivs [x]) :=
  (Blk.new w (ivs [x]) 3).rd _ rfl (by omega) (fun j u hu => by rw [Nat.zero_add]; exact hu)
theorem IsRow.max {k : IntKind} {w : World} {a : Option Addr} {len cap : Nat} {zs : List Int} (h : IsRow k w a len cap zs) : cap ≤ 9223372036854775807 := by
  rcases h with ⟨_, _, rfl, _⟩ | ⟨_, _, _, h, _⟩
  · omega
  · simpa [maxLen] using h
/-- What stays is shown from here on. -/
theorem from_true {P : Program} {ops : Array Oper} {Q : Exit → Act → World → Prop} {md : Region.Mode} (S' : World → Prop) : ∀ (fuel : Nat) (listed : Array Bool) (a : Act) (w : World), wpAnyH P md ops Q S' fuel listed a w → wpAnyH P md ops Q (fun _ => True) fuel listed a w
  | 0, _, _, _, h => h
  | fuel + 1, _, _, _, h => ⟨h.1, fun i hi => wpOp_mono (fun a' w' h' => ⟨trivial, from_true S' fuel _ a' w' h'.2⟩) (h.2 i hi)⟩
/-- A new shelf. -/
theorem ShC.new (W : World) (base : Nat) (A0 : Option Addr) (c0 : Nat) (bs : List UInt8) (hb : base ≤ W.heap.size) (hs : Src W base A0 bs) (hl : bs.length ≤ 140737488351232) (hc : bs.length ≤ c0 ∧ c0 ≤ 9223372036854775807) :
    ShC (W.alloc (.cells #[.slice A0 bs.length c0, .slice none 0 0, .slice none 0 0, .slice none 0 0, .slice none 0 0, .int .i64 0, .bool false] 75)) base W.heap.size A0 c0 bs (.slice none 0 0) (.slice none 0 0) (.slice none 0 0) (.slice none 0 0) 0 (rpc []) (upc []) [] [] :=
  ⟨⟨hb, rfl, by decide, by decide, Blk.new W _ _, Row.nil _ _ _ _, Row.nil _ _ _ _, fun b hb => by cases hb⟩, by unfold I64; omega, ⟨fun i hi => by simp at hi, List.Pairwise.nil⟩, by simp, Row.nil _ _ _ _, Row.nil _ _ _ _, fun p hp => by simp at hp, fun i j p q hi => by simp at hi, hs.go ((below_alloc (Below.refl W.heap.size W) _).mono hb), hl, hc⟩
theorem Src.blk {W : World} {g n : Nat} {l : List UInt8} {base : Nat} (h : Blk W g (bvs l) 5) (hb : g < base) (hn : l.length = n) (hm : n ≤ 9223372036854775807) : Src W base (some ⟨g, 0, none⟩) l := fun W' hW => by
  subst hn
  exact (h.below hW hb).rd _ (bvs_length l) hm (fun j u hu => by rw [Nat.zero_add]; exact hu)

set_option maxHeartbeats 12800000 in
set_option maxRecDepth 100000 in
theorem reads_walk (A : Option Addr) (n c : Nat) (bs : List UInt8) (As : Option Addr) (m cs : Nat) (L : List OpV) (w : World) (hr : Rd w A n (bvs bs)) (hn : n ≤ 140737488351232) (hnc : n ≤ c) (hcm : c ≤ 9223372036854775807) (hL : OpsAt w As L) (hm : L.length = m) (hcs : m ≤ cs) (hmm : m ≤ 9223372036854775807)
    (hat : ∀ o ∈ L, (-9223372036854775808 ≤ o.at_ ∧ o.at_ ≤ 9223372036854775807) ∧ o.num ≤ 9223372036854775807) :
    Calls Try.prog 7 #[.slice A n c, .slice As m cs] w fun r w' => r = .returned (.bool true) ∧ Below w.heap.size w w' := by
  have hbl := hr.len
  have hB0 : Below w.heap.size w (w.alloc (.cells #[.int .i64 (n : Int)] 3)) := below_alloc (Below.refl _ w) _
  have hbe := fun W (h : Rd W (some ⟨w.heap.size, 0, none⟩) 1 (ivs [(n : Int)])) => beyond_ (some ⟨w.heap.size, 0, none⟩) 1 1 [(n : Int)] W h (by intro x hx; simp at hx; omega)
  rw [beyond1' n hn] at hbe
  by_cases hbig : 2147483647 < n
  · rw [decide_eq_true hbig] at hbe
    clear hbl
    go_enter Try.func7, Try.ntmps7
    go_wp2_with fail
    refine (hbe _ (ivs1' w _)).mono ?_
    rintro e w1 ⟨rfl, ⟨nd, rfl⟩⟩
    go_wp2_with fail
    go_ret
    exact ⟨rfl, below_drewN hB0 nd⟩
  · rw [decide_eq_false hbig] at hbe
    subst hbl
    have HM := Lib.hid hm
    have HAT := Lib.hid hat
    have HR := Lib.hid hr
    clear hm hat hr
    go_enter Try.func7, Try.ntmps7
    go_wp2_with fail
    refine (hbe _ (ivs1' w _)).mono ?_
    rintro e w1 ⟨rfl, hd⟩
    have hb1 : Below w.heap.size w w1 := hB0.trans (hd.below _)
    have hs1 := hb1.size
    clear hbe hB0 hd
    have hk2 : Blk (w1.alloc (.cells #[.int .u8 1, .int .u8 2, .int .u8 3] 5)) w1.heap.size (bvs [1, 2, 3]) 5 := Blk.new w1 (bvs [1, 2, 3]) 5
    have hs2 : Src (w1.alloc (.cells #[.int .u8 1, .int .u8 2, .int .u8 3] 5)) (w1.heap.size + 1) (some ⟨w1.heap.size, 0, none⟩) [1, 2, 3] := Src.blk hk2 (by omega) (n := 3) rfl (by omega)
    have hS3 := ShC.new (w1.alloc (.cells #[.int .u8 1, .int .u8 2, .int .u8 3] 5)) (w1.heap.size + 1) (some ⟨w1.heap.size, 0, none⟩) 3 [1, 2, 3] (by simp) hs2 (by simp) (by simp)
    rw [show (w1.alloc (.cells #[.int .u8 1, .int .u8 2, .int .u8 3] 5)).heap.size = w1.heap.size + 1 by simp] at hS3
    have hB3 : Below w.heap.size w ((w1.alloc (.cells #[.int .u8 1, .int .u8 2, .int .u8 3] 5)).alloc (.cells #[.slice (some ⟨w1.heap.size, 0, none⟩) 3 3, .slice none 0 0, .slice none 0 0, .slice none 0 0, .slice none 0 0, .int .i64 0, .bool false] 75)) := below_alloc (below_alloc hb1 _) _
    have HS3 := Lib.hid (And.intro hS3 hB3)
    clear hk2 hs2 hS3 hB3 hb1
    go_wp2_with fail
    refine (opens_ (w1.heap.size + 1) (w1.heap.size + 1) _ 3 [1, 2, 3] _ _ _ _ 0 [] [] _ HS3.out.1 (by simp)).mono ?_
    rintro r w4 ⟨rfl, vrs4, vis4, p4, hS4, hB4⟩
    have HS4 := Lib.hid (And.intro hS4 (HS3.out.2.trans (hB4.mono (by omega))))
    clear hS4 hB4 HS3
    go_wp2_with fail
    refine (sstep_take (w1.heap.size + 1) (w1.heap.size + 1) _ 3 [1, 2, 3] _ _ _ _ 0 _ [] ⟨2, 0, 0, 0, none, 0, [], ByteArray.empty⟩ _ HS4.out.1 (by simp) (by simp) (by decide) (show I64 0 by unfold I64; omega) (by decide)).mono ?_
    rintro r w5 ⟨rfl, vl5, vw5, n5, P5, I5, hS5, hB5, hP5⟩
    have HS5 := Lib.hid (And.intro hS5 (And.intro (HS4.out.2.trans (hB5.mono (by omega))) (show P5.length = 1 by rw [hP5]; rfl)))
    clear hS5 hB5 hP5 HS4
    go_wp2_with fail
    refine (sstep_take (w1.heap.size + 1) (w1.heap.size + 1) _ 3 [1, 2, 3] _ _ _ _ n5 P5 I5 ⟨1, 0, 0, 0, none, 0, [], ByteArray.empty⟩ _ HS5.out.1 (by rw [HS5.out.2.2]; omega) (fun h => by have := HS5.out.2.2; rw [h] at this; cases this) (by decide) (show I64 0 by unfold I64; omega) (by decide)).mono ?_
    rintro r w6 ⟨rfl, vl6, vw6, n6, P6, I6, hS6, hB6, hP6⟩
    have HS6 := Lib.hid (And.intro hS6 (And.intro (HS5.out.2.1.trans (hB6.mono (by omega))) (hP6.trans HS5.out.2.2)))
    clear hS6 hB6 hP6 HS5
    go_wp2_with fail
    refine (sstep_take (w1.heap.size + 1) (w1.heap.size + 1) _ 3 [1, 2, 3] _ _ _ _ n6 P6 I6 ⟨1, 0, 0, 0, none, 0, [], ByteArray.empty⟩ _ HS6.out.1 (by rw [HS6.out.2.2]; omega) (fun h => by have := HS6.out.2.2; rw [h] at this; cases this) (by decide) (show I64 0 by unfold I64; omega) (by decide)).mono ?_
    rintro r w7 ⟨rfl, vl7, vw7, n7, P7, I7, hS7, hB7, hP7⟩
    have hB7' : Below w.heap.size w w7 := HS6.out.2.1.trans (hB7.mono (by omega))
    have hsr : Src w7 w7.heap.size A bs := fun W hW => (HR.out.below (hB7'.trans (hW.mono hB7'.size)) (Nat.le_refl _))
    have hS8 := ShC.new w7 w7.heap.size A c bs (Nat.le_refl _) hsr hn ⟨hnc, hcm⟩
    have hB8 : Below w.heap.size w (w7.alloc (.cells #[.slice A bs.length c, .slice none 0 0, .slice none 0 0, .slice none 0 0, .slice none 0 0, .int .i64 0, .bool false] 75)) := below_alloc hB7' _
    have HS8 := Lib.hid (And.intro (hS8.below (below_drewN (Below.refl _ _) 1)) (below_drewN hB8 1))
    have hws := hB7'.size
    clear hS7 hB7 hP7 hB7' hsr hS8 hB8 HS6
    go_wp2_with fail
    refine wp_region_held_drew (S := (fun _ => True)) (by kernel_rfl) ?_ (fun hHeld => ?_)
    · (try dsimp only); (first | done | trivial)
    refine tk 0 (v := ?_) rfl ⟨by kernel_rfl, by kernel_rfl, by kernel_rfl⟩ (fun _ _ _ h => h) (by kernel_rfl) hHeld ?_ ?_
    rotate_left
    · (intro w0 hSw; (try dsimp only at hSw); go_simp; (try with_reducible rfl))
    (try simp only [Act.put, List.setIfInBounds_toArray, List.set_cons_zero, List.set_cons_succ])
    refine cr 1 rfl (by kernel_rfl) (fun K hK => ?_)
    (refine goes Try.func43 (by kernel_rfl) rfl #[.pointer (some ⟨w7.heap.size, 0, none⟩)] rfl rfl (by simp only [List.map_toArray, List.map_cons, List.map_nil]; rfl) ?_; refine (opens_ w7.heap.size w7.heap.size A c bs _ _ _ _ 0 [] [] _ HS8.out.1 (by simp)).mono ?_; rintro r w9 ⟨rfl, vrs9, vis9, p9, hS9, hB9⟩; refine ⟨_, rfl, ?_⟩; obtain ⟨aw, cw, av, cv, ew, ev⟩ := hS9.shape (by simp); subst ew ev; have h0 := hS9.blk.cell 1 _ rfl; have h1 := hS9.blk.cell 2 _ rfl; have h2 : w9.cell? aw = some (.pointer (some ⟨p9.g, 0, none⟩)) := ptr_atG (i := 0) (v := .pointer (some ⟨p9.g, 0, none⟩)) hS9.rr rfl; have h3 : w9.cell? av = some (.pointer (some ⟨p9.gv, 0, none⟩)) := ptr_atG (i := 0) (v := .pointer (some ⟨p9.gv, 0, none⟩)) hS9.ru rfl; have HS9 := Lib.hid (And.intro hS9 (HS8.out.2.trans (hB9.mono hws))); clear hS9 hB9)
    clear hHeld
    refine hK.out _ _ ?_ (fun hHeld => ?_)
    · (try dsimp only); (first | done | trivial)
    clear hK K
    (try simp only [Act.put, List.setIfInBounds_toArray, List.set_cons_zero, List.set_cons_succ])
    refine from_true (fun w' => w'.cell? ⟨w7.heap.size, 1, none⟩ = some (.slice (some aw) 1 cw) ∧ w'.cell? ⟨w7.heap.size, 2, none⟩ = some (.slice (some av) 1 cv) ∧ w'.cell? aw = some (.pointer (some ⟨p9.g, 0, none⟩)) ∧ w'.cell? av = some (.pointer (some ⟨p9.gv, 0, none⟩))) _ _ _ _ ?_
    clear hHeld
    have hHeld := And.intro h0 (And.intro h1 (And.intro h2 h3))
    refine tk 2 (v := ?_) rfl ⟨by kernel_rfl, by kernel_rfl, by kernel_rfl⟩ (fun _ _ _ h => h) (by kernel_rfl) hHeld ?_ ?_
    rotate_left
    · (intro w0 hSw; (try dsimp only at hSw); go_simp; (try with_reducible rfl))
    (try simp only [Act.put, List.setIfInBounds_toArray, List.set_cons_zero, List.set_cons_succ])
    refine tk 3 (v := ?_) rfl ⟨by kernel_rfl, by kernel_rfl, by kernel_rfl⟩ (fun _ _ _ h => h) (by kernel_rfl) hHeld ?_ ?_
    rotate_left
    · (intro w0 hSw; (try dsimp only at hSw); go_simp; (try with_reducible rfl))
    (try simp only [Act.put, List.setIfInBounds_toArray, List.set_cons_zero, List.set_cons_succ])
    refine tk 4 (v := ?_) rfl ⟨by kernel_rfl, by kernel_rfl, by kernel_rfl⟩ (fun _ _ _ h => h) (by kernel_rfl) hHeld ?_ ?_
    rotate_left
    · (intro w0 hSw; (try dsimp only at hSw); go_simp; (try with_reducible rfl))
    (try simp only [Act.put, List.setIfInBounds_toArray, List.set_cons_zero, List.set_cons_succ])
    refine tk 5 (v := ?_) rfl ⟨by kernel_rfl, by kernel_rfl, by kernel_rfl⟩ (fun _ _ _ h => h) (by kernel_rfl) hHeld ?_ ?_
    rotate_left
    · (intro w0 hSw; (try dsimp only at hSw); go_simp; (try with_reducible rfl))
    (try simp only [Act.put, List.setIfInBounds_toArray, List.set_cons_zero, List.set_cons_succ])
    refine tk 6 (v := ?_) rfl ⟨by kernel_rfl, by kernel_rfl, by kernel_rfl⟩ (fun _ _ _ h => h) (by kernel_rfl) hHeld ?_ ?_
    rotate_left
    · (intro w0 hSw; (try dsimp only at hSw); go_simp; (try with_reducible rfl))
    (try simp only [Act.put, List.setIfInBounds_toArray, List.set_cons_zero, List.set_cons_succ])
    refine tk 7 (v := ?_) rfl ⟨by kernel_rfl, by kernel_rfl, by kernel_rfl⟩ (fun _ _ _ h => h) (by kernel_rfl) hHeld ?_ ?_
    rotate_left
    · (intro w0 hSw; (try dsimp only at hSw); go_simp; (try with_reducible rfl))
    (try simp only [Act.put, List.setIfInBounds_toArray, List.set_cons_zero, List.set_cons_succ])
    refine tk 8 (v := ?_) rfl ⟨by kernel_rfl, by kernel_rfl, by kernel_rfl⟩ (fun _ _ _ h => h) (by kernel_rfl) hHeld ?_ ?_
    rotate_left
    · (intro w0 hSw; (try dsimp only at hSw); go_simp; (try with_reducible rfl))
    (try simp only [Act.put, List.setIfInBounds_toArray, List.set_cons_zero, List.set_cons_succ])
    refine tk 9 (v := ?_) rfl ⟨by kernel_rfl, by kernel_rfl, by kernel_rfl⟩ (fun _ _ _ h => h) (by kernel_rfl) hHeld ?_ ?_
    rotate_left
    · (intro w0 hSw; (try dsimp only at hSw); go_simp; (try with_reducible rfl))
    (try simp only [Act.put, List.setIfInBounds_toArray, List.set_cons_zero, List.set_cons_succ])
    refine tk 10 (v := ?_) rfl ⟨by kernel_rfl, by kernel_rfl, by kernel_rfl⟩ (fun _ _ _ h => h) (by kernel_rfl) hHeld ?_ ?_
    rotate_left
    · (intro w0 hSw; (try dsimp only at hSw); go_simp; (try with_reducible rfl))
    (try simp only [Act.put, List.setIfInBounds_toArray, List.set_cons_zero, List.set_cons_succ])
    refine tk 11 (v := ?_) rfl ⟨by kernel_rfl, by kernel_rfl, by kernel_rfl⟩ (fun _ _ _ h => h) (by kernel_rfl) hHeld ?_ ?_
    rotate_left
    · (intro w0 hSw; (try dsimp only at hSw); go_simp; (try with_reducible rfl))
    (try simp only [Act.put, List.setIfInBounds_toArray, List.set_cons_zero, List.set_cons_succ])
    refine tk 12 (v := ?_) rfl ⟨by kernel_rfl, by kernel_rfl, by kernel_rfl⟩ (fun _ _ _ h => h) (by kernel_rfl) hHeld ?_ ?_
    rotate_left
    · (intro w0 hSw; (try dsimp only at hSw); go_simp; (try with_reducible rfl))
    (try simp only [Act.put, List.setIfInBounds_toArray, List.set_cons_zero, List.set_cons_succ])
    refine tk 13 (v := ?_) rfl ⟨by kernel_rfl, by kernel_rfl, by kernel_rfl⟩ (fun _ _ _ h => h) (by kernel_rfl) hHeld ?_ ?_
    rotate_left
    · (intro w0 hSw; (try dsimp only at hSw); go_simp; (try with_reducible rfl))
    (try simp only [Act.put, List.setIfInBounds_toArray, List.set_cons_zero, List.set_cons_succ])
    refine tk 14 (v := ?_) rfl ⟨by kernel_rfl, by kernel_rfl, by kernel_rfl⟩ (fun _ _ _ h => h) (by kernel_rfl) hHeld ?_ ?_
    rotate_left
    · (intro w0 hSw; (try dsimp only at hSw); go_simp; (try with_reducible rfl))
    (try simp only [Act.put, List.setIfInBounds_toArray, List.set_cons_zero, List.set_cons_succ])
    refine tk 15 (v := ?_) rfl ⟨by kernel_rfl, by kernel_rfl, by kernel_rfl⟩ (fun _ _ _ h => h) (by kernel_rfl) hHeld ?_ ?_
    rotate_left
    · (intro w0 hSw; (try dsimp only at hSw); go_simp; (try with_reducible rfl))
    (try simp only [Act.put, List.setIfInBounds_toArray, List.set_cons_zero, List.set_cons_succ])
    refine cr 16 rfl (by kernel_rfl) (fun K hK => ?_)
    (refine goes Try.func45 (by kernel_rfl) rfl #[.pointer (some ⟨p9.g, 0, none⟩), .pointer (some ⟨p9.gv, 0, none⟩)] rfl rfl (by simp only [List.map_toArray, List.map_cons, List.map_nil]; rfl) ?_; have hok9 := HS9.out.1.ok p9 (by simp); refine (told_ w7.heap.size p9.g p9.A p9.c p9.gv A c bs p9.at_ p9.e _ hok9.hr hok9.hu).mono ?_; rintro r wS ⟨rfl, ⟨n9, rfl⟩⟩; refine ⟨_, rfl, ?_⟩; clear hok9)
    clear hHeld
    refine hK.out _ _ ?_ (fun hHeld => ?_)
    · (try dsimp only); go_keep
    clear hK K
    (try simp only [Act.put, List.setIfInBounds_toArray, List.set_cons_zero, List.set_cons_succ])
    refine tk 17 (v := ?_) rfl ⟨by kernel_rfl, by kernel_rfl, by kernel_rfl⟩ (fun _ _ _ h => h) (by kernel_rfl) hHeld ?_ ?_
    rotate_left
    · (intro w0 hSw; (try dsimp only at hSw); go_simp; (try with_reducible rfl))
    (try simp only [Act.put, List.setIfInBounds_toArray, List.set_cons_zero, List.set_cons_succ])
    refine tk 18 (v := ?_) rfl ⟨by kernel_rfl, by kernel_rfl, by kernel_rfl⟩ (fun _ _ _ h => h) (by kernel_rfl) hHeld ?_ ?_
    rotate_left
    · (intro w0 hSw; (try dsimp only at hSw); go_simp; (try with_reducible rfl))
    (try simp only [Act.put, List.setIfInBounds_toArray, List.set_cons_zero, List.set_cons_succ])
    refine wpAnyH_done (by kernel_rfl) ?_ _
    have HS10 := Lib.hid (And.intro (HS9.out.1.below (below_drewN (Below.refl _ w9) n9)) (HS9.out.2.trans (below_drewN (Below.refl _ w9) n9)))
    clear hHeld h0 h1 h2 h3 HS9 HS8
    generalize hgx : w7.heap.size = gx at *
    clear hgx
    go_wp2_with fail
    go_loopw [7] (fun i wr => ∃ (k : Nat), k ≤ m ∧ i = .int .i64 (k : Int) ∧ Hid (∃ vrs vis vl vw n P I, ShC wr gx gx A c bs vrs vis vl vw n (rpc P) (upc P) P I ∧ Below w.heap.size w wr ∧ P ≠ [] ∧ P.length ≤ 20)) (fun i _ => m - (intOf i).toNat)
    case atStart => exact ⟨0, Nat.zero_le _, rfl, Lib.hid ⟨_, _, _, _, _, [p9], [], HS10.out.1, HS10.out.2, by simp, by simp⟩⟩
    case round =>
      clear HS10
      obtain ⟨k, hk, rfl, HB⟩ := hrel
      obtain ⟨vrs, vis, vl, vw, n1, P, I, hS, hB, hne, hPl⟩ := HB.out
      have HS := Lib.hid (And.intro hS hB)
      clear HB hS hB
      by_cases hlt : k < m
      · obtain ⟨o, ho⟩ : ∃ o, L[k]? = some o := ⟨_, List.getElem?_eq_getElem (by rw [HM.out]; exact hlt)⟩
        obtain ⟨ad, rfl, hcell, hok, hblk⟩ := (hL.below HS.out.2) k o ho
        obtain ⟨e0, e1, e2, e3, e4, e5⟩ := op_cellsG hcell
        have hi0 : (0 : Int) ≤ (k : Int) := by omega
        have hi1 : (k : Int) < (m : Int) := by omega
        have HO := Lib.hid (HAT.out o (List.mem_of_getElem? ho))
        have hst : Calls Try.prog 44 #[.pointer (some ⟨gx, 0, none⟩), o.val] wr fun r w' => r = .returned (.bool true) ∧ ∃ vrs vis vl vw n P I, ShC w' gx gx A c bs vrs vis vl vw n (rpc P) (upc P) P I ∧ Below w.heap.size w w' ∧ P ≠ [] ∧ P.length ≤ 20 := by
          by_cases h10 : o.kind = 10
          · refine (sstep_new gx gx A c bs vrs vis vl vw n1 P I o wr HS.out.1 hPl hne h10).mono ?_
            rintro r w' ⟨e, a1, a2, P', h1, h2, h3, h4⟩
            exact ⟨e, a1, a2, vl, vw, n1, P', I, h1, HS.out.2.trans (h2.mono hws), h4, h3⟩
          · refine (sstep_take gx gx A c bs vrs vis vl vw n1 P I o wr HS.out.1 (by omega) hne h10 HO.out.1 HO.out.2).mono ?_
            rintro r w' ⟨e, a1, a2, a3, P', I', h1, h2, h3⟩
            exact ⟨e, vrs, vis, a1, a2, a3, P', I', h1, HS.out.2.trans (h2.mono hws), fun h => by rw [h] at h3; exact hne (List.length_eq_zero_iff.1 h3.symm), by omega⟩
        have HST := Lib.hid hst
        clear hcell hok hblk ho hst
        go_wp2_with fail
        refine HST.out.mono ?_
        rintro r w' ⟨rfl, h⟩
        have HX := Lib.hid h
        clear h e0 e1 e2 e3 e4 e5
        go_wp2_with fail
        go_roundw
        case rel => exact ⟨k + 1, by omega, by go_num, HX⟩
        case measure => simp [intOf]; omega
      · obtain rfl : k = m := by omega
        clear hlt hk
        obtain ⟨aw2, cw2, av2, cv2, rfl, rfl⟩ := HS.out.1.shape hne
        have q0 := HS.out.1.blk.cell 1 _ rfl
        obtain ⟨pl, hpl⟩ : ∃ pl, P.length = pl := ⟨_, rfl⟩
        have HPL := Lib.hid hpl
        rw [hpl] at q0 hPl HS
        have t20 : decide (20 < pl) = false := decide_eq_false (by omega)
        have t20' : decide ((20 : Int) < (pl : Int)) = false := decide_eq_false (by omega)
        clear hpl
        go_wp2_with fail
        clear t20 t20' q0
        go_loopw [9] (fun i wr => ∃ (j : Nat), j ≤ 2 ∧ i = .int .i64 ((pl + j : Nat) : Int) ∧ Hid (∃ vrs vis vl vw n P I, ShC wr gx gx A c bs vrs vis vl vw n (rpc P) (upc P) P I ∧ Below w.heap.size w wr ∧ P ≠ [] ∧ P.length = pl + j)) (fun i _ => pl + 2 - (intOf i).toNat)
        case atStart => exact ⟨0, by omega, rfl, Lib.hid ⟨_, _, _, _, _, P, I, HS.out.1, HS.out.2, hne, HPL.out⟩⟩
        case round =>
          clear HS
          obtain ⟨j, hj, rfl, HB⟩ := hrel
          obtain ⟨vrs3, vis3, vl3, vw3, n3, P3, I3, hS3, hB3, hne3, hP3⟩ := HB.out
          have HS3 := Lib.hid (And.intro hS3 (And.intro hB3 hP3))
          clear HB hS3 hB3 hP3
          by_cases hjl : j < 2
          · have hjj : (((pl + j : Nat)) : Int) < (pl : Int) + 2 := by omega
            go_wp2_with fail
            refine (opens_ gx gx A c bs vrs3 vis3 vl3 vw3 n3 P3 I3 _ HS3.out.1 (by have := HS3.out.2.2; omega)).mono ?_
            rintro r w11 ⟨rfl, vrs4, vis4, p4, hS4, hB4⟩
            obtain ⟨A5, c5, e5, _⟩ := hS4.rr.shape
            have hl5 : (rpc (P3 ++ [p4])).length = pl + j + 1 := by rw [rpc_length, List.length_append, HS3.out.2.2]; rfl
            rw [hl5] at e5
            subst e5
            have q0 := hS4.blk.cell 1 _ rfl
            have HS4 := Lib.hid (And.intro hS4 (HS3.out.2.1.trans (hB4.mono hws)))
            have t1 : decide (pl + j + 1 ≤ pl + j) = false := decide_eq_false (by omega)
            have t1' : decide ((((pl + j + 1 : Nat)) : Int) ≤ ((pl + j : Nat) : Int)) = false := decide_eq_false (by omega)
            have t1'' : decide (((pl : Int) + (j : Int) + 1) ≤ (pl : Int) + (j : Int)) = false := decide_eq_false (by omega)
            clear hS4 hB4 hl5
            go_wp2_with fail
            refine (sstep_take gx gx A c bs _ vis4 vl3 vw3 n3 (P3 ++ [p4]) I3 ⟨5, ((pl + j : Nat) : Int), 0, (bs.length : Int), none, 0, [], ByteArray.empty⟩ _ HS4.out.1 (by rw [List.length_append]; have := HS3.out.2.2; simp; omega) (by simp) (show ¬ (5 : Int) = 10 by decide) (show I64 ((pl + j : Nat) : Int) by unfold I64; omega) (show (bs.length : Int) ≤ 9223372036854775807 by omega)).mono ?_
            rintro r w12 ⟨rfl, vl6, vw6, n6, P6, I6, hS6, hB6, hP6⟩
            have HX := Lib.hid (show ∃ vrs vis vl vw n P I, ShC w12 gx gx A c bs vrs vis vl vw n (rpc P) (upc P) P I ∧ Below w.heap.size w w12 ∧ P ≠ [] ∧ P.length = pl + (j + 1) from
              ⟨_, _, _, _, _, P6, I6, hS6, HS4.out.2.trans (hB6.mono hws), fun h => by rw [h] at hP6; simp at hP6, by rw [hP6, List.length_append, HS3.out.2.2]; rfl⟩)
            clear hS6 hB6 hP6 q0 t1 t1' t1''
            go_wp2_with fail
            go_roundw
            case rel => exact ⟨j + 1, by omega, by go_num, HX⟩
            case measure => simp [intOf]; omega
          · obtain rfl : j = 2 := by omega
            have hjj : ¬ (((pl + 2 : Nat)) : Int) < (pl : Int) + 2 := by omega
            have t1 : decide ((((pl + 2 : Nat)) : Int) < (pl : Int) + 2) = false := decide_eq_false hjj
            have hfin := (apart_ gx gx 3 _ _ _ _ _ I3 n3 _ HS3.out.1.book HS3.out.1.kps (by have := HS3.out.1.sz; omega)).mono fun r w' h => (⟨h.1, HS3.out.2.1.trans (h.2.mono hws)⟩ : r = .returned (.bool true) ∧ Below w.heap.size w w')
            have HF := Lib.hid hfin
            clear hfin HS3 hjl
            go_wp2_with fail
            refine HF.out.mono ?_
            rintro r w13 ⟨rfl, hB13⟩
            go_wp2_with fail
            go_ret
            exact ⟨rfl, hB13⟩
end Go.Proofs.Ythdjddpomaendaa.B
