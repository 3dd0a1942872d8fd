/- The walk of WordNames. -/
import Derived.Test.YthdjddpomaendaaR6
import Derived.Test.YthdjddpomaendaaW3
import Derived.Test.YthdjddpomaendaaPWordKinx2
import Derived.Lib.SlBytesConst
namespace Go.Proofs.Ythdjddpomaendaa.B
open Go.RowKit Go.Proofs.Ythdjddpomaendaa.PWordKin
set_option linter.unusedVariables false
set_option linter.unusedSimpArgs false

def nine : List UInt8 := [49, 50, 51, 52, 53, 54, 55, 56, 57]
def rec8 : List UInt8 := [5, 0, 0, 0, 0, 0, 0, 0]
def rec12 : List UInt8 := sealB rec8 0 0
theorem crc_nil : ((moreC 0 []).toNat : Int) = 0 := by decide +kernel
theorem crc_nine : ((moreC 0 nine).toNat : Int) = 3808858755 := by decide +kernel
theorem crc_null : ((moreC 0 [0]).toNat : Int) = 1383945041 := by decide +kernel
theorem mul8 (w : World) : Calls Try.prog 46 #[.int .u8 15, .int .u8 17] w fun e w' => e = .returned (.tuple #[.int .u8 255, .bool true]) ∧ Drawn w w' :=
  (word_Mul_uint8.calls 15 17 255 true w (by decide +kernel)).mono fun e w' h => by obtain ⟨h1, ⟨⟨n, rfl⟩⟩⟩ := h; exact ⟨h1, ⟨n, rfl⟩⟩
theorem mul16 (w : World) : Calls Try.prog 47 #[.int .u16 300, .int .u16 300] w fun e w' => e = .returned (.tuple #[.int .u16 0, .bool false]) ∧ Drawn w w' :=
  (word_Mul_uint16.calls 300 300 0 false w (by decide +kernel)).mono fun e w' h => by obtain ⟨h1, ⟨⟨n, rfl⟩⟩⟩ := h; exact ⟨h1, ⟨n, rfl⟩⟩
theorem rd_new (w : World) (l : List UInt8) (n : Nat) (hl : l.length = n) (hm : n ≤ 9223372036854775807 := by omega) : Rd (w.alloc (.cells (bvs l).toArray 5)) (some ⟨w.heap.size, 0, none⟩) n (bvs l) :=
  (Blk.new w (bvs l) 5).rd _ (by rw [bvs_length, hl]) hm (fun j u hu => by rw [Nat.zero_add]; exact hu)
theorem rd_mark (w : World) (l : List UInt8) (n : Nat) (fr : Nat × Nat) (hl : l.length = n) (hm : n ≤ 9223372036854775807 := by omega) : Rd (w.alloc (.cells (bvs l).toArray 5 fr)) (some ⟨w.heap.size, 0, none⟩) n (bvs l) :=
  ⟨by rw [bvs_length, hl], hm, fun _ => ⟨_, rfl, fun j u hu => by
    rw [add_lit, Nat.zero_add, World.cell?_alloc_mark]
    simpa using hu⟩⟩
theorem facts5 : okB 0 ([] ++ leBytes 4 5) [] = [5, 0, 0, 0] ∧ padB [5, 0, 0, 0] 0 8 = rec8 ∧ padE 0 8 = 0 ∧ sealE rec8 0 0 = 0 := by decide +kernel
theorem facts12 : rec12.length = 12 ∧ numV 4 rec12 0 0 = 5 ∧ stepA 4 rec12 0 0 = 4 ∧ shortE 4 rec12 0 0 = 0 ∧ rpadA 8 rec12 4 0 = 8 ∧ rpadE 8 rec12 4 0 = 0 ∧ rsealA 0 rec12 8 0 = 12 ∧ rsealE 0 rec12 8 0 = 0 := by decide +kernel

set_option maxHeartbeats 3200000 in
set_option maxRecDepth 100000 in
theorem names_ (w : World) : Calls Try.prog 8 #[] w fun e w' => e = .returned (.bool true) ∧ Below w.heap.size w w' := by
  have kc := fun (w : World) (C : Array Value) (n c : Nat) => Lib.run_convert_bytes_const (P := Try.prog) w 22 5 C n c Try.underlying22 Try.underlying5
  go_enter Try.func8, Try.ntmps8
  go_wp2_with fail
  refine (crc_ none 0 0 [] _ (Rd.nil _ _)).mono ?_
  rintro r w1 ⟨rfl, hb1⟩
  rw [crc_nil]
  go_wp2_with fail
  have hr2 := rd_mark w1 nine 9 (9, 10) rfl
  have hb2 : Below w.heap.size w (w1.alloc (.cells (bvs nine).toArray 5 (9, 10))) := below_alloc hb1 _
  refine (crc_ (some ⟨w1.heap.size, 0, none⟩) 9 9 nine _ hr2).mono ?_
  rintro r w3 ⟨rfl, hb⟩
  have hb3 : Below w.heap.size w w3 := hb2.trans (hb.mono hb2.size)
  rw [crc_nine]
  clear hb hb2 hr2 hb1
  go_wp2_with fail
  have hr4 := rd_new w3 [0] 1 rfl
  have hb4 : Below w.heap.size w (w3.alloc (.cells (bvs [0]).toArray 5)) := below_alloc hb3 _
  refine (crc_ (some ⟨w3.heap.size, 0, none⟩) 1 1 [0] _ hr4).mono ?_
  rintro r w5 ⟨rfl, hb⟩
  have hb5 : Below w.heap.size w w5 := hb4.trans (hb.mono hb4.size)
  rw [crc_null]
  clear hb hb4 hr4 hb3
  go_wp2_with fail
  refine (mul8 _).mono ?_
  rintro r w6 ⟨rfl, ⟨n6, rfl⟩⟩
  go_wp2_with fail
  refine (mul16 _).mono ?_
  rintro r w7 ⟨rfl, ⟨n7, rfl⟩⟩
  have hb7 := below_drewN hb5 (n6 + n7)
  clear hb5
  go_wp2_with fail
  refine (newWriter _).mono ?_
  rintro r w8 ⟨rfl, hW8, hb⟩
  have hb8 : Below w.heap.size w w8 := hb7.trans (hb.mono hb7.size)
  have hs7 := hb7.size
  generalize hg1 : (w5.drewN (n6 + n7)).heap.size = g1 at *
  clear hb hb7 hg1
  go_wp2_with fail
  refine (newWriter _).mono ?_
  rintro r w9 ⟨rfl, hX9, hb⟩
  have hb9 : Below w.heap.size w w9 := hb8.trans (hb.mono hb8.size)
  have hW9 := hW8.below hb
  have h12 : g1 < w8.heap.size := hW8.lt.1
  have hs8 := hb8.size
  generalize hg2 : w8.heap.size = g2 at *
  clear hb hg2 hW8 hb8
  go_wp2_with fail
  refine (wLen g1 g1 none [] 0 _ hW9).mono ?_
  rintro r w10 ⟨rfl, rfl⟩
  go_wp2_with fail
  refine (wAll g1 g1 none [] 0 _ hW9 (by simp)).mono ?_
  rintro r w11 ⟨A11, c11, rfl, hO11, hb⟩
  have hb11 : Below w.heap.size w w11 := hb9.trans (hb.mono hb9.size)
  have hW11 := hW9.below hb
  have hX11 := hX9.below hb
  clear hb hO11 hW9 hX9 hb9
  go_wp2_with fail
  refine (wErr g1 g1 none [] 0 _ hW11).mono ?_
  rintro r w12 ⟨rfl, rfl⟩
  go_wp2_with fail
  refine (wPad g2 g2 none [] 0 _ 0 hX11 (by simp)).mono ?_
  rintro r w13 ⟨rfl, vb13, hX13, hF⟩
  rw [show padE 0 0 = 1 by decide] at hX13
  have hW13 := hW11.fr hF.1 (fun h => h.elim (fun h => by omega) (fun h => by cases h)) (fun k hk => by cases hk)
  have hb13 : Below w.heap.size w w13 := hb11.trans (hF.below hs8 (fun k hk => by cases hk) hb11.size)
  clear hF hW11 hX11 hb11
  go_wp2_with fail
  refine (wErr g2 g2 vb13 _ 1 _ hX13).mono ?_
  rintro r w14 ⟨rfl, rfl⟩
  clear hX13
  go_wp2_with fail
  refine (wWord g1 g1 none [] 0 5 _ (by omega) hW13 (by simp)).mono ?_
  rintro r w15 ⟨rfl, vb15, hW15, hF⟩
  rw [facts5.1] at hW15
  have hb15 : Below w.heap.size w w15 := hb13.trans (hF.below hs7 (fun k hk => by cases hk) hb13.size)
  clear hF hW13 hb13
  go_wp2_with fail
  refine (wPad g1 g1 vb15 _ 0 _ 8 hW15 (by simp)).mono ?_
  rintro r w16 ⟨rfl, vb16, hW16, hF⟩
  rw [facts5.2.1, facts5.2.2.1] at hW16
  have hb16 : Below w.heap.size w w16 := hb15.trans (hF.below hs7 (fun k hk => Nat.le_trans hs7 (hW15.lt.2.2 k hk).1) hb15.size)
  clear hF hW15 hb15
  go_wp2_with fail
  refine (wSeal g1 g1 vb16 rec8 0 _ 0 hW16 (by decide)).mono ?_
  rintro r w17 ⟨rfl, vb17, hW17, hF⟩
  rw [facts5.2.2.2, show sealB rec8 0 0 = rec12 from rfl] at hW17
  have hb17 : Below w.heap.size w w17 := hb16.trans (hF.below hs7 (fun k hk => Nat.le_trans hs7 (hW16.lt.2.2 k hk).1) hb16.size)
  clear hF hW16 hb16
  obtain ⟨q1, q2, q3, q4, q5, q6, q7, q8⟩ := facts12
  have Q := Lib.hid (And.intro q1 (And.intro q2 (And.intro q3 (And.intro q4 (And.intro q5 (And.intro q6 (And.intro q7 q8)))))))
  generalize hL : rec12 = L at *
  clear q1 q2 q3 q4 q5 q6 q7 q8 hL
  go_wp2_with fail
  refine (wAll g1 g1 vb17 L 0 _ hW17 (by rw [Q.out.1]; omega)).mono ?_
  rintro r w18 ⟨A18, c18, rfl, hO18, hb⟩
  rw [Q.out.1] at hO18 ⊢
  have hr18 := hO18.rd_
  have hb18 : Below w.heap.size w w18 := hb17.trans (hb.mono hb17.size)
  have hW18 := hW17.below hb
  clear hb hO18 hW17 hb17
  go_wp2_with fail
  refine (newReader A18 12 c18 L _ hr18 (by omega)).mono ?_
  rintro r w19 ⟨g19, A19, c19, rfl, hR19, hb⟩
  have hb19 : Below w.heap.size w w19 := hb18.trans (hb.mono hb18.size)
  have hW19 := hW18.below hb
  have hs18 := hb18.size
  generalize hB : w18.heap.size = b18 at *
  clear hb hW18 hb18 hr18 hB
  go_wp2_with fail
  refine (wLen g1 g1 vb17 L 0 _ hW19).mono ?_
  rintro r w20 ⟨rfl, rfl⟩
  rw [Q.out.1]
  clear hW19
  go_wp2_with fail
  refine (rWord b18 g19 A19 c19 L 0 0 _ hR19).mono ?_
  rintro r w21 ⟨rfl, hR21, hF⟩
  rw [Q.out.2.1]
  rw [Q.out.2.2.1, Q.out.2.2.2.1] at hR21
  have hb21 : Below w.heap.size w w21 := hb19.trans (hF.below (fun k hk => hk ▸ Nat.le_trans hs18 hR19.hg) hb19.size)
  clear hF hR19 hb19
  go_wp2_with fail
  refine (rAt b18 g19 A19 c19 L 4 0 _ hR21).mono ?_
  rintro r w22 ⟨rfl, rfl⟩
  go_wp2_with fail
  refine (rEnd b18 g19 A19 c19 L 4 0 _ hR21).mono ?_
  rintro r w23 ⟨rfl, ⟨n23, rfl⟩⟩
  rw [show endE L.length 4 0 = 12 from if_pos ⟨rfl, by rw [Q.out.1]; omega⟩]
  have hR23 := hR21.below (below_drewN (Below.refl _ _) n23)
  have hb23 := below_drewN hb21 n23
  clear hR21 hb21
  go_wp2_with fail
  refine (rPad b18 g19 A19 c19 L 4 0 _ hR23 8).mono ?_
  rintro r w24 ⟨rfl, hR24, hF⟩
  rw [Q.out.2.2.2.2.1, Q.out.2.2.2.2.2.1] at hR24
  have hb24 : Below w.heap.size w w24 := hb23.trans (hF.below (fun k hk => hk ▸ Nat.le_trans hs18 hR23.hg) hb23.size)
  clear hF hR23 hb23
  go_wp2_with fail
  refine (rSeal b18 g19 A19 c19 L 8 0 _ hR24 0).mono ?_
  rintro r w25 ⟨rfl, hR25, hF⟩
  rw [Q.out.2.2.2.2.2.2.1, Q.out.2.2.2.2.2.2.2] at hR25
  have hb25 : Below w.heap.size w w25 := hb24.trans (hF.below (fun k hk => hk ▸ Nat.le_trans hs18 hR24.hg) hb24.size)
  clear hF hR24 hb24
  go_wp2_with fail
  refine (rLeft b18 g19 A19 c19 L 12 0 _ hR25).mono ?_
  rintro r w26 ⟨rfl, ⟨n26, rfl⟩⟩
  rw [show L.length - 12 = 0 by rw [Q.out.1]]
  have hR26 := hR25.below (below_drewN (Below.refl _ _) n26)
  clear hR25
  go_wp2_with fail
  refine (rErr b18 g19 A19 c19 L 12 0 _ hR26).mono ?_
  rintro r w27 ⟨rfl, rfl⟩
  go_wp2_with fail
  refine (rEnd b18 g19 A19 c19 L 12 0 _ hR26).mono ?_
  rintro r w28 ⟨rfl, ⟨n28, rfl⟩⟩
  rw [show endE L.length 12 0 = 0 from if_neg (by rw [Q.out.1]; omega)]
  have hb28 := below_drewN hb25 (n26 + n28)
  clear hR26 hb25
  go_wp2_with fail
  refine (newReader none 0 0 [] _ (Rd.nil _ _) (by omega)).mono ?_
  rintro r w29 ⟨g29, A29, c29, rfl, hR29, hb⟩
  have hb29 : Below w.heap.size w w29 := hb28.trans (hb.mono hb28.size)
  clear hb hb28
  go_wp2_with fail
  refine (rEnd _ g29 A29 c29 [] 0 0 _ hR29).mono ?_
  rintro r w30 ⟨rfl, ⟨n30, rfl⟩⟩
  rw [show endE ([] : List UInt8).length 0 0 = 0 by decide]
  have hb30 := below_drewN hb29 n30
  go_wp2_with fail
  go_ret
  exact ⟨rfl, hb30⟩
end Go.Proofs.Ythdjddpomaendaa.B
