/- The law's numbers, of each type. Printed by gen_numbers.py. -/
import Derived.Test.YthdjddpomaendaaGreatZ4
namespace Go.Proofs.YthdjddpomaendaaGreat.B
open Go.RowKit
set_option linter.unusedVariables false
set_option linter.unusedSimpArgs false

set_option maxHeartbeats 12800000 in
set_option maxRecDepth 100000 in
theorem numbers_uint8 (base gb : Nat) (A : Option Addr) (n c : Nat) (p : List UInt8) (vl vw : Value) (nb : Int) (I : List Kp) (a b : Nat) (w : World) (ha : a < 256) (hb : b < 256) (hbl : p.length = n) (hn : n ≤ 2147483647) (hsrc : Src w base A p) (hB : NBk w base gb vl vw nb I) :
    Calls Tryz.prog 5 #[.int .i64 1, .int .u8 (a : Int), .int .u8 (b : Int), .slice A n c, .pointer (some ⟨gb, 0, none⟩)] w fun r w' => r = .returned (.bool true) ∧ ∃ vl' vw' nb' I', NBk w' base gb vl' vw' nb' I' ∧ Below base w w' := by
  have hsrc0 : ∀ W : World, Below base w W → Rd W A n (bvs p) := fun W hW => by have h := hsrc W hW; rwa [hbl] at h
  have hr := hsrc0 w (Below.refl _ _)
  have hbb := hB.lt
  have HB := Lib.hid hB
  have HSR := Lib.hid hsrc0
  have wa : IntKind.u64.wrap (a : Int) = (a : Int) := by rw [wu64]; omega
  have HBL := Lib.hid hbl
  clear hsrc hsrc0 hB hbl
  go_enter Tryz.func5, Tryz.ntmps5
  go_wp2_with fail
  refine (roomyG A n c p 165 _ hr (by omega)).mono ?_
  rintro r w1 ⟨F, hF0, rfl, hkF, hb1⟩
  have hr1 := HSR.out w1 (hb1.mono (by omega))
  have hs1 := hb1.size
  have HK1 := Lib.hid (And.intro hkF hb1)
  have hFl := hkF.lt
  have tok1 : True := trivial
  clear hkF hb1 hr
  go_wp2_with (first
    | ((with_reducible refine at_builtin_ (b := .append) rfl ?_); have _t := tok1; go_must (refine app_u8 rfl _ _ rfl w1.heap.size (.slice none 0 0) [] A n c p rfl rfl (Own.nil _ _) hr1 (Nat.le_refl _) n (by simp) (by omega) w1.heap.size w1 (Below.refl _ _) (Nat.le_refl _) ?_); intro A2 c2 w2 hO2 hb2 _ _; rw [List.nil_append] at hO2; clear tok1 _t)
    | (go_at_call 22; refine (refBytes1 a _ (by omega)).mono ?_; rintro r w3 ⟨A3, c3, rfl, hO3, hb3⟩; have hO2' := hO2.below hb3; have hrd3 := hO3.rd_; have hs3 := hb3.size; have hs2 := hb2.size; have tok2 : True := trivial)
    | ((with_reducible refine at_builtin_ (b := .append) rfl ?_); have _t := tok2; go_must (refine app_u8 rfl _ _ rfl w1.heap.size (.slice A2 n c2) p A3 1 c3 (leBytes 1 a) rfl rfl hO2' hrd3 (by omega) (n + 1) (by rw [HBL.out]) (by omega) w1.heap.size w1 (hb2.trans (hb3.mono (by omega))) (Nat.le_refl _) ?_); intro A4 c4 w4 hO4 hb4 _ _; clear tok2 _t hO2' hrd3 hO3 hb3 hO2 hb2 hs2 hs3))
  have HW := Lib.hid (And.intro (hO4.mono (base' := base) (by omega)) (hO4.base_le))
  have HOB := Lib.hid (show ∀ k, (Value.slice A4 (n + 1) c4).ownBlock = some k → F < k from fun k hk => by have := (hO4.base_le k hk).1; omega)
  have hcap4 : n + 1 ≤ c4 := by
    obtain ⟨A', c', e, h, _⟩ := hO4.cases
    injection e with _ _ e
    rw [List.length_append, leBytes_length, HBL.out] at h
    omega
  have HB4 := Lib.hid (And.intro (HB.out.below (HK1.out.2.trans (hb4.mono hs1))) (And.intro (HK1.out.1.below hb4 hFl) (show Below base w w4 from (HK1.out.2.mono (by omega)).trans (hb4.mono (by omega)))))
  have hFF : base ≤ F ∧ F < w1.heap.size := ⟨by omega, hFl⟩
  have HI0 := Lib.hid HB.out.I_lt
  clear hO4 hb4 HK1 HB hr1 hFl
  go_loopw [13] (fun i wr => ∃ (k : Nat), k ≤ 2 ∧ i = .int .i64 (k : Int) ∧ Hid (∃ vl vw nb I, NBk wr base gb vl vw nb I ∧ Blk wr F (bvs (p ++ List.replicate 80 165)) 5 ∧ Below base w wr ∧ Own wr base (.slice A4 (n + 1) c4) (p ++ leBytes 1 a) ∧ ∀ i ∈ I, ∀ k, (i.l.ownBlock = some k ∨ i.was.ownBlock = some k) → k ≠ F)) (fun i _ => 2 - (intOf i).toNat)
  case atStart => exact ⟨0, by omega, rfl, Lib.hid ⟨_, _, _, _, HB4.out.1, HB4.out.2.1, HB4.out.2.2, HW.out.1, fun i hi k hk => by have := HI0.out i hi k hk; omega⟩⟩
  case round =>
    clear HB4 HW HI0
    obtain ⟨k, hk, rfl, HS⟩ := hrel
    obtain ⟨vl1, vw1, nb1, I1, hN1, hkF, hB1, hO, hIF⟩ := HS.out
    have HX := Lib.hid (And.intro hN1 (And.intro hkF (And.intro hB1 (And.intro hO hIF))))
    have hrF := (hkF.rd (n := n) (off := 0) (bvs p) (by rw [bvs_length, HBL.out]) (by omega) (fun j u hu => by rw [Nat.zero_add, bvs, List.map_append]; exact (List.getElem?_append_left (List.getElem?_eq_some_iff.1 hu).1).trans hu))
    have hwb : base ≤ wr.heap.size := by have := hN1.lt; omega
    have hFw := hkF.lt
    clear HS hN1 hkF hB1 hO hIF
    by_cases hlt : k < 2
    · go_wp2_with fail
      refine (put_uint8 (some ⟨F, 0, none⟩) n (n + 80) p a _ ha hrF (by omega)).mono ?_
      rintro r w5 ⟨A5, c5, rfl, hO5, hb5⟩
      have hrx := hO5.rd_
      have hry := (HX.out.2.2.2.1.below hb5).rd_
      have hsm := same A5 A4 (n + 1) c5 (n + 1) c4 (p ++ leBytes 1 a) (p ++ leBytes 1 a) w5 hrx hry
      rw [decide_eq_true rfl] at hsm
      have HM := Lib.hid hsm
      have H5 := Lib.hid (And.intro hO5 hb5)
      clear hrx hry hsm hO5 hb5 hrF
      go_wp2_with fail
      refine HM.out.mono ?_
      rintro r w6 ⟨rfl, ⟨n6, rfl⟩⟩
      have hkF6 : Blk (w5.drewN n6) F (bvs (p ++ List.replicate 80 165)) 5 := (HX.out.2.1.below H5.out.2 hFw).drewN n6
      have hB6 : Below base w (w5.drewN n6) := (HX.out.2.2.1.trans (H5.out.2.mono hwb)).trans (below_drewN (Below.refl base w5) n6)
      have hrF := (hkF6.rd (n := n + 80) (off := 0) (bvs (p ++ List.replicate 80 165)) (by rw [bvs_length, List.length_append, List.length_replicate, HBL.out]) (by omega) (fun j u hu => by rw [Nat.zero_add]; exact hu))
      have hint := intact (some ⟨F, 0, none⟩) A (n + 80) (n + 80) n c (p ++ List.replicate 80 165) p 165 _ hrF (Nat.le_refl _) (HSR.out _ hB6) (by omega)
      rw [decide_eq_true rfl] at hint
      have HI := Lib.hid hint
      have H6 := Lib.hid (And.intro hkF6 hB6)
      clear HM hrF hint hkF6 hB6
      go_wp2_with fail
      refine HI.out.mono ?_
      rintro r w7 ⟨rfl, ⟨n7, rfl⟩⟩
      have hb7 : Below wr.heap.size wr ((w5.drewN n6).drewN n7) := below_drewN (below_drewN H5.out.2 n6) n7
      have hN7 := HX.out.1.below hb7
      have hO7 : Own ((w5.drewN n6).drewN n7) wr.heap.size (.slice A5 (n + 1) c5) (p ++ leBytes 1 a) := (H5.out.1.below (below_drewN (Below.refl _ w5) n6)).below (below_drewN (Below.refl _ _) n7)
      have hO7l := hO7.base_le
      have hO7' : Own ((w5.drewN n6).drewN n7) base (.slice A5 (p ++ leBytes 1 a).length c5) (p ++ leBytes 1 a) := by
        rw [List.length_append, leBytes_length, HBL.out]; exact hO7.mono hwb
      have hlx : (p ++ leBytes 1 a).length = n + 1 := by rw [List.length_append, leBytes_length, HBL.out]
      have hkp := keep_ base gb 0 28 [] [] vl1 vw1 I1 A5 c5 (p ++ leBytes 1 a) ((w5.drewN n6).drewN n7) nb1 hN7.book hN7.hn hN7.kps hN7.sz hO7' (by omega) (fun x hx b hb e => by have h1 := HX.out.1.I_lt x hx b (.inl hb); rw [hlx] at e; have h2 := (hO7l b e).1; omega)
      rw [hlx] at hkp
      have HKP := Lib.hid hkp
      have H7 := Lib.hid (And.intro hN7 (And.intro hb7 hO7l))
      have hdr : ((w5.drewN n6).drewN n7) = w5.drewN (n6 + n7) := World.drewN_drewN ..
      rw [hdr] at HKP H7 ⊢
      clear hN7 hb7 hO7 hO7l hO7' hkp HI hdr
      go_wp2_with fail
      refine HKP.out.mono ?_
      rintro r w8 ⟨rfl, vl8, vw8, I8, nb8, hC8, hn8, hK8, hl8, hI8, hF8⟩
      have hkF7 : Blk (w5.drewN (n6 + n7)) F (bvs (p ++ List.replicate 80 165)) 5 := (HX.out.2.1.below H5.out.2 hFw).drewN _
      have hO8 : Own w8 base (.slice A4 (n + 1) c4) (p ++ leBytes 1 a) := (HX.out.2.2.2.1.below H7.out.2.1).fr hF8 (own_ne_book H7.out.1.book (HX.out.2.2.2.1.below H7.out.2.1))
      have HY := Lib.hid (show ∃ vl vw nb I, NBk w8 base gb vl vw nb I ∧ Blk w8 F (bvs (p ++ List.replicate 80 165)) 5 ∧ Below base w w8 ∧ Own w8 base (.slice A4 (n + 1) c4) (p ++ leBytes 1 a) ∧ ∀ i ∈ I, ∀ k, (i.l.ownBlock = some k ∨ i.was.ownBlock = some k) → k ≠ F from
        ⟨vl8, vw8, nb8, I8, ⟨hC8, hn8, hK8, hl8⟩, hkF7.fr hF8 (blk_book H7.out.1 hkF7), (HX.out.2.2.1.trans (H7.out.2.1.mono hwb)).trans (hF8.below (book_base H7.out.1) (by have := H7.out.1.lt; omega)), hO8, fun i hi k hk => by
          rcases hI8 i hi with h | ⟨h1, h2⟩
          · exact HX.out.2.2.2.2 i h k hk
          · rcases hk with hk | hk
            · rw [h1] at hk
              have := (H7.out.2.2 k hk).1; omega
            · have := h2 k hk; have := H7.out.2.1.size; omega⟩)
      clear hC8 hn8 hK8 hl8 hI8 hF8 hkF7 hO8 HKP
      go_wp2_with fail
      go_roundw
      case rel => exact ⟨k + 1, by omega, by go_num, HY⟩
      case measure => simp [intOf]; omega
    · obtain rfl : k = 2 := by omega
      clear hlt hk
      obtain ⟨m, hm⟩ : ∃ m, getV 1 p = m := ⟨_, rfl⟩
      obtain ⟨o, ho⟩ : ∃ o, getO 1 p = o := ⟨_, rfl⟩
      have hml : m < 256 := by have h := getV_lt 1 p; rw [hm] at h; simpa using h
      have wm : IntKind.u64.wrap (m : Int) = (m : Int) := by rw [wu64]; omega
      have HG : ∀ (W : World) (A' : Option Addr) (c' : Nat), Rd W A' n (bvs p) → n ≤ c' → Hid (Calls Tryz.prog 27 #[.slice A' n c'] W fun e w' => e = .returned (.tuple #[.int .u8 (m : Int), .bool o]) ∧ Drawn W w') := fun W A' c' h1 h2 => Lib.hid (by have h := getm_uint8 A' n c' p W h1 h2; rw [hm, ho] at h; exact h)
      have HRN : ∀ (W : World), Rd W A n (bvs p) → Hid (Calls Tryz.prog 28 #[.slice A n c, .int .i64 1] W fun e w' => e = .returned (.tuple #[.int .u64 (m : Int), .bool o]) ∧ w' = W) := fun W h1 => Lib.hid (by have h := refNum1 A n c p W h1; rw [hm, ho] at h; exact h)
      obtain ⟨m2, hm2⟩ : ∃ m2, getV 1 (p.map inv8) = m2 := ⟨_, rfl⟩
      have hm2l : m2 < 256 := by have h := getV_lt 1 (p.map inv8); rw [hm2] at h; simpa using h
      have wm2 : IntKind.u64.wrap (m2 : Int) = (m2 : Int) := by rw [wu64]; omega
      have HINV := Lib.hid (show (o = true → bits .xor .u64 (m : Int) 255 = (m2 : Int)) ∧ (o = false → m2 = 0) from by
        have h := getV_inv 1 p
        rw [hm, ho, hm2] at h
        refine ⟨fun e => ?_, h.2.1⟩
        have h2 := bits_xor_u64_nat m 255 (by omega) (by decide)
        rw [h.1 e]
        exact h2)
      have HG2 : ∀ (W : World), Rd W (some ⟨F, 0, none⟩) n (bvs (p.map inv8)) → Hid (Calls Tryz.prog 27 #[.slice (some ⟨F, 0, none⟩) n (n + 80)] W fun e w' => e = .returned (.tuple #[.int .u8 (m2 : Int), .bool o]) ∧ Drawn W w') := fun W h1 => Lib.hid (by have h := getm_uint8 (some ⟨F, 0, none⟩) n (n + 80) (p.map inv8) W h1 (by omega); rw [hm2, (getV_inv 1 p).2.2, ho] at h; exact h)
      have HG3 : ∀ (W : World) (A' : Option Addr) (c' : Nat), Rd W A' 1 (bvs (leBytes 1 a)) → 1 ≤ c' → Hid (Calls Tryz.prog 27 #[.slice A' 1 c'] W fun e w' => e = .returned (.tuple #[.int .u8 (a : Int), .bool true]) ∧ Drawn W w') := fun W A' c' h1 h2 => Lib.hid (by have h := getm_uint8 A' 1 c' (leBytes 1 a) W h1 h2; have hg := getV_le 1 a (by simpa using ha); rw [hg.1, hg.2] at h; exact h)
      clear hm ho hm2
      go_wp2_with fail
      refine ((HG _ _ _ hrF (by omega)).out).mono ?_
      rintro r w5 ⟨rfl, ⟨n5, rfl⟩⟩
      have hr5 := HSR.out (wr.drewN n5) (HX.out.2.2.1.trans (below_drewN (Below.refl base wr) n5))
      clear hrF
      go_wp2_with fail
      refine ((HRN _ hr5).out).mono ?_
      rintro r w6 ⟨rfl, rfl⟩
      have hkF6 : Blk (wr.drewN n5) F (bvs (p ++ List.replicate 80 165)) 5 := HX.out.2.1.drewN n5
      have hrF := (hkF6.rd (n := n + 80) (off := 0) (bvs (p ++ List.replicate 80 165)) (by rw [bvs_length, List.length_append, List.length_replicate, HBL.out]) (by omega) (fun j u hu => by rw [Nat.zero_add]; exact hu))
      have hint := intact (some ⟨F, 0, none⟩) A (n + 80) (n + 80) n c (p ++ List.replicate 80 165) p 165 _ hrF (Nat.le_refl _) hr5 (by omega)
      rw [decide_eq_true rfl] at hint
      have HI := Lib.hid hint
      clear hrF hint hkF6 hr5
      go_wp2_with fail
      refine HI.out.mono ?_
      rintro r w7 ⟨rfl, ⟨n7, rfl⟩⟩
      have HZ := Lib.hid (show NBk (wr.drewN (n5 + n7)) base gb vl1 vw1 nb1 I1 ∧ Blk (wr.drewN (n5 + n7)) F (bvs (p ++ List.replicate 80 165)) 5 ∧ Below base w (wr.drewN (n5 + n7)) ∧ Own (wr.drewN (n5 + n7)) base (.slice A4 (n + 1) c4) (p ++ leBytes 1 a) from
        ⟨HX.out.1.below (below_drewN (Below.refl _ wr) _), HX.out.2.1.drewN _, HX.out.2.2.1.trans (below_drewN (Below.refl base wr) _), HX.out.2.2.2.1.below (below_drewN (Below.refl _ wr) _)⟩)
      have HIF := Lib.hid HX.out.2.2.2.2
      clear HI HX
      go_wp2_with fail
      generalize hw9 : wr.drewN (n5 + n7) = w9 at *
      clear hw9
      go_loopw [19] (fun i wr => ∃ (k : Nat), k ≤ n ∧ i = .int .i64 (k : Int) ∧ Hid (Blk wr F (bvs ((p.take k).map inv8 ++ p.drop k ++ List.replicate 80 165)) 5 ∧ Fr (fun x => x = F) w9 wr)) (fun i _ => n - (intOf i).toNat)
      case atStart => exact ⟨0, Nat.zero_le _, rfl, Lib.hid ⟨by simpa using HZ.out.2.1, Fr.refl _ _⟩⟩
      case round =>
        obtain ⟨k, hk, rfl, HQ⟩ := hrel
        by_cases hlt : k < n
        · have hkp : k < p.length := by rw [HBL.out]; exact hlt
          have hc := HQ.out.1.cell k (bv p[k]) (by rw [bvs_get' _ k p[k] (by rw [List.append_assoc, List.getElem?_append_right (by simp; omega), List.getElem?_append_left (by simp; omega)]; simp; rw [Nat.min_eq_left (by omega), Nat.add_sub_cancel' (Nat.le_refl k)] <;> simp [hkp])])
          have hf := HQ.out.1.free k
          have hset := turn_set p k hkp 165
          have hblk := HQ.out.1.set k (bv (inv8 p[k]))
          rw [hset] at hblk
          obtain ⟨y, q1, E1⟩ : ∃ y : UInt8, bits .xor .u8 (p[k].toNat : Int) 255 = (y.toNat : Int) ∧ Hid (y = inv8 p[k]) := ⟨_, x8G p[k] 255, Lib.hid rfl⟩
          have hF2 : Fr (fun x => x = F) w9 (wr.setCell ⟨F, k, none⟩ (bv y)) := HQ.out.2.setCell (p := ⟨F, k, none⟩) (.inl rfl) _
          rw [← E1.out] at hblk
          have HP := Lib.hid (And.intro hblk hF2)
          clear hblk hF2 hset
          go_wp2_with fail
          go_roundw
          case rel => exact ⟨k + 1, by omega, by go_num, HP⟩
          case measure => simp [intOf]; omega
        · obtain rfl : k = n := by omega
          have hblk : Blk wr F (bvs (p.map inv8 ++ List.replicate 80 165)) 5 := by
            have h := HQ.out.1
            rw [List.take_of_length_le (by rw [HBL.out]; exact Nat.le_refl _), List.drop_of_length_le (by rw [HBL.out]; exact Nat.le_refl _), List.append_nil] at h
            exact h
          have hrF := (hblk.rd (n := k) (off := 0) (bvs (p.map inv8)) (by rw [bvs_length, List.length_map, HBL.out]) (by omega) (fun j u hu => by rw [Nat.zero_add, bvs, List.map_append]; exact (List.getElem?_append_left (List.getElem?_eq_some_iff.1 hu).1).trans hu))
          have hN9 := HZ.out.1.room HQ.out.2 HZ.out.2.1 HIF.out
          have hO9 : Own wr base (.slice A4 (k + 1) c4) (p ++ leBytes 1 a) := HZ.out.2.2.2.fr HQ.out.2 (fun b hb e => by have := HOB.out b hb; omega)
          have hB9 : Below base w wr := HZ.out.2.2.1.trans (HQ.out.2.below (fun x hx => by rw [hx]; exact hFF.1) (by have := HZ.out.1.lt; omega))
          obtain ⟨A6, hcut, hrd6⟩ := cut_lo A4 (k + 1) c4 (k : Int) (by omega) (by omega) hcap4
          rw [Int.toNat_natCast, Nat.add_sub_cancel_left] at hcut hrd6
          have H9 := Lib.hid (And.intro hN9 (And.intro hO9 (And.intro hB9 (fun (W : World) (h : Rd W A4 (k + 1) (bvs (p ++ leBytes 1 a))) => (show Rd W A6 1 (bvs (leBytes 1 a)) from by have h2 := hrd6 W _ h; rwa [List.drop_left' HBL.out] at h2)))))
          have hc6 : 1 ≤ c4 - k := by omega
          clear hblk hN9 hO9 hB9 hrd6 HQ HZ HIF HG HRN hlt hk
          go_wp2_with fail
          refine ((HG2 _ hrF).out).mono ?_
          rintro r w11 ⟨rfl, ⟨n11, rfl⟩⟩
          have HR6 := H9.out.2.2.2 (wr.drewN n11) (H9.out.2.1.below (below_drewN (Below.refl _ wr) n11)).rd_
          have HFIN := Lib.hid (show NBk (wr.drewN n11) base gb vl1 vw1 nb1 I1 ∧ Below base w (wr.drewN n11) from ⟨H9.out.1.below (below_drewN (Below.refl _ wr) n11), H9.out.2.2.1.trans (below_drewN (Below.refl base wr) n11)⟩)
          have HG4 := HG3 _ _ _ HR6 hc6
          clear HG2 HG3 hrF HR6 H9
          have hcs : (o = true ∧ bits .xor .u64 (m : Int) 255 = (m2 : Int)) ∨ (o = false ∧ m2 = 0) := by
            cases ho : o with
            | true => exact .inl ⟨rfl, HINV.out.1 ho⟩
            | false => exact .inr ⟨rfl, HINV.out.2 ho⟩
          clear HINV
          rcases hcs with ⟨rfl, hx⟩ | ⟨rfl, rfl⟩
          all_goals
            go_wp2_with (go_at_call 29; refine (greatest1 _).mono ?_; rintro e w' ⟨rfl, rfl⟩)
            refine HG4.out.mono ?_
            rintro r w12 ⟨rfl, ⟨n12, rfl⟩⟩
            have HFIN2 := Lib.hid (show NBk ((wr.drewN n11).drewN n12) base gb vl1 vw1 nb1 I1 ∧ Below base w ((wr.drewN n11).drewN n12) from ⟨HFIN.out.1.below (below_drewN (Below.refl _ _) n12), HFIN.out.2.trans (below_drewN (Below.refl base _) n12)⟩)
            rw [World.drewN_drewN] at HFIN2
            clear HG4 HFIN
            go_wp2_with (go_at_call 30; refine (sums_uint8 _ _ _ (by omega) (by omega)).mono ?_; rintro e w' ⟨rfl, rfl⟩)
            go_ret
            exact ⟨rfl, _, _, _, _, HFIN2.out.1, HFIN2.out.2⟩
set_option maxHeartbeats 12800000 in
set_option maxRecDepth 100000 in
theorem numbers_uint16 (base gb : Nat) (A : Option Addr) (n c : Nat) (p : List UInt8) (vl vw : Value) (nb : Int) (I : List Kp) (a b : Nat) (w : World) (ha : a < 65536) (hb : b < 65536) (hbl : p.length = n) (hn : n ≤ 2147483647) (hsrc : Src w base A p) (hB : NBk w base gb vl vw nb I) :
    Calls Tryz.prog 6 #[.int .i64 2, .int .u16 (a : Int), .int .u16 (b : Int), .slice A n c, .pointer (some ⟨gb, 0, none⟩)] w fun r w' => r = .returned (.bool true) ∧ ∃ vl' vw' nb' I', NBk w' base gb vl' vw' nb' I' ∧ Below base w w' := by
  have hsrc0 : ∀ W : World, Below base w W → Rd W A n (bvs p) := fun W hW => by have h := hsrc W hW; rwa [hbl] at h
  have hr := hsrc0 w (Below.refl _ _)
  have hbb := hB.lt
  have HB := Lib.hid hB
  have HSR := Lib.hid hsrc0
  have wa : IntKind.u64.wrap (a : Int) = (a : Int) := by rw [wu64]; omega
  have HBL := Lib.hid hbl
  clear hsrc hsrc0 hB hbl
  go_enter Tryz.func6, Tryz.ntmps6
  go_wp2_with fail
  refine (roomyG A n c p 165 _ hr (by omega)).mono ?_
  rintro r w1 ⟨F, hF0, rfl, hkF, hb1⟩
  have hr1 := HSR.out w1 (hb1.mono (by omega))
  have hs1 := hb1.size
  have HK1 := Lib.hid (And.intro hkF hb1)
  have hFl := hkF.lt
  have tok1 : True := trivial
  clear hkF hb1 hr
  go_wp2_with (first
    | ((with_reducible refine at_builtin_ (b := .append) rfl ?_); have _t := tok1; go_must (refine app_u8 rfl _ _ rfl w1.heap.size (.slice none 0 0) [] A n c p rfl rfl (Own.nil _ _) hr1 (Nat.le_refl _) n (by simp) (by omega) w1.heap.size w1 (Below.refl _ _) (Nat.le_refl _) ?_); intro A2 c2 w2 hO2 hb2 _ _; rw [List.nil_append] at hO2; clear tok1 _t)
    | (go_at_call 22; refine (refBytes2 a _ (by omega)).mono ?_; rintro r w3 ⟨A3, c3, rfl, hO3, hb3⟩; have hO2' := hO2.below hb3; have hrd3 := hO3.rd_; have hs3 := hb3.size; have hs2 := hb2.size; have tok2 : True := trivial)
    | ((with_reducible refine at_builtin_ (b := .append) rfl ?_); have _t := tok2; go_must (refine app_u8 rfl _ _ rfl w1.heap.size (.slice A2 n c2) p A3 2 c3 (leBytes 2 a) rfl rfl hO2' hrd3 (by omega) (n + 2) (by rw [HBL.out]) (by omega) w1.heap.size w1 (hb2.trans (hb3.mono (by omega))) (Nat.le_refl _) ?_); intro A4 c4 w4 hO4 hb4 _ _; clear tok2 _t hO2' hrd3 hO3 hb3 hO2 hb2 hs2 hs3))
  have HW := Lib.hid (And.intro (hO4.mono (base' := base) (by omega)) (hO4.base_le))
  have HOB := Lib.hid (show ∀ k, (Value.slice A4 (n + 2) c4).ownBlock = some k → F < k from fun k hk => by have := (hO4.base_le k hk).1; omega)
  have hcap4 : n + 2 ≤ c4 := by
    obtain ⟨A', c', e, h, _⟩ := hO4.cases
    injection e with _ _ e
    rw [List.length_append, leBytes_length, HBL.out] at h
    omega
  have HB4 := Lib.hid (And.intro (HB.out.below (HK1.out.2.trans (hb4.mono hs1))) (And.intro (HK1.out.1.below hb4 hFl) (show Below base w w4 from (HK1.out.2.mono (by omega)).trans (hb4.mono (by omega)))))
  have hFF : base ≤ F ∧ F < w1.heap.size := ⟨by omega, hFl⟩
  have HI0 := Lib.hid HB.out.I_lt
  clear hO4 hb4 HK1 HB hr1 hFl
  go_loopw [13] (fun i wr => ∃ (k : Nat), k ≤ 2 ∧ i = .int .i64 (k : Int) ∧ Hid (∃ vl vw nb I, NBk wr base gb vl vw nb I ∧ Blk wr F (bvs (p ++ List.replicate 80 165)) 5 ∧ Below base w wr ∧ Own wr base (.slice A4 (n + 2) c4) (p ++ leBytes 2 a) ∧ ∀ i ∈ I, ∀ k, (i.l.ownBlock = some k ∨ i.was.ownBlock = some k) → k ≠ F)) (fun i _ => 2 - (intOf i).toNat)
  case atStart => exact ⟨0, by omega, rfl, Lib.hid ⟨_, _, _, _, HB4.out.1, HB4.out.2.1, HB4.out.2.2, HW.out.1, fun i hi k hk => by have := HI0.out i hi k hk; omega⟩⟩
  case round =>
    clear HB4 HW HI0
    obtain ⟨k, hk, rfl, HS⟩ := hrel
    obtain ⟨vl1, vw1, nb1, I1, hN1, hkF, hB1, hO, hIF⟩ := HS.out
    have HX := Lib.hid (And.intro hN1 (And.intro hkF (And.intro hB1 (And.intro hO hIF))))
    have hrF := (hkF.rd (n := n) (off := 0) (bvs p) (by rw [bvs_length, HBL.out]) (by omega) (fun j u hu => by rw [Nat.zero_add, bvs, List.map_append]; exact (List.getElem?_append_left (List.getElem?_eq_some_iff.1 hu).1).trans hu))
    have hwb : base ≤ wr.heap.size := by have := hN1.lt; omega
    have hFw := hkF.lt
    clear HS hN1 hkF hB1 hO hIF
    by_cases hlt : k < 2
    · go_wp2_with fail
      refine (put_uint16 (some ⟨F, 0, none⟩) n (n + 80) p a _ ha hrF (by omega)).mono ?_
      rintro r w5 ⟨A5, c5, rfl, hO5, hb5⟩
      have hrx := hO5.rd_
      have hry := (HX.out.2.2.2.1.below hb5).rd_
      have hsm := same A5 A4 (n + 2) c5 (n + 2) c4 (p ++ leBytes 2 a) (p ++ leBytes 2 a) w5 hrx hry
      rw [decide_eq_true rfl] at hsm
      have HM := Lib.hid hsm
      have H5 := Lib.hid (And.intro hO5 hb5)
      clear hrx hry hsm hO5 hb5 hrF
      go_wp2_with fail
      refine HM.out.mono ?_
      rintro r w6 ⟨rfl, ⟨n6, rfl⟩⟩
      have hkF6 : Blk (w5.drewN n6) F (bvs (p ++ List.replicate 80 165)) 5 := (HX.out.2.1.below H5.out.2 hFw).drewN n6
      have hB6 : Below base w (w5.drewN n6) := (HX.out.2.2.1.trans (H5.out.2.mono hwb)).trans (below_drewN (Below.refl base w5) n6)
      have hrF := (hkF6.rd (n := n + 80) (off := 0) (bvs (p ++ List.replicate 80 165)) (by rw [bvs_length, List.length_append, List.length_replicate, HBL.out]) (by omega) (fun j u hu => by rw [Nat.zero_add]; exact hu))
      have hint := intact (some ⟨F, 0, none⟩) A (n + 80) (n + 80) n c (p ++ List.replicate 80 165) p 165 _ hrF (Nat.le_refl _) (HSR.out _ hB6) (by omega)
      rw [decide_eq_true rfl] at hint
      have HI := Lib.hid hint
      have H6 := Lib.hid (And.intro hkF6 hB6)
      clear HM hrF hint hkF6 hB6
      go_wp2_with fail
      refine HI.out.mono ?_
      rintro r w7 ⟨rfl, ⟨n7, rfl⟩⟩
      have hb7 : Below wr.heap.size wr ((w5.drewN n6).drewN n7) := below_drewN (below_drewN H5.out.2 n6) n7
      have hN7 := HX.out.1.below hb7
      have hO7 : Own ((w5.drewN n6).drewN n7) wr.heap.size (.slice A5 (n + 2) c5) (p ++ leBytes 2 a) := (H5.out.1.below (below_drewN (Below.refl _ w5) n6)).below (below_drewN (Below.refl _ _) n7)
      have hO7l := hO7.base_le
      have hO7' : Own ((w5.drewN n6).drewN n7) base (.slice A5 (p ++ leBytes 2 a).length c5) (p ++ leBytes 2 a) := by
        rw [List.length_append, leBytes_length, HBL.out]; exact hO7.mono hwb
      have hlx : (p ++ leBytes 2 a).length = n + 2 := by rw [List.length_append, leBytes_length, HBL.out]
      have hkp := keep_ base gb 0 28 [] [] vl1 vw1 I1 A5 c5 (p ++ leBytes 2 a) ((w5.drewN n6).drewN n7) nb1 hN7.book hN7.hn hN7.kps hN7.sz hO7' (by omega) (fun x hx b hb e => by have h1 := HX.out.1.I_lt x hx b (.inl hb); rw [hlx] at e; have h2 := (hO7l b e).1; omega)
      rw [hlx] at hkp
      have HKP := Lib.hid hkp
      have H7 := Lib.hid (And.intro hN7 (And.intro hb7 hO7l))
      have hdr : ((w5.drewN n6).drewN n7) = w5.drewN (n6 + n7) := World.drewN_drewN ..
      rw [hdr] at HKP H7 ⊢
      clear hN7 hb7 hO7 hO7l hO7' hkp HI hdr
      go_wp2_with fail
      refine HKP.out.mono ?_
      rintro r w8 ⟨rfl, vl8, vw8, I8, nb8, hC8, hn8, hK8, hl8, hI8, hF8⟩
      have hkF7 : Blk (w5.drewN (n6 + n7)) F (bvs (p ++ List.replicate 80 165)) 5 := (HX.out.2.1.below H5.out.2 hFw).drewN _
      have hO8 : Own w8 base (.slice A4 (n + 2) c4) (p ++ leBytes 2 a) := (HX.out.2.2.2.1.below H7.out.2.1).fr hF8 (own_ne_book H7.out.1.book (HX.out.2.2.2.1.below H7.out.2.1))
      have HY := Lib.hid (show ∃ vl vw nb I, NBk w8 base gb vl vw nb I ∧ Blk w8 F (bvs (p ++ List.replicate 80 165)) 5 ∧ Below base w w8 ∧ Own w8 base (.slice A4 (n + 2) c4) (p ++ leBytes 2 a) ∧ ∀ i ∈ I, ∀ k, (i.l.ownBlock = some k ∨ i.was.ownBlock = some k) → k ≠ F from
        ⟨vl8, vw8, nb8, I8, ⟨hC8, hn8, hK8, hl8⟩, hkF7.fr hF8 (blk_book H7.out.1 hkF7), (HX.out.2.2.1.trans (H7.out.2.1.mono hwb)).trans (hF8.below (book_base H7.out.1) (by have := H7.out.1.lt; omega)), hO8, fun i hi k hk => by
          rcases hI8 i hi with h | ⟨h1, h2⟩
          · exact HX.out.2.2.2.2 i h k hk
          · rcases hk with hk | hk
            · rw [h1] at hk
              have := (H7.out.2.2 k hk).1; omega
            · have := h2 k hk; have := H7.out.2.1.size; omega⟩)
      clear hC8 hn8 hK8 hl8 hI8 hF8 hkF7 hO8 HKP
      go_wp2_with fail
      go_roundw
      case rel => exact ⟨k + 1, by omega, by go_num, HY⟩
      case measure => simp [intOf]; omega
    · obtain rfl : k = 2 := by omega
      clear hlt hk
      obtain ⟨m, hm⟩ : ∃ m, getV 2 p = m := ⟨_, rfl⟩
      obtain ⟨o, ho⟩ : ∃ o, getO 2 p = o := ⟨_, rfl⟩
      have hml : m < 65536 := by have h := getV_lt 2 p; rw [hm] at h; simpa using h
      have wm : IntKind.u64.wrap (m : Int) = (m : Int) := by rw [wu64]; omega
      have HG : ∀ (W : World) (A' : Option Addr) (c' : Nat), Rd W A' n (bvs p) → n ≤ c' → Hid (Calls Tryz.prog 32 #[.slice A' n c'] W fun e w' => e = .returned (.tuple #[.int .u16 (m : Int), .bool o]) ∧ Drawn W w') := fun W A' c' h1 h2 => Lib.hid (by have h := getm_uint16 A' n c' p W h1 h2; rw [hm, ho] at h; exact h)
      have HRN : ∀ (W : World), Rd W A n (bvs p) → Hid (Calls Tryz.prog 28 #[.slice A n c, .int .i64 2] W fun e w' => e = .returned (.tuple #[.int .u64 (m : Int), .bool o]) ∧ w' = W) := fun W h1 => Lib.hid (by have h := refNum2 A n c p W h1; rw [hm, ho] at h; exact h)
      obtain ⟨m2, hm2⟩ : ∃ m2, getV 2 (p.map inv8) = m2 := ⟨_, rfl⟩
      have hm2l : m2 < 65536 := by have h := getV_lt 2 (p.map inv8); rw [hm2] at h; simpa using h
      have wm2 : IntKind.u64.wrap (m2 : Int) = (m2 : Int) := by rw [wu64]; omega
      have HINV := Lib.hid (show (o = true → bits .xor .u64 (m : Int) 65535 = (m2 : Int)) ∧ (o = false → m2 = 0) from by
        have h := getV_inv 2 p
        rw [hm, ho, hm2] at h
        refine ⟨fun e => ?_, h.2.1⟩
        have h2 := bits_xor_u64_nat m 65535 (by omega) (by decide)
        rw [h.1 e]
        exact h2)
      have HG2 : ∀ (W : World), Rd W (some ⟨F, 0, none⟩) n (bvs (p.map inv8)) → Hid (Calls Tryz.prog 32 #[.slice (some ⟨F, 0, none⟩) n (n + 80)] W fun e w' => e = .returned (.tuple #[.int .u16 (m2 : Int), .bool o]) ∧ Drawn W w') := fun W h1 => Lib.hid (by have h := getm_uint16 (some ⟨F, 0, none⟩) n (n + 80) (p.map inv8) W h1 (by omega); rw [hm2, (getV_inv 2 p).2.2, ho] at h; exact h)
      have HG3 : ∀ (W : World) (A' : Option Addr) (c' : Nat), Rd W A' 2 (bvs (leBytes 2 a)) → 2 ≤ c' → Hid (Calls Tryz.prog 32 #[.slice A' 2 c'] W fun e w' => e = .returned (.tuple #[.int .u16 (a : Int), .bool true]) ∧ Drawn W w') := fun W A' c' h1 h2 => Lib.hid (by have h := getm_uint16 A' 2 c' (leBytes 2 a) W h1 h2; have hg := getV_le 2 a (by simpa using ha); rw [hg.1, hg.2] at h; exact h)
      clear hm ho hm2
      go_wp2_with fail
      refine ((HG _ _ _ hrF (by omega)).out).mono ?_
      rintro r w5 ⟨rfl, ⟨n5, rfl⟩⟩
      have hr5 := HSR.out (wr.drewN n5) (HX.out.2.2.1.trans (below_drewN (Below.refl base wr) n5))
      clear hrF
      go_wp2_with fail
      refine ((HRN _ hr5).out).mono ?_
      rintro r w6 ⟨rfl, rfl⟩
      have hkF6 : Blk (wr.drewN n5) F (bvs (p ++ List.replicate 80 165)) 5 := HX.out.2.1.drewN n5
      have hrF := (hkF6.rd (n := n + 80) (off := 0) (bvs (p ++ List.replicate 80 165)) (by rw [bvs_length, List.length_append, List.length_replicate, HBL.out]) (by omega) (fun j u hu => by rw [Nat.zero_add]; exact hu))
      have hint := intact (some ⟨F, 0, none⟩) A (n + 80) (n + 80) n c (p ++ List.replicate 80 165) p 165 _ hrF (Nat.le_refl _) hr5 (by omega)
      rw [decide_eq_true rfl] at hint
      have HI := Lib.hid hint
      clear hrF hint hkF6 hr5
      go_wp2_with fail
      refine HI.out.mono ?_
      rintro r w7 ⟨rfl, ⟨n7, rfl⟩⟩
      have HZ := Lib.hid (show NBk (wr.drewN (n5 + n7)) base gb vl1 vw1 nb1 I1 ∧ Blk (wr.drewN (n5 + n7)) F (bvs (p ++ List.replicate 80 165)) 5 ∧ Below base w (wr.drewN (n5 + n7)) ∧ Own (wr.drewN (n5 + n7)) base (.slice A4 (n + 2) c4) (p ++ leBytes 2 a) from
        ⟨HX.out.1.below (below_drewN (Below.refl _ wr) _), HX.out.2.1.drewN _, HX.out.2.2.1.trans (below_drewN (Below.refl base wr) _), HX.out.2.2.2.1.below (below_drewN (Below.refl _ wr) _)⟩)
      have HIF := Lib.hid HX.out.2.2.2.2
      clear HI HX
      go_wp2_with fail
      generalize hw9 : wr.drewN (n5 + n7) = w9 at *
      clear hw9
      go_loopw [19] (fun i wr => ∃ (k : Nat), k ≤ n ∧ i = .int .i64 (k : Int) ∧ Hid (Blk wr F (bvs ((p.take k).map inv8 ++ p.drop k ++ List.replicate 80 165)) 5 ∧ Fr (fun x => x = F) w9 wr)) (fun i _ => n - (intOf i).toNat)
      case atStart => exact ⟨0, Nat.zero_le _, rfl, Lib.hid ⟨by simpa using HZ.out.2.1, Fr.refl _ _⟩⟩
      case round =>
        obtain ⟨k, hk, rfl, HQ⟩ := hrel
        by_cases hlt : k < n
        · have hkp : k < p.length := by rw [HBL.out]; exact hlt
          have hc := HQ.out.1.cell k (bv p[k]) (by rw [bvs_get' _ k p[k] (by rw [List.append_assoc, List.getElem?_append_right (by simp; omega), List.getElem?_append_left (by simp; omega)]; simp; rw [Nat.min_eq_left (by omega), Nat.add_sub_cancel' (Nat.le_refl k)] <;> simp [hkp])])
          have hf := HQ.out.1.free k
          have hset := turn_set p k hkp 165
          have hblk := HQ.out.1.set k (bv (inv8 p[k]))
          rw [hset] at hblk
          obtain ⟨y, q1, E1⟩ : ∃ y : UInt8, bits .xor .u8 (p[k].toNat : Int) 255 = (y.toNat : Int) ∧ Hid (y = inv8 p[k]) := ⟨_, x8G p[k] 255, Lib.hid rfl⟩
          have hF2 : Fr (fun x => x = F) w9 (wr.setCell ⟨F, k, none⟩ (bv y)) := HQ.out.2.setCell (p := ⟨F, k, none⟩) (.inl rfl) _
          rw [← E1.out] at hblk
          have HP := Lib.hid (And.intro hblk hF2)
          clear hblk hF2 hset
          go_wp2_with fail
          go_roundw
          case rel => exact ⟨k + 1, by omega, by go_num, HP⟩
          case measure => simp [intOf]; omega
        · obtain rfl : k = n := by omega
          have hblk : Blk wr F (bvs (p.map inv8 ++ List.replicate 80 165)) 5 := by
            have h := HQ.out.1
            rw [List.take_of_length_le (by rw [HBL.out]; exact Nat.le_refl _), List.drop_of_length_le (by rw [HBL.out]; exact Nat.le_refl _), List.append_nil] at h
            exact h
          have hrF := (hblk.rd (n := k) (off := 0) (bvs (p.map inv8)) (by rw [bvs_length, List.length_map, HBL.out]) (by omega) (fun j u hu => by rw [Nat.zero_add, bvs, List.map_append]; exact (List.getElem?_append_left (List.getElem?_eq_some_iff.1 hu).1).trans hu))
          have hN9 := HZ.out.1.room HQ.out.2 HZ.out.2.1 HIF.out
          have hO9 : Own wr base (.slice A4 (k + 2) c4) (p ++ leBytes 2 a) := HZ.out.2.2.2.fr HQ.out.2 (fun b hb e => by have := HOB.out b hb; omega)
          have hB9 : Below base w wr := HZ.out.2.2.1.trans (HQ.out.2.below (fun x hx => by rw [hx]; exact hFF.1) (by have := HZ.out.1.lt; omega))
          obtain ⟨A6, hcut, hrd6⟩ := cut_lo A4 (k + 2) c4 (k : Int) (by omega) (by omega) hcap4
          rw [Int.toNat_natCast, Nat.add_sub_cancel_left] at hcut hrd6
          have H9 := Lib.hid (And.intro hN9 (And.intro hO9 (And.intro hB9 (fun (W : World) (h : Rd W A4 (k + 2) (bvs (p ++ leBytes 2 a))) => (show Rd W A6 2 (bvs (leBytes 2 a)) from by have h2 := hrd6 W _ h; rwa [List.drop_left' HBL.out] at h2)))))
          have hc6 : 2 ≤ c4 - k := by omega
          clear hblk hN9 hO9 hB9 hrd6 HQ HZ HIF HG HRN hlt hk
          go_wp2_with fail
          refine ((HG2 _ hrF).out).mono ?_
          rintro r w11 ⟨rfl, ⟨n11, rfl⟩⟩
          have HR6 := H9.out.2.2.2 (wr.drewN n11) (H9.out.2.1.below (below_drewN (Below.refl _ wr) n11)).rd_
          have HFIN := Lib.hid (show NBk (wr.drewN n11) base gb vl1 vw1 nb1 I1 ∧ Below base w (wr.drewN n11) from ⟨H9.out.1.below (below_drewN (Below.refl _ wr) n11), H9.out.2.2.1.trans (below_drewN (Below.refl base wr) n11)⟩)
          have HG4 := HG3 _ _ _ HR6 hc6
          clear HG2 HG3 hrF HR6 H9
          have hcs : (o = true ∧ bits .xor .u64 (m : Int) 65535 = (m2 : Int)) ∨ (o = false ∧ m2 = 0) := by
            cases ho : o with
            | true => exact .inl ⟨rfl, HINV.out.1 ho⟩
            | false => exact .inr ⟨rfl, HINV.out.2 ho⟩
          clear HINV
          rcases hcs with ⟨rfl, hx⟩ | ⟨rfl, rfl⟩
          all_goals
            go_wp2_with (go_at_call 29; refine (greatest2 _).mono ?_; rintro e w' ⟨rfl, rfl⟩)
            refine HG4.out.mono ?_
            rintro r w12 ⟨rfl, ⟨n12, rfl⟩⟩
            have HFIN2 := Lib.hid (show NBk ((wr.drewN n11).drewN n12) base gb vl1 vw1 nb1 I1 ∧ Below base w ((wr.drewN n11).drewN n12) from ⟨HFIN.out.1.below (below_drewN (Below.refl _ _) n12), HFIN.out.2.trans (below_drewN (Below.refl base _) n12)⟩)
            rw [World.drewN_drewN] at HFIN2
            clear HG4 HFIN
            go_wp2_with (go_at_call 33; refine (sums_uint16 _ _ _ (by omega) (by omega)).mono ?_; rintro e w' ⟨rfl, rfl⟩)
            go_ret
            exact ⟨rfl, _, _, _, _, HFIN2.out.1, HFIN2.out.2⟩
set_option maxHeartbeats 12800000 in
set_option maxRecDepth 100000 in
theorem numbers_uint32 (base gb : Nat) (A : Option Addr) (n c : Nat) (p : List UInt8) (vl vw : Value) (nb : Int) (I : List Kp) (a b : Nat) (w : World) (ha : a < 4294967296) (hb : b < 4294967296) (hbl : p.length = n) (hn : n ≤ 2147483647) (hsrc : Src w base A p) (hB : NBk w base gb vl vw nb I) :
    Calls Tryz.prog 7 #[.int .i64 4, .int .u32 (a : Int), .int .u32 (b : Int), .slice A n c, .pointer (some ⟨gb, 0, none⟩)] w fun r w' => r = .returned (.bool true) ∧ ∃ vl' vw' nb' I', NBk w' base gb vl' vw' nb' I' ∧ Below base w w' := by
  have hsrc0 : ∀ W : World, Below base w W → Rd W A n (bvs p) := fun W hW => by have h := hsrc W hW; rwa [hbl] at h
  have hr := hsrc0 w (Below.refl _ _)
  have hbb := hB.lt
  have HB := Lib.hid hB
  have HSR := Lib.hid hsrc0
  have wa : IntKind.u64.wrap (a : Int) = (a : Int) := by rw [wu64]; omega
  have HBL := Lib.hid hbl
  clear hsrc hsrc0 hB hbl
  go_enter Tryz.func7, Tryz.ntmps7
  go_wp2_with fail
  refine (roomyG A n c p 165 _ hr (by omega)).mono ?_
  rintro r w1 ⟨F, hF0, rfl, hkF, hb1⟩
  have hr1 := HSR.out w1 (hb1.mono (by omega))
  have hs1 := hb1.size
  have HK1 := Lib.hid (And.intro hkF hb1)
  have hFl := hkF.lt
  have tok1 : True := trivial
  clear hkF hb1 hr
  go_wp2_with (first
    | ((with_reducible refine at_builtin_ (b := .append) rfl ?_); have _t := tok1; go_must (refine app_u8 rfl _ _ rfl w1.heap.size (.slice none 0 0) [] A n c p rfl rfl (Own.nil _ _) hr1 (Nat.le_refl _) n (by simp) (by omega) w1.heap.size w1 (Below.refl _ _) (Nat.le_refl _) ?_); intro A2 c2 w2 hO2 hb2 _ _; rw [List.nil_append] at hO2; clear tok1 _t)
    | (go_at_call 22; refine (refBytes4 a _ (by omega)).mono ?_; rintro r w3 ⟨A3, c3, rfl, hO3, hb3⟩; have hO2' := hO2.below hb3; have hrd3 := hO3.rd_; have hs3 := hb3.size; have hs2 := hb2.size; have tok2 : True := trivial)
    | ((with_reducible refine at_builtin_ (b := .append) rfl ?_); have _t := tok2; go_must (refine app_u8 rfl _ _ rfl w1.heap.size (.slice A2 n c2) p A3 4 c3 (leBytes 4 a) rfl rfl hO2' hrd3 (by omega) (n + 4) (by rw [HBL.out]) (by omega) w1.heap.size w1 (hb2.trans (hb3.mono (by omega))) (Nat.le_refl _) ?_); intro A4 c4 w4 hO4 hb4 _ _; clear tok2 _t hO2' hrd3 hO3 hb3 hO2 hb2 hs2 hs3))
  have HW := Lib.hid (And.intro (hO4.mono (base' := base) (by omega)) (hO4.base_le))
  have HOB := Lib.hid (show ∀ k, (Value.slice A4 (n + 4) c4).ownBlock = some k → F < k from fun k hk => by have := (hO4.base_le k hk).1; omega)
  have hcap4 : n + 4 ≤ c4 := by
    obtain ⟨A', c', e, h, _⟩ := hO4.cases
    injection e with _ _ e
    rw [List.length_append, leBytes_length, HBL.out] at h
    omega
  have HB4 := Lib.hid (And.intro (HB.out.below (HK1.out.2.trans (hb4.mono hs1))) (And.intro (HK1.out.1.below hb4 hFl) (show Below base w w4 from (HK1.out.2.mono (by omega)).trans (hb4.mono (by omega)))))
  have hFF : base ≤ F ∧ F < w1.heap.size := ⟨by omega, hFl⟩
  have HI0 := Lib.hid HB.out.I_lt
  clear hO4 hb4 HK1 HB hr1 hFl
  go_loopw [13] (fun i wr => ∃ (k : Nat), k ≤ 2 ∧ i = .int .i64 (k : Int) ∧ Hid (∃ vl vw nb I, NBk wr base gb vl vw nb I ∧ Blk wr F (bvs (p ++ List.replicate 80 165)) 5 ∧ Below base w wr ∧ Own wr base (.slice A4 (n + 4) c4) (p ++ leBytes 4 a) ∧ ∀ i ∈ I, ∀ k, (i.l.ownBlock = some k ∨ i.was.ownBlock = some k) → k ≠ F)) (fun i _ => 2 - (intOf i).toNat)
  case atStart => exact ⟨0, by omega, rfl, Lib.hid ⟨_, _, _, _, HB4.out.1, HB4.out.2.1, HB4.out.2.2, HW.out.1, fun i hi k hk => by have := HI0.out i hi k hk; omega⟩⟩
  case round =>
    clear HB4 HW HI0
    obtain ⟨k, hk, rfl, HS⟩ := hrel
    obtain ⟨vl1, vw1, nb1, I1, hN1, hkF, hB1, hO, hIF⟩ := HS.out
    have HX := Lib.hid (And.intro hN1 (And.intro hkF (And.intro hB1 (And.intro hO hIF))))
    have hrF := (hkF.rd (n := n) (off := 0) (bvs p) (by rw [bvs_length, HBL.out]) (by omega) (fun j u hu => by rw [Nat.zero_add, bvs, List.map_append]; exact (List.getElem?_append_left (List.getElem?_eq_some_iff.1 hu).1).trans hu))
    have hwb : base ≤ wr.heap.size := by have := hN1.lt; omega
    have hFw := hkF.lt
    clear HS hN1 hkF hB1 hO hIF
    by_cases hlt : k < 2
    · go_wp2_with fail
      refine (put_uint32 (some ⟨F, 0, none⟩) n (n + 80) p a _ ha hrF (by omega)).mono ?_
      rintro r w5 ⟨A5, c5, rfl, hO5, hb5⟩
      have hrx := hO5.rd_
      have hry := (HX.out.2.2.2.1.below hb5).rd_
      have hsm := same A5 A4 (n + 4) c5 (n + 4) c4 (p ++ leBytes 4 a) (p ++ leBytes 4 a) w5 hrx hry
      rw [decide_eq_true rfl] at hsm
      have HM := Lib.hid hsm
      have H5 := Lib.hid (And.intro hO5 hb5)
      clear hrx hry hsm hO5 hb5 hrF
      go_wp2_with fail
      refine HM.out.mono ?_
      rintro r w6 ⟨rfl, ⟨n6, rfl⟩⟩
      have hkF6 : Blk (w5.drewN n6) F (bvs (p ++ List.replicate 80 165)) 5 := (HX.out.2.1.below H5.out.2 hFw).drewN n6
      have hB6 : Below base w (w5.drewN n6) := (HX.out.2.2.1.trans (H5.out.2.mono hwb)).trans (below_drewN (Below.refl base w5) n6)
      have hrF := (hkF6.rd (n := n + 80) (off := 0) (bvs (p ++ List.replicate 80 165)) (by rw [bvs_length, List.length_append, List.length_replicate, HBL.out]) (by omega) (fun j u hu => by rw [Nat.zero_add]; exact hu))
      have hint := intact (some ⟨F, 0, none⟩) A (n + 80) (n + 80) n c (p ++ List.replicate 80 165) p 165 _ hrF (Nat.le_refl _) (HSR.out _ hB6) (by omega)
      rw [decide_eq_true rfl] at hint
      have HI := Lib.hid hint
      have H6 := Lib.hid (And.intro hkF6 hB6)
      clear HM hrF hint hkF6 hB6
      go_wp2_with fail
      refine HI.out.mono ?_
      rintro r w7 ⟨rfl, ⟨n7, rfl⟩⟩
      have hb7 : Below wr.heap.size wr ((w5.drewN n6).drewN n7) := below_drewN (below_drewN H5.out.2 n6) n7
      have hN7 := HX.out.1.below hb7
      have hO7 : Own ((w5.drewN n6).drewN n7) wr.heap.size (.slice A5 (n + 4) c5) (p ++ leBytes 4 a) := (H5.out.1.below (below_drewN (Below.refl _ w5) n6)).below (below_drewN (Below.refl _ _) n7)
      have hO7l := hO7.base_le
      have hO7' : Own ((w5.drewN n6).drewN n7) base (.slice A5 (p ++ leBytes 4 a).length c5) (p ++ leBytes 4 a) := by
        rw [List.length_append, leBytes_length, HBL.out]; exact hO7.mono hwb
      have hlx : (p ++ leBytes 4 a).length = n + 4 := by rw [List.length_append, leBytes_length, HBL.out]
      have hkp := keep_ base gb 0 28 [] [] vl1 vw1 I1 A5 c5 (p ++ leBytes 4 a) ((w5.drewN n6).drewN n7) nb1 hN7.book hN7.hn hN7.kps hN7.sz hO7' (by omega) (fun x hx b hb e => by have h1 := HX.out.1.I_lt x hx b (.inl hb); rw [hlx] at e; have h2 := (hO7l b e).1; omega)
      rw [hlx] at hkp
      have HKP := Lib.hid hkp
      have H7 := Lib.hid (And.intro hN7 (And.intro hb7 hO7l))
      have hdr : ((w5.drewN n6).drewN n7) = w5.drewN (n6 + n7) := World.drewN_drewN ..
      rw [hdr] at HKP H7 ⊢
      clear hN7 hb7 hO7 hO7l hO7' hkp HI hdr
      go_wp2_with fail
      refine HKP.out.mono ?_
      rintro r w8 ⟨rfl, vl8, vw8, I8, nb8, hC8, hn8, hK8, hl8, hI8, hF8⟩
      have hkF7 : Blk (w5.drewN (n6 + n7)) F (bvs (p ++ List.replicate 80 165)) 5 := (HX.out.2.1.below H5.out.2 hFw).drewN _
      have hO8 : Own w8 base (.slice A4 (n + 4) c4) (p ++ leBytes 4 a) := (HX.out.2.2.2.1.below H7.out.2.1).fr hF8 (own_ne_book H7.out.1.book (HX.out.2.2.2.1.below H7.out.2.1))
      have HY := Lib.hid (show ∃ vl vw nb I, NBk w8 base gb vl vw nb I ∧ Blk w8 F (bvs (p ++ List.replicate 80 165)) 5 ∧ Below base w w8 ∧ Own w8 base (.slice A4 (n + 4) c4) (p ++ leBytes 4 a) ∧ ∀ i ∈ I, ∀ k, (i.l.ownBlock = some k ∨ i.was.ownBlock = some k) → k ≠ F from
        ⟨vl8, vw8, nb8, I8, ⟨hC8, hn8, hK8, hl8⟩, hkF7.fr hF8 (blk_book H7.out.1 hkF7), (HX.out.2.2.1.trans (H7.out.2.1.mono hwb)).trans (hF8.below (book_base H7.out.1) (by have := H7.out.1.lt; omega)), hO8, fun i hi k hk => by
          rcases hI8 i hi with h | ⟨h1, h2⟩
          · exact HX.out.2.2.2.2 i h k hk
          · rcases hk with hk | hk
            · rw [h1] at hk
              have := (H7.out.2.2 k hk).1; omega
            · have := h2 k hk; have := H7.out.2.1.size; omega⟩)
      clear hC8 hn8 hK8 hl8 hI8 hF8 hkF7 hO8 HKP
      go_wp2_with fail
      go_roundw
      case rel => exact ⟨k + 1, by omega, by go_num, HY⟩
      case measure => simp [intOf]; omega
    · obtain rfl : k = 2 := by omega
      clear hlt hk
      obtain ⟨m, hm⟩ : ∃ m, getV 4 p = m := ⟨_, rfl⟩
      obtain ⟨o, ho⟩ : ∃ o, getO 4 p = o := ⟨_, rfl⟩
      have hml : m < 4294967296 := by have h := getV_lt 4 p; rw [hm] at h; simpa using h
      have wm : IntKind.u64.wrap (m : Int) = (m : Int) := by rw [wu64]; omega
      have HG : ∀ (W : World) (A' : Option Addr) (c' : Nat), Rd W A' n (bvs p) → n ≤ c' → Hid (Calls Tryz.prog 35 #[.slice A' n c'] W fun e w' => e = .returned (.tuple #[.int .u32 (m : Int), .bool o]) ∧ Drawn W w') := fun W A' c' h1 h2 => Lib.hid (by have h := getm_uint32 A' n c' p W h1 h2; rw [hm, ho] at h; exact h)
      have HRN : ∀ (W : World), Rd W A n (bvs p) → Hid (Calls Tryz.prog 28 #[.slice A n c, .int .i64 4] W fun e w' => e = .returned (.tuple #[.int .u64 (m : Int), .bool o]) ∧ w' = W) := fun W h1 => Lib.hid (by have h := refNum4 A n c p W h1; rw [hm, ho] at h; exact h)
      obtain ⟨m2, hm2⟩ : ∃ m2, getV 4 (p.map inv8) = m2 := ⟨_, rfl⟩
      have hm2l : m2 < 4294967296 := by have h := getV_lt 4 (p.map inv8); rw [hm2] at h; simpa using h
      have wm2 : IntKind.u64.wrap (m2 : Int) = (m2 : Int) := by rw [wu64]; omega
      have HINV := Lib.hid (show (o = true → bits .xor .u64 (m : Int) 4294967295 = (m2 : Int)) ∧ (o = false → m2 = 0) from by
        have h := getV_inv 4 p
        rw [hm, ho, hm2] at h
        refine ⟨fun e => ?_, h.2.1⟩
        have h2 := bits_xor_u64_nat m 4294967295 (by omega) (by decide)
        rw [h.1 e]
        exact h2)
      have HG2 : ∀ (W : World), Rd W (some ⟨F, 0, none⟩) n (bvs (p.map inv8)) → Hid (Calls Tryz.prog 35 #[.slice (some ⟨F, 0, none⟩) n (n + 80)] W fun e w' => e = .returned (.tuple #[.int .u32 (m2 : Int), .bool o]) ∧ Drawn W w') := fun W h1 => Lib.hid (by have h := getm_uint32 (some ⟨F, 0, none⟩) n (n + 80) (p.map inv8) W h1 (by omega); rw [hm2, (getV_inv 4 p).2.2, ho] at h; exact h)
      have HG3 : ∀ (W : World) (A' : Option Addr) (c' : Nat), Rd W A' 4 (bvs (leBytes 4 a)) → 4 ≤ c' → Hid (Calls Tryz.prog 35 #[.slice A' 4 c'] W fun e w' => e = .returned (.tuple #[.int .u32 (a : Int), .bool true]) ∧ Drawn W w') := fun W A' c' h1 h2 => Lib.hid (by have h := getm_uint32 A' 4 c' (leBytes 4 a) W h1 h2; have hg := getV_le 4 a (by simpa using ha); rw [hg.1, hg.2] at h; exact h)
      clear hm ho hm2
      go_wp2_with fail
      refine ((HG _ _ _ hrF (by omega)).out).mono ?_
      rintro r w5 ⟨rfl, ⟨n5, rfl⟩⟩
      have hr5 := HSR.out (wr.drewN n5) (HX.out.2.2.1.trans (below_drewN (Below.refl base wr) n5))
      clear hrF
      go_wp2_with fail
      refine ((HRN _ hr5).out).mono ?_
      rintro r w6 ⟨rfl, rfl⟩
      have hkF6 : Blk (wr.drewN n5) F (bvs (p ++ List.replicate 80 165)) 5 := HX.out.2.1.drewN n5
      have hrF := (hkF6.rd (n := n + 80) (off := 0) (bvs (p ++ List.replicate 80 165)) (by rw [bvs_length, List.length_append, List.length_replicate, HBL.out]) (by omega) (fun j u hu => by rw [Nat.zero_add]; exact hu))
      have hint := intact (some ⟨F, 0, none⟩) A (n + 80) (n + 80) n c (p ++ List.replicate 80 165) p 165 _ hrF (Nat.le_refl _) hr5 (by omega)
      rw [decide_eq_true rfl] at hint
      have HI := Lib.hid hint
      clear hrF hint hkF6 hr5
      go_wp2_with fail
      refine HI.out.mono ?_
      rintro r w7 ⟨rfl, ⟨n7, rfl⟩⟩
      have HZ := Lib.hid (show NBk (wr.drewN (n5 + n7)) base gb vl1 vw1 nb1 I1 ∧ Blk (wr.drewN (n5 + n7)) F (bvs (p ++ List.replicate 80 165)) 5 ∧ Below base w (wr.drewN (n5 + n7)) ∧ Own (wr.drewN (n5 + n7)) base (.slice A4 (n + 4) c4) (p ++ leBytes 4 a) from
        ⟨HX.out.1.below (below_drewN (Below.refl _ wr) _), HX.out.2.1.drewN _, HX.out.2.2.1.trans (below_drewN (Below.refl base wr) _), HX.out.2.2.2.1.below (below_drewN (Below.refl _ wr) _)⟩)
      have HIF := Lib.hid HX.out.2.2.2.2
      clear HI HX
      go_wp2_with fail
      generalize hw9 : wr.drewN (n5 + n7) = w9 at *
      clear hw9
      go_loopw [19] (fun i wr => ∃ (k : Nat), k ≤ n ∧ i = .int .i64 (k : Int) ∧ Hid (Blk wr F (bvs ((p.take k).map inv8 ++ p.drop k ++ List.replicate 80 165)) 5 ∧ Fr (fun x => x = F) w9 wr)) (fun i _ => n - (intOf i).toNat)
      case atStart => exact ⟨0, Nat.zero_le _, rfl, Lib.hid ⟨by simpa using HZ.out.2.1, Fr.refl _ _⟩⟩
      case round =>
        obtain ⟨k, hk, rfl, HQ⟩ := hrel
        by_cases hlt : k < n
        · have hkp : k < p.length := by rw [HBL.out]; exact hlt
          have hc := HQ.out.1.cell k (bv p[k]) (by rw [bvs_get' _ k p[k] (by rw [List.append_assoc, List.getElem?_append_right (by simp; omega), List.getElem?_append_left (by simp; omega)]; simp; rw [Nat.min_eq_left (by omega), Nat.add_sub_cancel' (Nat.le_refl k)] <;> simp [hkp])])
          have hf := HQ.out.1.free k
          have hset := turn_set p k hkp 165
          have hblk := HQ.out.1.set k (bv (inv8 p[k]))
          rw [hset] at hblk
          obtain ⟨y, q1, E1⟩ : ∃ y : UInt8, bits .xor .u8 (p[k].toNat : Int) 255 = (y.toNat : Int) ∧ Hid (y = inv8 p[k]) := ⟨_, x8G p[k] 255, Lib.hid rfl⟩
          have hF2 : Fr (fun x => x = F) w9 (wr.setCell ⟨F, k, none⟩ (bv y)) := HQ.out.2.setCell (p := ⟨F, k, none⟩) (.inl rfl) _
          rw [← E1.out] at hblk
          have HP := Lib.hid (And.intro hblk hF2)
          clear hblk hF2 hset
          go_wp2_with fail
          go_roundw
          case rel => exact ⟨k + 1, by omega, by go_num, HP⟩
          case measure => simp [intOf]; omega
        · obtain rfl : k = n := by omega
          have hblk : Blk wr F (bvs (p.map inv8 ++ List.replicate 80 165)) 5 := by
            have h := HQ.out.1
            rw [List.take_of_length_le (by rw [HBL.out]; exact Nat.le_refl _), List.drop_of_length_le (by rw [HBL.out]; exact Nat.le_refl _), List.append_nil] at h
            exact h
          have hrF := (hblk.rd (n := k) (off := 0) (bvs (p.map inv8)) (by rw [bvs_length, List.length_map, HBL.out]) (by omega) (fun j u hu => by rw [Nat.zero_add, bvs, List.map_append]; exact (List.getElem?_append_left (List.getElem?_eq_some_iff.1 hu).1).trans hu))
          have hN9 := HZ.out.1.room HQ.out.2 HZ.out.2.1 HIF.out
          have hO9 : Own wr base (.slice A4 (k + 4) c4) (p ++ leBytes 4 a) := HZ.out.2.2.2.fr HQ.out.2 (fun b hb e => by have := HOB.out b hb; omega)
          have hB9 : Below base w wr := HZ.out.2.2.1.trans (HQ.out.2.below (fun x hx => by rw [hx]; exact hFF.1) (by have := HZ.out.1.lt; omega))
          obtain ⟨A6, hcut, hrd6⟩ := cut_lo A4 (k + 4) c4 (k : Int) (by omega) (by omega) hcap4
          rw [Int.toNat_natCast, Nat.add_sub_cancel_left] at hcut hrd6
          have H9 := Lib.hid (And.intro hN9 (And.intro hO9 (And.intro hB9 (fun (W : World) (h : Rd W A4 (k + 4) (bvs (p ++ leBytes 4 a))) => (show Rd W A6 4 (bvs (leBytes 4 a)) from by have h2 := hrd6 W _ h; rwa [List.drop_left' HBL.out] at h2)))))
          have hc6 : 4 ≤ c4 - k := by omega
          clear hblk hN9 hO9 hB9 hrd6 HQ HZ HIF HG HRN hlt hk
          go_wp2_with fail
          refine ((HG2 _ hrF).out).mono ?_
          rintro r w11 ⟨rfl, ⟨n11, rfl⟩⟩
          have HR6 := H9.out.2.2.2 (wr.drewN n11) (H9.out.2.1.below (below_drewN (Below.refl _ wr) n11)).rd_
          have HFIN := Lib.hid (show NBk (wr.drewN n11) base gb vl1 vw1 nb1 I1 ∧ Below base w (wr.drewN n11) from ⟨H9.out.1.below (below_drewN (Below.refl _ wr) n11), H9.out.2.2.1.trans (below_drewN (Below.refl base wr) n11)⟩)
          have HG4 := HG3 _ _ _ HR6 hc6
          clear HG2 HG3 hrF HR6 H9
          have hcs : (o = true ∧ bits .xor .u64 (m : Int) 4294967295 = (m2 : Int)) ∨ (o = false ∧ m2 = 0) := by
            cases ho : o with
            | true => exact .inl ⟨rfl, HINV.out.1 ho⟩
            | false => exact .inr ⟨rfl, HINV.out.2 ho⟩
          clear HINV
          rcases hcs with ⟨rfl, hx⟩ | ⟨rfl, rfl⟩
          all_goals
            go_wp2_with (go_at_call 29; refine (greatest4 _).mono ?_; rintro e w' ⟨rfl, rfl⟩)
            refine HG4.out.mono ?_
            rintro r w12 ⟨rfl, ⟨n12, rfl⟩⟩
            have HFIN2 := Lib.hid (show NBk ((wr.drewN n11).drewN n12) base gb vl1 vw1 nb1 I1 ∧ Below base w ((wr.drewN n11).drewN n12) from ⟨HFIN.out.1.below (below_drewN (Below.refl _ _) n12), HFIN.out.2.trans (below_drewN (Below.refl base _) n12)⟩)
            rw [World.drewN_drewN] at HFIN2
            clear HG4 HFIN
            go_wp2_with (go_at_call 36; refine (sums_uint32 _ _ _ (by omega) (by omega)).mono ?_; rintro e w' ⟨rfl, rfl⟩)
            go_ret
            exact ⟨rfl, _, _, _, _, HFIN2.out.1, HFIN2.out.2⟩
set_option maxHeartbeats 12800000 in
set_option maxRecDepth 100000 in
theorem numbers_uint64 (base gb : Nat) (A : Option Addr) (n c : Nat) (p : List UInt8) (vl vw : Value) (nb : Int) (I : List Kp) (a b : Nat) (w : World) (ha : a < 18446744073709551616) (hb : b < 18446744073709551616) (hbl : p.length = n) (hn : n ≤ 2147483647) (hsrc : Src w base A p) (hB : NBk w base gb vl vw nb I) :
    Calls Tryz.prog 8 #[.int .i64 8, .int .u64 (a : Int), .int .u64 (b : Int), .slice A n c, .pointer (some ⟨gb, 0, none⟩)] w fun r w' => r = .returned (.bool true) ∧ ∃ vl' vw' nb' I', NBk w' base gb vl' vw' nb' I' ∧ Below base w w' := by
  have hsrc0 : ∀ W : World, Below base w W → Rd W A n (bvs p) := fun W hW => by have h := hsrc W hW; rwa [hbl] at h
  have hr := hsrc0 w (Below.refl _ _)
  have hbb := hB.lt
  have HB := Lib.hid hB
  have HSR := Lib.hid hsrc0
  have wa : IntKind.u64.wrap (a : Int) = (a : Int) := by rw [wu64]; omega
  have HBL := Lib.hid hbl
  clear hsrc hsrc0 hB hbl
  go_enter Tryz.func8, Tryz.ntmps8
  go_wp2_with fail
  refine (roomyG A n c p 165 _ hr (by omega)).mono ?_
  rintro r w1 ⟨F, hF0, rfl, hkF, hb1⟩
  have hr1 := HSR.out w1 (hb1.mono (by omega))
  have hs1 := hb1.size
  have HK1 := Lib.hid (And.intro hkF hb1)
  have hFl := hkF.lt
  have tok1 : True := trivial
  clear hkF hb1 hr
  go_wp2_with (first
    | ((with_reducible refine at_builtin_ (b := .append) rfl ?_); have _t := tok1; go_must (refine app_u8 rfl _ _ rfl w1.heap.size (.slice none 0 0) [] A n c p rfl rfl (Own.nil _ _) hr1 (Nat.le_refl _) n (by simp) (by omega) w1.heap.size w1 (Below.refl _ _) (Nat.le_refl _) ?_); intro A2 c2 w2 hO2 hb2 _ _; rw [List.nil_append] at hO2; clear tok1 _t)
    | (go_at_call 22; refine (refBytes8 a _ (by omega)).mono ?_; rintro r w3 ⟨A3, c3, rfl, hO3, hb3⟩; have hO2' := hO2.below hb3; have hrd3 := hO3.rd_; have hs3 := hb3.size; have hs2 := hb2.size; have tok2 : True := trivial)
    | ((with_reducible refine at_builtin_ (b := .append) rfl ?_); have _t := tok2; go_must (refine app_u8 rfl _ _ rfl w1.heap.size (.slice A2 n c2) p A3 8 c3 (leBytes 8 a) rfl rfl hO2' hrd3 (by omega) (n + 8) (by rw [HBL.out]) (by omega) w1.heap.size w1 (hb2.trans (hb3.mono (by omega))) (Nat.le_refl _) ?_); intro A4 c4 w4 hO4 hb4 _ _; clear tok2 _t hO2' hrd3 hO3 hb3 hO2 hb2 hs2 hs3))
  have HW := Lib.hid (And.intro (hO4.mono (base' := base) (by omega)) (hO4.base_le))
  have HOB := Lib.hid (show ∀ k, (Value.slice A4 (n + 8) c4).ownBlock = some k → F < k from fun k hk => by have := (hO4.base_le k hk).1; omega)
  have hcap4 : n + 8 ≤ c4 := by
    obtain ⟨A', c', e, h, _⟩ := hO4.cases
    injection e with _ _ e
    rw [List.length_append, leBytes_length, HBL.out] at h
    omega
  have HB4 := Lib.hid (And.intro (HB.out.below (HK1.out.2.trans (hb4.mono hs1))) (And.intro (HK1.out.1.below hb4 hFl) (show Below base w w4 from (HK1.out.2.mono (by omega)).trans (hb4.mono (by omega)))))
  have hFF : base ≤ F ∧ F < w1.heap.size := ⟨by omega, hFl⟩
  have HI0 := Lib.hid HB.out.I_lt
  clear hO4 hb4 HK1 HB hr1 hFl
  go_loopw [13] (fun i wr => ∃ (k : Nat), k ≤ 2 ∧ i = .int .i64 (k : Int) ∧ Hid (∃ vl vw nb I, NBk wr base gb vl vw nb I ∧ Blk wr F (bvs (p ++ List.replicate 80 165)) 5 ∧ Below base w wr ∧ Own wr base (.slice A4 (n + 8) c4) (p ++ leBytes 8 a) ∧ ∀ i ∈ I, ∀ k, (i.l.ownBlock = some k ∨ i.was.ownBlock = some k) → k ≠ F)) (fun i _ => 2 - (intOf i).toNat)
  case atStart => exact ⟨0, by omega, rfl, Lib.hid ⟨_, _, _, _, HB4.out.1, HB4.out.2.1, HB4.out.2.2, HW.out.1, fun i hi k hk => by have := HI0.out i hi k hk; omega⟩⟩
  case round =>
    clear HB4 HW HI0
    obtain ⟨k, hk, rfl, HS⟩ := hrel
    obtain ⟨vl1, vw1, nb1, I1, hN1, hkF, hB1, hO, hIF⟩ := HS.out
    have HX := Lib.hid (And.intro hN1 (And.intro hkF (And.intro hB1 (And.intro hO hIF))))
    have hrF := (hkF.rd (n := n) (off := 0) (bvs p) (by rw [bvs_length, HBL.out]) (by omega) (fun j u hu => by rw [Nat.zero_add, bvs, List.map_append]; exact (List.getElem?_append_left (List.getElem?_eq_some_iff.1 hu).1).trans hu))
    have hwb : base ≤ wr.heap.size := by have := hN1.lt; omega
    have hFw := hkF.lt
    clear HS hN1 hkF hB1 hO hIF
    by_cases hlt : k < 2
    · go_wp2_with fail
      refine (put_uint64 (some ⟨F, 0, none⟩) n (n + 80) p a _ ha hrF (by omega)).mono ?_
      rintro r w5 ⟨A5, c5, rfl, hO5, hb5⟩
      have hrx := hO5.rd_
      have hry := (HX.out.2.2.2.1.below hb5).rd_
      have hsm := same A5 A4 (n + 8) c5 (n + 8) c4 (p ++ leBytes 8 a) (p ++ leBytes 8 a) w5 hrx hry
      rw [decide_eq_true rfl] at hsm
      have HM := Lib.hid hsm
      have H5 := Lib.hid (And.intro hO5 hb5)
      clear hrx hry hsm hO5 hb5 hrF
      go_wp2_with fail
      refine HM.out.mono ?_
      rintro r w6 ⟨rfl, ⟨n6, rfl⟩⟩
      have hkF6 : Blk (w5.drewN n6) F (bvs (p ++ List.replicate 80 165)) 5 := (HX.out.2.1.below H5.out.2 hFw).drewN n6
      have hB6 : Below base w (w5.drewN n6) := (HX.out.2.2.1.trans (H5.out.2.mono hwb)).trans (below_drewN (Below.refl base w5) n6)
      have hrF := (hkF6.rd (n := n + 80) (off := 0) (bvs (p ++ List.replicate 80 165)) (by rw [bvs_length, List.length_append, List.length_replicate, HBL.out]) (by omega) (fun j u hu => by rw [Nat.zero_add]; exact hu))
      have hint := intact (some ⟨F, 0, none⟩) A (n + 80) (n + 80) n c (p ++ List.replicate 80 165) p 165 _ hrF (Nat.le_refl _) (HSR.out _ hB6) (by omega)
      rw [decide_eq_true rfl] at hint
      have HI := Lib.hid hint
      have H6 := Lib.hid (And.intro hkF6 hB6)
      clear HM hrF hint hkF6 hB6
      go_wp2_with fail
      refine HI.out.mono ?_
      rintro r w7 ⟨rfl, ⟨n7, rfl⟩⟩
      have hb7 : Below wr.heap.size wr ((w5.drewN n6).drewN n7) := below_drewN (below_drewN H5.out.2 n6) n7
      have hN7 := HX.out.1.below hb7
      have hO7 : Own ((w5.drewN n6).drewN n7) wr.heap.size (.slice A5 (n + 8) c5) (p ++ leBytes 8 a) := (H5.out.1.below (below_drewN (Below.refl _ w5) n6)).below (below_drewN (Below.refl _ _) n7)
      have hO7l := hO7.base_le
      have hO7' : Own ((w5.drewN n6).drewN n7) base (.slice A5 (p ++ leBytes 8 a).length c5) (p ++ leBytes 8 a) := by
        rw [List.length_append, leBytes_length, HBL.out]; exact hO7.mono hwb
      have hlx : (p ++ leBytes 8 a).length = n + 8 := by rw [List.length_append, leBytes_length, HBL.out]
      have hkp := keep_ base gb 0 28 [] [] vl1 vw1 I1 A5 c5 (p ++ leBytes 8 a) ((w5.drewN n6).drewN n7) nb1 hN7.book hN7.hn hN7.kps hN7.sz hO7' (by omega) (fun x hx b hb e => by have h1 := HX.out.1.I_lt x hx b (.inl hb); rw [hlx] at e; have h2 := (hO7l b e).1; omega)
      rw [hlx] at hkp
      have HKP := Lib.hid hkp
      have H7 := Lib.hid (And.intro hN7 (And.intro hb7 hO7l))
      have hdr : ((w5.drewN n6).drewN n7) = w5.drewN (n6 + n7) := World.drewN_drewN ..
      rw [hdr] at HKP H7 ⊢
      clear hN7 hb7 hO7 hO7l hO7' hkp HI hdr
      go_wp2_with fail
      refine HKP.out.mono ?_
      rintro r w8 ⟨rfl, vl8, vw8, I8, nb8, hC8, hn8, hK8, hl8, hI8, hF8⟩
      have hkF7 : Blk (w5.drewN (n6 + n7)) F (bvs (p ++ List.replicate 80 165)) 5 := (HX.out.2.1.below H5.out.2 hFw).drewN _
      have hO8 : Own w8 base (.slice A4 (n + 8) c4) (p ++ leBytes 8 a) := (HX.out.2.2.2.1.below H7.out.2.1).fr hF8 (own_ne_book H7.out.1.book (HX.out.2.2.2.1.below H7.out.2.1))
      have HY := Lib.hid (show ∃ vl vw nb I, NBk w8 base gb vl vw nb I ∧ Blk w8 F (bvs (p ++ List.replicate 80 165)) 5 ∧ Below base w w8 ∧ Own w8 base (.slice A4 (n + 8) c4) (p ++ leBytes 8 a) ∧ ∀ i ∈ I, ∀ k, (i.l.ownBlock = some k ∨ i.was.ownBlock = some k) → k ≠ F from
        ⟨vl8, vw8, nb8, I8, ⟨hC8, hn8, hK8, hl8⟩, hkF7.fr hF8 (blk_book H7.out.1 hkF7), (HX.out.2.2.1.trans (H7.out.2.1.mono hwb)).trans (hF8.below (book_base H7.out.1) (by have := H7.out.1.lt; omega)), hO8, fun i hi k hk => by
          rcases hI8 i hi with h | ⟨h1, h2⟩
          · exact HX.out.2.2.2.2 i h k hk
          · rcases hk with hk | hk
            · rw [h1] at hk
              have := (H7.out.2.2 k hk).1; omega
            · have := h2 k hk; have := H7.out.2.1.size; omega⟩)
      clear hC8 hn8 hK8 hl8 hI8 hF8 hkF7 hO8 HKP
      go_wp2_with fail
      go_roundw
      case rel => exact ⟨k + 1, by omega, by go_num, HY⟩
      case measure => simp [intOf]; omega
    · obtain rfl : k = 2 := by omega
      clear hlt hk
      obtain ⟨m, hm⟩ : ∃ m, getV 8 p = m := ⟨_, rfl⟩
      obtain ⟨o, ho⟩ : ∃ o, getO 8 p = o := ⟨_, rfl⟩
      have hml : m < 18446744073709551616 := by have h := getV_lt 8 p; rw [hm] at h; simpa using h
      have wm : IntKind.u64.wrap (m : Int) = (m : Int) := by rw [wu64]; omega
      have HG : ∀ (W : World) (A' : Option Addr) (c' : Nat), Rd W A' n (bvs p) → n ≤ c' → Hid (Calls Tryz.prog 38 #[.slice A' n c'] W fun e w' => e = .returned (.tuple #[.int .u64 (m : Int), .bool o]) ∧ Drawn W w') := fun W A' c' h1 h2 => Lib.hid (by have h := getm_uint64 A' n c' p W h1 h2; rw [hm, ho] at h; exact h)
      have HRN : ∀ (W : World), Rd W A n (bvs p) → Hid (Calls Tryz.prog 28 #[.slice A n c, .int .i64 8] W fun e w' => e = .returned (.tuple #[.int .u64 (m : Int), .bool o]) ∧ w' = W) := fun W h1 => Lib.hid (by have h := refNum8 A n c p W h1; rw [hm, ho] at h; exact h)
      obtain ⟨m2, hm2⟩ : ∃ m2, getV 8 (p.map inv8) = m2 := ⟨_, rfl⟩
      have hm2l : m2 < 18446744073709551616 := by have h := getV_lt 8 (p.map inv8); rw [hm2] at h; simpa using h
      have wm2 : IntKind.u64.wrap (m2 : Int) = (m2 : Int) := by rw [wu64]; omega
      have HINV := Lib.hid (show (o = true → bits .xor .u64 (m : Int) 18446744073709551615 = (m2 : Int)) ∧ (o = false → m2 = 0) from by
        have h := getV_inv 8 p
        rw [hm, ho, hm2] at h
        refine ⟨fun e => ?_, h.2.1⟩
        have h2 := bits_xor_u64_nat m 18446744073709551615 (by omega) (by decide)
        rw [h.1 e]
        exact h2)
      have HG2 : ∀ (W : World), Rd W (some ⟨F, 0, none⟩) n (bvs (p.map inv8)) → Hid (Calls Tryz.prog 38 #[.slice (some ⟨F, 0, none⟩) n (n + 80)] W fun e w' => e = .returned (.tuple #[.int .u64 (m2 : Int), .bool o]) ∧ Drawn W w') := fun W h1 => Lib.hid (by have h := getm_uint64 (some ⟨F, 0, none⟩) n (n + 80) (p.map inv8) W h1 (by omega); rw [hm2, (getV_inv 8 p).2.2, ho] at h; exact h)
      have HG3 : ∀ (W : World) (A' : Option Addr) (c' : Nat), Rd W A' 8 (bvs (leBytes 8 a)) → 8 ≤ c' → Hid (Calls Tryz.prog 38 #[.slice A' 8 c'] W fun e w' => e = .returned (.tuple #[.int .u64 (a : Int), .bool true]) ∧ Drawn W w') := fun W A' c' h1 h2 => Lib.hid (by have h := getm_uint64 A' 8 c' (leBytes 8 a) W h1 h2; have hg := getV_le 8 a (by simpa using ha); rw [hg.1, hg.2] at h; exact h)
      clear hm ho hm2
      go_wp2_with fail
      refine ((HG _ _ _ hrF (by omega)).out).mono ?_
      rintro r w5 ⟨rfl, ⟨n5, rfl⟩⟩
      have hr5 := HSR.out (wr.drewN n5) (HX.out.2.2.1.trans (below_drewN (Below.refl base wr) n5))
      clear hrF
      go_wp2_with fail
      refine ((HRN _ hr5).out).mono ?_
      rintro r w6 ⟨rfl, rfl⟩
      have hkF6 : Blk (wr.drewN n5) F (bvs (p ++ List.replicate 80 165)) 5 := HX.out.2.1.drewN n5
      have hrF := (hkF6.rd (n := n + 80) (off := 0) (bvs (p ++ List.replicate 80 165)) (by rw [bvs_length, List.length_append, List.length_replicate, HBL.out]) (by omega) (fun j u hu => by rw [Nat.zero_add]; exact hu))
      have hint := intact (some ⟨F, 0, none⟩) A (n + 80) (n + 80) n c (p ++ List.replicate 80 165) p 165 _ hrF (Nat.le_refl _) hr5 (by omega)
      rw [decide_eq_true rfl] at hint
      have HI := Lib.hid hint
      clear hrF hint hkF6 hr5
      go_wp2_with fail
      refine HI.out.mono ?_
      rintro r w7 ⟨rfl, ⟨n7, rfl⟩⟩
      have HZ := Lib.hid (show NBk (wr.drewN (n5 + n7)) base gb vl1 vw1 nb1 I1 ∧ Blk (wr.drewN (n5 + n7)) F (bvs (p ++ List.replicate 80 165)) 5 ∧ Below base w (wr.drewN (n5 + n7)) ∧ Own (wr.drewN (n5 + n7)) base (.slice A4 (n + 8) c4) (p ++ leBytes 8 a) from
        ⟨HX.out.1.below (below_drewN (Below.refl _ wr) _), HX.out.2.1.drewN _, HX.out.2.2.1.trans (below_drewN (Below.refl base wr) _), HX.out.2.2.2.1.below (below_drewN (Below.refl _ wr) _)⟩)
      have HIF := Lib.hid HX.out.2.2.2.2
      clear HI HX
      go_wp2_with fail
      generalize hw9 : wr.drewN (n5 + n7) = w9 at *
      clear hw9
      go_loopw [19] (fun i wr => ∃ (k : Nat), k ≤ n ∧ i = .int .i64 (k : Int) ∧ Hid (Blk wr F (bvs ((p.take k).map inv8 ++ p.drop k ++ List.replicate 80 165)) 5 ∧ Fr (fun x => x = F) w9 wr)) (fun i _ => n - (intOf i).toNat)
      case atStart => exact ⟨0, Nat.zero_le _, rfl, Lib.hid ⟨by simpa using HZ.out.2.1, Fr.refl _ _⟩⟩
      case round =>
        obtain ⟨k, hk, rfl, HQ⟩ := hrel
        by_cases hlt : k < n
        · have hkp : k < p.length := by rw [HBL.out]; exact hlt
          have hc := HQ.out.1.cell k (bv p[k]) (by rw [bvs_get' _ k p[k] (by rw [List.append_assoc, List.getElem?_append_right (by simp; omega), List.getElem?_append_left (by simp; omega)]; simp; rw [Nat.min_eq_left (by omega), Nat.add_sub_cancel' (Nat.le_refl k)] <;> simp [hkp])])
          have hf := HQ.out.1.free k
          have hset := turn_set p k hkp 165
          have hblk := HQ.out.1.set k (bv (inv8 p[k]))
          rw [hset] at hblk
          obtain ⟨y, q1, E1⟩ : ∃ y : UInt8, bits .xor .u8 (p[k].toNat : Int) 255 = (y.toNat : Int) ∧ Hid (y = inv8 p[k]) := ⟨_, x8G p[k] 255, Lib.hid rfl⟩
          have hF2 : Fr (fun x => x = F) w9 (wr.setCell ⟨F, k, none⟩ (bv y)) := HQ.out.2.setCell (p := ⟨F, k, none⟩) (.inl rfl) _
          rw [← E1.out] at hblk
          have HP := Lib.hid (And.intro hblk hF2)
          clear hblk hF2 hset
          go_wp2_with fail
          go_roundw
          case rel => exact ⟨k + 1, by omega, by go_num, HP⟩
          case measure => simp [intOf]; omega
        · obtain rfl : k = n := by omega
          have hblk : Blk wr F (bvs (p.map inv8 ++ List.replicate 80 165)) 5 := by
            have h := HQ.out.1
            rw [List.take_of_length_le (by rw [HBL.out]; exact Nat.le_refl _), List.drop_of_length_le (by rw [HBL.out]; exact Nat.le_refl _), List.append_nil] at h
            exact h
          have hrF := (hblk.rd (n := k) (off := 0) (bvs (p.map inv8)) (by rw [bvs_length, List.length_map, HBL.out]) (by omega) (fun j u hu => by rw [Nat.zero_add, bvs, List.map_append]; exact (List.getElem?_append_left (List.getElem?_eq_some_iff.1 hu).1).trans hu))
          have hN9 := HZ.out.1.room HQ.out.2 HZ.out.2.1 HIF.out
          have hO9 : Own wr base (.slice A4 (k + 8) c4) (p ++ leBytes 8 a) := HZ.out.2.2.2.fr HQ.out.2 (fun b hb e => by have := HOB.out b hb; omega)
          have hB9 : Below base w wr := HZ.out.2.2.1.trans (HQ.out.2.below (fun x hx => by rw [hx]; exact hFF.1) (by have := HZ.out.1.lt; omega))
          obtain ⟨A6, hcut, hrd6⟩ := cut_lo A4 (k + 8) c4 (k : Int) (by omega) (by omega) hcap4
          rw [Int.toNat_natCast, Nat.add_sub_cancel_left] at hcut hrd6
          have H9 := Lib.hid (And.intro hN9 (And.intro hO9 (And.intro hB9 (fun (W : World) (h : Rd W A4 (k + 8) (bvs (p ++ leBytes 8 a))) => (show Rd W A6 8 (bvs (leBytes 8 a)) from by have h2 := hrd6 W _ h; rwa [List.drop_left' HBL.out] at h2)))))
          have hc6 : 8 ≤ c4 - k := by omega
          clear hblk hN9 hO9 hB9 hrd6 HQ HZ HIF HG HRN hlt hk
          go_wp2_with fail
          refine ((HG2 _ hrF).out).mono ?_
          rintro r w11 ⟨rfl, ⟨n11, rfl⟩⟩
          have HR6 := H9.out.2.2.2 (wr.drewN n11) (H9.out.2.1.below (below_drewN (Below.refl _ wr) n11)).rd_
          have HFIN := Lib.hid (show NBk (wr.drewN n11) base gb vl1 vw1 nb1 I1 ∧ Below base w (wr.drewN n11) from ⟨H9.out.1.below (below_drewN (Below.refl _ wr) n11), H9.out.2.2.1.trans (below_drewN (Below.refl base wr) n11)⟩)
          have HG4 := HG3 _ _ _ HR6 hc6
          clear HG2 HG3 hrF HR6 H9
          have hcs : (o = true ∧ bits .xor .u64 (m : Int) 18446744073709551615 = (m2 : Int)) ∨ (o = false ∧ m2 = 0) := by
            cases ho : o with
            | true => exact .inl ⟨rfl, HINV.out.1 ho⟩
            | false => exact .inr ⟨rfl, HINV.out.2 ho⟩
          clear HINV
          rcases hcs with ⟨rfl, hx⟩ | ⟨rfl, rfl⟩
          all_goals
            go_wp2_with (go_at_call 29; refine (greatest8 _).mono ?_; rintro e w' ⟨rfl, rfl⟩)
            refine HG4.out.mono ?_
            rintro r w12 ⟨rfl, ⟨n12, rfl⟩⟩
            have HFIN2 := Lib.hid (show NBk ((wr.drewN n11).drewN n12) base gb vl1 vw1 nb1 I1 ∧ Below base w ((wr.drewN n11).drewN n12) from ⟨HFIN.out.1.below (below_drewN (Below.refl _ _) n12), HFIN.out.2.trans (below_drewN (Below.refl base _) n12)⟩)
            rw [World.drewN_drewN] at HFIN2
            clear HG4 HFIN
            go_wp2_with (go_at_call 39; refine (sums_uint64 _ _ _ (by omega) (by omega)).mono ?_; rintro e w' ⟨rfl, rfl⟩)
            go_ret
            exact ⟨rfl, _, _, _, _, HFIN2.out.1, HFIN2.out.2⟩
end Go.Proofs.YthdjddpomaendaaGreat.B
