/- opens. Printed by gen_opens.py. -/
import Derived.Test.YthdjddpomaendaaY3
import Derived.Test.YthdjddpomaendaaHL
namespace Go.Proofs.Ythdjddpomaendaa.B
open Go.RowKit
set_option linter.unusedVariables false
set_option linter.unusedSimpArgs false

set_option maxRecDepth 100000 in
theorem infoPr : (Try.prog.info? 65).map (fun i => (i.zero, i.size, i.bytes)) = some (some (.pointer none), 1, 8) := by kernel_rfl
set_option maxRecDepth 100000 in
theorem infoPu : (Try.prog.info? 78).map (fun i => (i.zero, i.size, i.bytes)) = some (some (.pointer none), 1, 8) := by kernel_rfl
theorem IsR.mono {w : World} {base base' g c at_ : Nat} {A : Option Addr} {bs : List UInt8} {e : Int} (h : IsR w base g A c bs at_ e) (hb : base' ≤ base) : IsR w base' g A c bs at_ e :=
  ⟨Nat.le_trans hb h.hg, h.hat, h.hlen, h.blk, h.own.mono hb⟩
/-- The reference's reader and the box of its pointer, both new. -/
theorem u_box (w8 : World) (base c0 : Nat) (A0 : Option Addr) (bs : List UInt8) (hb : base ≤ w8.heap.size) (hs : Src w8 base A0 bs) (hl : bs.length ≤ 140737488355328) (hc : bs.length ≤ c0 ∧ c0 ≤ 9223372036854775807) :
    Below w8.heap.size w8 (w8.drew.alloc (.cells #[.slice A0 bs.length c0, .int .i64 0, .int .i64 0] 117)) ∧ Below w8.heap.size w8 ((w8.drew.alloc (.cells #[.slice A0 bs.length c0, .int .i64 0, .int .i64 0] 117)).alloc (.cells #[.pointer (some ⟨w8.heap.size, 0, none⟩)] 78)) ∧ IsU ((w8.drew.alloc (.cells #[.slice A0 bs.length c0, .int .i64 0, .int .i64 0] 117)).alloc (.cells #[.pointer (some ⟨w8.heap.size, 0, none⟩)] 78)) base w8.heap.size A0 c0 bs 0 0 ∧
    ∀ (j : Nat) (u : Value), [Value.pointer (some ⟨w8.heap.size, 0, none⟩)][j]? = some u → ((w8.drew.alloc (.cells #[.slice A0 bs.length c0, .int .i64 0, .int .i64 0] 117)).alloc (.cells #[.pointer (some ⟨w8.heap.size, 0, none⟩)] 78)).cell? ((⟨w8.heap.size + 1, 0, none⟩ : Addr).add j) = some u := by
  have h0 : Below w8.heap.size w8 w8.drew := below_drewN (Below.refl _ w8) 1
  have h1 : Below w8.heap.size w8 (w8.drew.alloc (.cells #[.slice A0 bs.length c0, .int .i64 0, .int .i64 0] 117)) := below_alloc h0 _
  have h2 : Below w8.heap.size w8 ((w8.drew.alloc (.cells #[.slice A0 bs.length c0, .int .i64 0, .int .i64 0] 117)).alloc (.cells #[.pointer (some ⟨w8.heap.size, 0, none⟩)] 78)) := below_alloc h1 _
  have hbx := box_cells (w8.drew.alloc (.cells #[.slice A0 bs.length c0, .int .i64 0, .int .i64 0] 117)) [Value.pointer (some ⟨w8.heap.size, 0, none⟩)] 78
  refine ⟨h1, h2, ⟨hb, Nat.zero_le _, hl, hc, ?_, hs.go (h2.mono hb)⟩, fun j u hu => ?_⟩
  · exact (Blk.new w8.drew [.slice A0 bs.length c0, .int .i64 0, .int .i64 0] 117).alloc _
  · have := hbx j u hu
    rw [show (w8.drew.alloc (.cells #[.slice A0 bs.length c0, .int .i64 0, .int .i64 0] 117)).heap.size = w8.heap.size + 1 by simp] at this
    exact this
theorem IsR.past {w w1 : World} {base b g gx c at_ : Nat} {A : Option Addr} {bs : List UInt8} {e : Int} {l : List Value} {t : TypeId} {v : Value} {cs : List (List Value)} (h : IsR w b g A c bs at_ e) (hk : Blk w gx l 75) (hr : Row w base t 1 v cs) (ht : t ≠ 112) (ht2 : t ≠ 5)
    (hf : Fr (fun k => k = gx ∨ v.ownBlock = some k) w w1) : IsR w1 b g A c bs at_ e := by
  refine h.fr hf (fun hs => ?_) (fun k hv hs => ?_)
  · rcases hs with rfl | hs
    · exact typed_ne h.blk hk (by decide) rfl
    · obtain ⟨_, _, cells, hc⟩ := hr.typed g hs
      exact typed_ne hc h.blk ht rfl
  · obtain ⟨cells0, hc0⟩ := own_typed' h k hv
    rcases hs with rfl | hs
    · exact typed_ne hc0 hk (by decide) rfl
    · obtain ⟨_, _, cells, hc⟩ := hr.typed k hs
      exact typed_ne hc hc0 ht2 rfl
theorem IsU.past {w w1 : World} {base b g gx c at_ : Nat} {A : Option Addr} {bs : List UInt8} {e : Int} {l : List Value} {t : TypeId} {v : Value} {cs : List (List Value)} (h : IsU w b g A c bs at_ e) (hk : Blk w gx l 75) (hr : Row w base t 1 v cs) (ht : t ≠ 117) (hbx : b ≤ gx) (hbb : b ≤ base)
    (hf : Fr (fun k => k = gx ∨ v.ownBlock = some k) w w1) : IsU w1 b g A c bs at_ e := by
  refine h.fr hf (fun hs => ?_) (fun k hs => ?_)
  · rcases hs with rfl | hs
    · exact typed_ne h.blk hk (by decide) rfl
    · obtain ⟨_, _, cells, hc⟩ := hr.typed g hs
      exact typed_ne hc h.blk ht rfl
  · rcases hs with rfl | hs
    · exact hbx
    · exact Nat.le_trans hbb (hr.typed k hs).1

set_option maxHeartbeats 6400000 in
set_option maxRecDepth 100000 in
theorem opens_ (base gx : Nat) (A0 : Option Addr) (c0 : Nat) (bs : List UInt8) (vrs vis vl vw : Value) (n : Int) (P : List Rp) (I : List Kp) (w : World) (hS : ShC w base gx A0 c0 bs vrs vis vl vw n (rpc P) (upc P) P I) (hP : P.length ≤ 1000000) :
    Calls Try.prog 43 #[.pointer (some ⟨gx, 0, none⟩)] w fun r w' => r = .returned (.bool true) ∧ ∃ vrs' vis' p, ShC w' base gx A0 c0 bs vrs' vis' vl vw n (rpc (P ++ [p])) (upc (P ++ [p])) (P ++ [p]) I ∧ Below base w w' := by
  have hrl : (rpc P).length ≤ 1000000 := by rw [rpc_length]; exact hP
  have hul : (upc P).length ≤ 1000000 := by rw [upc_length]; exact hP
  have hbl := hS.hlen
  have hrd := hS.src.rd
  have hbg := hS.lt
  have b0 := hS.blk.cell 0 _ rfl
  have HS := Lib.hid hS
  clear hS
  go_enter Try.func43, Try.ntmps43
  go_wp2_with fail
  refine (roomyG A0 bs.length c0 bs 165 _ hrd (by omega)).mono ?_
  rintro r w1 ⟨F, hF0, rfl, hkF, hb1⟩
  have HS1 := Lib.hid (HS.out.below hb1)
  have hFl := hkF.lt
  clear b0 hrd
  have b0 := HS1.out.blk.cell 0 _ rfl
  have hrF := (hkF.rd (n := bs.length) (off := 0) (bvs bs) (by rw [bvs_length]) (by omega) (fun j u hu => by rw [Nat.zero_add, bvs, List.map_append]; exact (List.getElem?_append_left (List.getElem?_eq_some_iff.1 hu).1).trans hu))
  have HK1 := Lib.hid hkF
  have hs1 := hb1.size
  clear hkF
  go_wp2_with fail
  refine (newReader (some ⟨F, 0, none⟩) bs.length (bs.length + 80) bs _ hrF (by omega)).mono ?_
  rintro r w2 ⟨g, A, c, rfl, hR2, hb2⟩
  have hgl := hR2.hg
  have hR2' := hR2.mono (base' := base) (by omega)
  have HS2 := Lib.hid (And.intro (HS1.out.below hb2) (And.intro hR2' (And.intro (HK1.out.below hb2 hFl) (show Below base w w2 from (hb1.mono (by omega)).trans (hb2.mono (by omega))))))
  have hovl : ∀ k, rOwn A c = some k → F < k := fun k hk => by have := (hR2.own_lt k hk).1; omega
  have HOV := Lib.hid hovl
  clear b0 hrF hR2 hR2' hovl
  have b0 := HS2.out.1.blk.cell 0 _ rfl
  have hrF := (HS2.out.2.2.1.rd (n := bs.length + 80) (off := 0) (bvs (bs ++ List.replicate 80 165)) (by rw [bvs_length, List.length_append, List.length_replicate]) (by omega) (fun j u hu => by rw [Nat.zero_add]; exact hu))
  have hint := intact (some ⟨F, 0, none⟩) A0 (bs.length + 80) (bs.length + 80) bs.length c0 (bs ++ List.replicate 80 165) bs 165 w2 hrF (Nat.le_refl _) HS2.out.1.src.rd (by omega)
  rw [decide_eq_true rfl] at hint
  have HI := Lib.hid hint
  clear hrF hint hb1 hb2 HS1 HK1
  go_wp2_with fail
  refine HI.out.mono ?_
  rintro r w3 ⟨rfl, ⟨n3, rfl⟩⟩
  clear HI b0
  go_wp2_with fail
  go_loopw [6] (fun i wr => ∃ (k : Nat) (l : List Value), k ≤ bs.length + 80 ∧ i = .int .i64 (k : Int) ∧ l.length = bs.length + 80 ∧ Hid (Blk wr F l 5 ∧ Fr (fun x => x = F) w2 wr ∧ ∀ j, k ≤ j → l[j]? = (bvs (bs ++ List.replicate 80 165))[j]?)) (fun i _ => bs.length + 80 - (intOf i).toNat)
  case atStart => exact ⟨0, _, Nat.zero_le _, rfl, by rw [bvs_length, List.length_append, List.length_replicate], Lib.hid ⟨HS2.out.2.2.1.drewN n3, (Fr.refl _ w2).drewN n3, fun j _ => rfl⟩⟩
  case round =>
    obtain ⟨k, l, hk, rfl, hll, HK⟩ := hrel
    by_cases hlt : k < bs.length + 80
    · obtain ⟨u, hu⟩ : ∃ u, (bs ++ List.replicate 80 165)[k]? = some u := ⟨_, List.getElem?_eq_getElem (by simp; omega)⟩
      have hc := HK.out.1.cell k (.int .u8 (u.toNat : Int)) ((HK.out.2.2 k (Nat.le_refl _)).trans (bvs_get' _ _ _ hu))
      have hf := HK.out.1.free k
      have hu8 := u.toNat_lt
      clear hu
      go_wp2_with fail
      go_roundw
      case rel => exact ⟨k + 1, _, by omega, by go_num, (List.length_set ..).trans hll, Lib.hid ⟨HK.out.1.set k _, HK.out.2.1.setCell (p := ⟨F, k, none⟩) (.inl rfl) _, fun j hj => by rw [List.getElem?_set_ne (by omega)]; exact HK.out.2.2 j (by omega)⟩⟩
      case measure => simp [intOf]; omega
    · obtain rfl : k = bs.length + 80 := by omega
      have hs2 := HS2.out.1.lt
      have hFn : ∀ k t cells, w2.heap[k]? = some (.cells cells t (0, 0)) → t ≠ 5 → k ≠ F := fun k t cells hc ht => typed_ne hc HS2.out.2.2.1 ht
      have hF := HK.out.2.1
      have hFb : ∀ x, x = F → base ≤ x := fun x hx => by omega
      have hS4 : ShC wr base gx A0 c0 bs vrs vis vl vw n (rpc P) (upc P) P I := shelf_room HS2.out.1 hF (by omega) (by omega) (fun p hp => by have := HS.out.own_lt p hp; exact fun k hk => by have := this k hk; omega) (fun i hi k hk => by have := HS.out.I_lt i hi k hk; omega) HS2.out.2.2.1
      have hR4 : IsR wr base g A c bs 0 0 := HS2.out.2.1.fr hF (by omega) (fun k hk => by have := HOV.out k hk; omega)
      have hB4 : Below base w wr := HS2.out.2.2.2.trans (hF.below hFb (by omega))
      have hb5 := below_alloc (Below.refl wr.heap.size wr) (.cells [Value.pointer (some ⟨g, 0, none⟩)].toArray 65)
      have HX := Lib.hid (And.intro (hS4.below hb5) (And.intro (box_cells wr [Value.pointer (some ⟨g, 0, none⟩)] 65) (And.intro (hR4.below hb5) (hB4.trans (hb5.mono (by have := hS4.lt; omega))))))
      have b1 := hS4.blk.cell 1 _ rfl
      have hbw : base ≤ wr.heap.size := by have := hS4.lt; omega
      have hsw := hF.size
      have HSZ := Lib.hid (show w2.heap.size ≤ wr.heap.size from hsw)
      clear hS4 hR4 hB4 hb5 hF hFn hFb HK hlt hs2
      go_wp2_with ((with_reducible refine at_builtin_ (b := .append) rfl ?_); go_must (refine app_row rfl _ _ 65 72 rfl base 1 8 _ Try.underlying72 infoPr rfl (by decide) vrs (rpc P) rfl ⟨wr.heap.size, 0, none⟩ 1 rfl HX.out.1.rr [Value.pointer (some ⟨g, 0, none⟩)] rfl (by intro u hu; rw [List.mem_singleton.1 hu]; rfl) HX.out.2.1 (by omega) (by omega) (by simp; omega) _ rfl ?_); intro A7 c7 w7 hrow7 hg7 hat7; have hA7 := HX.out.1.app_r hrow7 hg7; have q0 := hA7.1.cell 1 _ rfl; have q1 := hA7.1.free 1; have HY := Lib.hid (And.intro hA7.2.1 hA7.2.2); clear hA7 hrow7 hg7 hat7 b1)
      obtain ⟨w8, hw8⟩ : ∃ w8, w7.setCell ⟨gx, 1, none⟩ (.slice A7 ((rpc P).length + 1) c7) = w8 := ⟨_, rfl⟩
      rw [hw8] at HY ⊢
      clear hw8 q0 q1
      have hS8 := HY.out.1
      have hs8 : wr.heap.size ≤ w8.heap.size := Nat.le_trans (by simp) HY.out.2.size
      have HBX := Lib.hid (u_box w8 base c0 A0 bs (by omega) hS8.src (by omega) hS8.cap)
      have HS8 := Lib.hid hS8
      have k0 : w8.drew.cell? ⟨gx, 0, none⟩ = some (.slice A0 bs.length c0) := hS8.blk.cell 0 _ rfl
      have k2 : w8.drew.cell? ⟨gx, 2, none⟩ = some vis := hS8.blk.cell 2 _ rfl
      have k0a := (hS8.below HBX.out.1).blk.cell 0 _ rfl
      have k2a := (hS8.below HBX.out.1).blk.cell 2 _ rfl
      have k0b := (hS8.below HBX.out.2.1).blk.cell 0 _ rfl
      have k2b := (hS8.below HBX.out.2.1).blk.cell 2 _ rfl
      clear hS8
      refine region_last (S := (fun w' => w'.cell? ⟨gx, 0, none⟩ = some (.slice A0 bs.length c0) ∧ w'.cell? ⟨gx, 2, none⟩ = some vis)) (ds := [15]) (by kernel_rfl) ?_ (fun hHeld => ?_)
      · (try dsimp only); (first | exact ⟨k0, k2⟩ | exact ⟨k0a, k2a⟩ | exact ⟨k0b, k2b⟩ | exact ⟨q0, q2⟩)
      refine lk 0 (v := ?_) rfl (by kernel_rfl) (fun _ _ _ h => h) (by kernel_rfl) hHeld ?_ ?_
      rotate_left
      · (intro w0 hSw; (try dsimp only at hSw); go_simp; (try with_reducible rfl))
      (try simp only [Act.put, List.setIfInBounds_toArray, List.set_cons_zero, List.set_cons_succ])
      refine lk 1 (v := ?_) rfl (by kernel_rfl) (fun _ _ _ h => h) (by kernel_rfl) hHeld ?_ ?_
      rotate_left
      · (intro w0 hSw; (try dsimp only at hSw); go_simp; (try with_reducible rfl))
      (try simp only [Act.put, List.setIfInBounds_toArray, List.set_cons_zero, List.set_cons_succ])
      refine lk 2 (v := ?_) rfl (by kernel_rfl) (fun _ _ _ h => h) (by kernel_rfl) hHeld ?_ ?_
      rotate_left
      · (intro w0 hSw; (try dsimp only at hSw); go_simp; (try with_reducible rfl))
      (try simp only [Act.put, List.setIfInBounds_toArray, List.set_cons_zero, List.set_cons_succ])
      refine lk 3 (v := ?_) rfl (by kernel_rfl) (fun _ _ _ h => h) (by kernel_rfl) hHeld ?_ ?_
      rotate_left
      · (intro w0 hSw; (try dsimp only at hSw); go_simp; (try with_reducible rfl))
      (try simp only [Act.put, List.setIfInBounds_toArray, List.set_cons_zero, List.set_cons_succ])
      refine lk 4 (v := ?_) rfl (by kernel_rfl) (fun _ _ _ h => h) (by kernel_rfl) hHeld ?_ ?_
      rotate_left
      · (intro w0 hSw; (try dsimp only at hSw); go_simp; (try with_reducible rfl))
      (try simp only [Act.put, List.setIfInBounds_toArray, List.set_cons_zero, List.set_cons_succ])
      refine lk 5 (v := ?_) rfl (by kernel_rfl) (fun _ _ _ h => h) (by kernel_rfl) hHeld ?_ ?_
      rotate_left
      · (intro w0 hSw; (try dsimp only at hSw); go_simp; (try with_reducible rfl))
      (try simp only [Act.put, List.setIfInBounds_toArray, List.set_cons_zero, List.set_cons_succ])
      refine lk 6 (v := ?_) rfl (by kernel_rfl) (fun _ _ _ h => h) (by kernel_rfl) hHeld ?_ ?_
      rotate_left
      · (intro w0 hSw; (try dsimp only at hSw); go_simp; (try with_reducible rfl))
      (try simp only [Act.put, List.setIfInBounds_toArray, List.set_cons_zero, List.set_cons_succ])
      refine lk 7 (v := ?_) rfl (by kernel_rfl) (fun _ _ _ h => h) (by kernel_rfl) hHeld ?_ ?_
      rotate_left
      · (intro w0 hSw; (try dsimp only at hSw); go_simp; (try with_reducible rfl))
      (try simp only [Act.put, List.setIfInBounds_toArray, List.set_cons_zero, List.set_cons_succ])
      refine lk 8 (v := ?_) rfl (by kernel_rfl) (fun _ _ _ h => h) (by kernel_rfl) hHeld ?_ ?_
      rotate_left
      · (intro w0 hSw; (try dsimp only at hSw); go_simp; (try with_reducible rfl))
      (try simp only [Act.put, List.setIfInBounds_toArray, List.set_cons_zero, List.set_cons_succ])
      refine lk 9 (v := ?_) rfl (by kernel_rfl) (fun _ _ _ h => h) (by kernel_rfl) hHeld ?_ ?_
      rotate_left
      · (intro w0 hSw; (try dsimp only at hSw); go_simp; (try with_reducible rfl))
      (try simp only [Act.put, List.setIfInBounds_toArray, List.set_cons_zero, List.set_cons_succ])
      refine lr 10 rfl (by kernel_rfl) (by decide) (fun K hK => ?_)
      go_simp
      clear hHeld
      refine hK.out _ _ ?_ (fun hHeld => ?_)
      · (try dsimp only); (first | exact ⟨k0, k2⟩ | exact ⟨k0a, k2a⟩ | exact ⟨k0b, k2b⟩ | exact ⟨q0, q2⟩)
      clear hK K
      (try simp only [Act.put, List.setIfInBounds_toArray, List.set_cons_zero, List.set_cons_succ])
      refine lr 11 rfl (by kernel_rfl) (by decide) (fun K hK => ?_)
      go_simp
      clear hHeld
      refine hK.out _ _ ?_ (fun hHeld => ?_)
      · (try dsimp only); (first | exact ⟨k0, k2⟩ | exact ⟨k0a, k2a⟩ | exact ⟨k0b, k2b⟩ | exact ⟨q0, q2⟩)
      clear hK K
      (try simp only [Act.put, List.setIfInBounds_toArray, List.set_cons_zero, List.set_cons_succ])
      refine lr 12 rfl (by kernel_rfl) (by decide) (fun K hK => ?_)
      (refine step_app_row rfl _ _ 78 73 rfl base 1 8 _ Try.underlying73 infoPu rfl (by decide) vis (upc P) rfl ⟨w8.heap.size + 1, 0, none⟩ 1 rfl (HS8.out.below HBX.out.2.1).ru [Value.pointer (some ⟨w8.heap.size, 0, none⟩)] rfl (by intro u hu; rw [List.mem_singleton.1 hu]; rfl) HBX.out.2.2.2 (by omega) (by omega) (by simp; omega) _ rfl ?_; intro A9 c9 w9 hrow9 hg9 hat9; have hA9 := (HS8.out.below HBX.out.2.1).app_u hrow9 hg9; have q0 := hA9.1.cell 0 _ rfl; have q2 := hA9.1.cell 2 _ rfl; have q1 := hA9.1.free 2; have HZ := Lib.hid (And.intro hA9.2.1 hA9.2.2); clear hA9 hrow9 hg9 hat9)
      clear hHeld
      refine hK.out _ _ ?_ (fun hHeld => ?_)
      · (try dsimp only); (first | exact ⟨k0, k2⟩ | exact ⟨k0a, k2a⟩ | exact ⟨k0b, k2b⟩ | exact ⟨q0, q2⟩)
      clear hK K
      (try simp only [Act.put, List.setIfInBounds_toArray, List.set_cons_zero, List.set_cons_succ])
      refine lk 13 (v := ?_) rfl (by kernel_rfl) (fun _ _ _ h => h) (by kernel_rfl) hHeld ?_ ?_
      rotate_left
      · (intro w0 hSw; (try dsimp only at hSw); go_simp; (try with_reducible rfl))
      (try simp only [Act.put, List.setIfInBounds_toArray, List.set_cons_zero, List.set_cons_succ])
      refine lk 14 (v := ?_) rfl (by kernel_rfl) (fun _ _ _ h => h) (by kernel_rfl) hHeld ?_ ?_
      rotate_left
      · (intro w0 hSw; (try dsimp only at hSw); go_simp; (try with_reducible rfl))
      (try simp only [Act.put, List.setIfInBounds_toArray, List.set_cons_zero, List.set_cons_succ])
      refine ll 15 rfl (by kernel_rfl) (by decide) (fun K hK => ?_)
      go_simp
      (try clear hHeld)
      refine hK.out _ _ ?_
      clear hK K
      (try simp only [Act.put, List.setIfInBounds_toArray, List.set_cons_zero, List.set_cons_succ])
      refine last_done (by kernel_rfl) ?_ _
      clear k0 k2 k0a k2a k0b k2b q0 q1 q2
      go_wp2_with fail
      go_ret
      have hC := HS8.out.below HBX.out.2.1
      have hR8 := HX.out.2.2.1.past HX.out.1.blk HX.out.1.rr (by decide) (by decide) HY.out.2
      have hR9 := (hR8.below HBX.out.2.1).past hC.blk hC.ru (by decide) (by decide) HZ.out.2
      have hU9 := HBX.out.2.2.1.past hC.blk hC.ru (by decide) hbg.1 (Nat.le_refl _) HZ.out.2
      have hsz2 := HS2.out.1.lt
      have hsw := HSZ.out
      have hR10 := HZ.out.1.add ⟨g, A, c, w8.heap.size, 0, 0⟩ ⟨hR9, hU9⟩ w.heap.size (fun q hq => HS.out.P_lt q hq) ⟨by show w.heap.size ≤ g; omega, by show w.heap.size ≤ w8.heap.size; have := hR8.lt; omega⟩
      have hbS : ∀ (v : Value) (t : TypeId) (W : World) (cs : List (List Value)), Row W base t 1 v cs → ∀ k, (k = gx ∨ v.ownBlock = some k) → base ≤ k := fun v t W cs hr k hk => by
        rcases hk with rfl | hk
        · exact hbg.1
        · exact (hr.typed k hk).1
      have hB8 : Below base w w8 := HX.out.2.2.2.trans (HY.out.2.below (hbS _ _ _ _ HX.out.1.rr) (by have := HX.out.1.lt; omega))
      have hBC : Below base w8 _ := HBX.out.2.1.mono (by omega)
      exact ⟨rfl, _, _, ⟨g, A, c, w8.heap.size, 0, 0⟩, by rw [← rpc_snoc, ← upc_snoc]; exact hR10, (hB8.trans hBC).trans (HZ.out.2.below (hbS _ _ _ _ hC.ru) (by have := hC.lt; omega))⟩
end Go.Proofs.Ythdjddpomaendaa.B
