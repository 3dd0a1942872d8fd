/- Cuts of slices; texts as bytes; Clone; gap. -/
import Derived.Test.YthdjddpomaendaaB3
import Derived.Lib.ConvBytes
namespace Go.Proofs.Ythdjddpomaendaa.B
open Go.RowKit
set_option linter.unusedVariables false
set_option linter.unusedSimpArgs false

theorem Rd.drop {w : World} {A : Option Addr} {n c : Nat} {vs : List Value} (h : Rd w A n vs) (i : Nat) (hi : i ≤ n) (hc : n ≤ c) : Rd w (if c = i then A else A.map (·.add i)) (n - i) (vs.drop i) := by
  refine ⟨by rw [List.length_drop, h.1], by have := h.2.1; omega, fun hp => ?_⟩
  obtain ⟨ad, rfl, hcell⟩ := h.2.2 (by omega)
  rw [if_neg (by omega)]
  refine ⟨ad.add i, rfl, fun j u hu => ?_⟩
  have ha : (ad.add i).add j = ad.add (i + j) := by
    unfold Addr.add
    by_cases h1 : i = 0 <;> by_cases h2 : j = 0 <;> simp [h1, h2, Nat.add_assoc]
  rw [ha]
  exact hcell (i + j) u (by rwa [List.getElem?_drop] at hu)
/-- 's[m:]' of a slice of bytes, m an Int. -/
theorem cut_lo (A : Option Addr) (n c : Nat) (m : Int) (h0 : 0 ≤ m) (hm : m ≤ n) (hc : n ≤ c) :
    ∃ A' : Option Addr, (∀ W : World, (Instr.slice 22 (.slice A n c) (some (.int .i64 m)) none none).run Try.prog W = .ok (.slice A' (n - m.toNat) (c - m.toNat)) W) ∧
      ∀ (w : World) (xs : List UInt8), Rd w A n (bvs xs) → Rd w A' (n - m.toNat) (bvs (xs.drop m.toNat)) := by
  obtain ⟨m, rfl⟩ := Int.eq_ofNat_of_zero_le h0
  rw [Int.toNat_natCast]
  have hm' : m ≤ n := by omega
  obtain ⟨i0, hi, hzz⟩ := Option.map_eq_some_iff.1 info5
  simp only [Prod.mk.injEq] at hzz
  obtain ⟨hz0, hz1, hz2⟩ := hzz
  refine ⟨if c = m then A else A.map (·.add m), fun W => ?_, fun w xs h => by rw [bvs_drop]; exact h.drop m hm' hc⟩
  have ht := Try.underlying22
  have hel : Try.prog.elem 22 = 5 := by simp [Program.elem, ht]
  have hu : Try.prog.underlying 22 = some (.slice (Try.prog.elem 22)) := by rw [hel]; exact ht
  rw [run_slice_l W 22 A n c hu .i64 (m : Int) (Int.natCast_nonneg _) (by omega), hel]
  simp [sizeOf, typeInfo, hi, hz1, sliced, Result.andThen]

/-- A text's bytes. -/
def sb (s : ByteArray) : List UInt8 := s.data.toList
theorem sb_length (s : ByteArray) : (sb s).length = s.size := by unfold sb; rw [Array.length_toList]; rfl
/-- Laid ahead of a walk: '[]byte(s)'. -/
theorem conv_bytes (s : ByteArray) (W : World) : (convert 9 22 (.string s)).run Try.prog W = .ok (.slice (some ⟨W.heap.size, 0, none⟩) s.size (grownCap W s.size 0 5)) (Lib.bytesWorld W 5 s) :=
  Lib.run_convert_string_bytes W 9 22 5 s Try.underlying9 Try.underlying22 Try.underlying5
theorem conv_rd (W : World) (s : ByteArray) (hs : s.size ≤ 9223372036854775807) : Rd (Lib.bytesWorld W 5 s) (some ⟨W.heap.size, 0, none⟩) s.size (bvs (sb s)) := by
  refine ⟨by rw [bvs_length, sb_length], hs, fun _ => ⟨_, rfl, fun j u hu => ?_⟩⟩
  have hj : j < s.size := by have := (List.getElem?_eq_some_iff.1 hu).1; rw [bvs_length, sb_length] at this; exact this
  have h' : j < (sb s).length := by rw [sb_length]; exact hj
  rw [add_lit, Nat.zero_add, Lib.bytesWorld_cell W 5 s j hj]
  rw [bvs_get _ _ h'] at hu
  rw [← hu, List.getD_eq_getElem?_getD, List.getElem?_eq_getElem (show j < s.data.toList.length from h')]
  rfl
theorem conv_below {B : Nat} {w W : World} (h : Below B w W) (hB : B ≤ W.heap.size) (s : ByteArray) : Below B w (Lib.bytesWorld W 5 s) :=
  h.trans ⟨rfl, rfl, rfl, by rw [Lib.bytesWorld_size]; omega, fun i hi => Lib.bytesWorld_at_old W 5 s i (by omega)⟩

/-- How many bytes are wanted up to a multiple. -/
def gapN (a al : Nat) : Nat := (al - a % al) % al
theorem gapN_lt (a al : Nat) (h : 0 < al) : gapN a al < al := Nat.mod_lt _ h
set_option maxHeartbeats 800000 in
set_option maxRecDepth 100000 in
theorem gap_ (a al : Nat) (x : Int) (w : World) (hx : x = (al : Int)) (h0 : 1 ≤ al) (h1 : al ≤ 4096) (ha : a ≤ 9223372036854775807) :
    Calls Try.prog 93 #[.int .i64 (a : Int), .int .i64 x] w fun e w' => e = .returned (.int .i64 ((gapN a al : Nat) : Int)) ∧ w' = w := by
  subst hx
  have hb := Nat.mod_lt a h0
  have e1 : (((al - a % al) % al : Nat) : Int) = ((al : Int) - (a : Int) % (al : Int)) % (al : Int) := by
    rw [Int.natCast_emod, Int.natCast_sub (Nat.le_of_lt hb), Int.natCast_emod]
  have E1 := Lib.hid e1
  clear e1
  have h2 : 0 ≤ (a : Int) % (al : Int) := Int.emod_nonneg _ (by omega)
  have h3 : (a : Int) % (al : Int) < al := Int.emod_lt_of_pos _ (by omega)
  go_enter Try.func93, Try.ntmps93
  go_wp2
  go_ret
  exact ⟨ret_int (by unfold gapN; rw [E1.out]), rfl⟩

set_option maxHeartbeats 800000 in
set_option maxRecDepth 100000 in
/-- slices.Clone: nil, or a row of the call's own. -/
theorem clone_ (A : Option Addr) (n c : Nat) (xs : List UInt8) (w : World) (hr : Rd w A n (bvs xs)) (hn : n ≤ 140737488355328) :
    Calls Try.prog 85 #[.slice A n c] w fun e w' => ∃ A' c', e = .returned (.slice A' n c') ∧ Own w' w.heap.size (.slice A' n c') xs ∧ Below w.heap.size w w' := by
  have hl := hr.len
  have hq := @Lib.run_eql_slice_nil Try.prog
  rcases A with _ | ad
  · have h0 : n = 0 := by
      rcases Nat.eq_zero_or_pos n with h0 | h0
      · exact h0
      · obtain ⟨ad, h, _⟩ := hr.2.2 h0
        cases h
    subst h0
    obtain rfl : xs = [] := List.eq_nil_of_length_eq_zero hl
    go_enter Try.func85, Try.ntmps85
    go_wp2_with fail
    go_ret
    exact ⟨none, 0, rfl, Own.nil _ _, Below.refl _ _⟩
  · have hO : Own (w.alloc (.cells #[] 5)) w.heap.size (.slice (some ⟨w.heap.size, 0, none⟩) 0 0) [] := Own.of_blk (xs := []) (rest := []) (Blk.new w [] 5) (Nat.le_refl _) rfl (Nat.le_refl _) (by omega)
    go_enter Try.func85, Try.ntmps85
    go_wp2_with ((with_reducible refine at_builtin_ (b := .append) rfl ?_); go_must (refine app_u8 rfl _ _ rfl w.heap.size (.slice (some ⟨w.heap.size, 0, none⟩) 0 0) [] (some ad) n c xs rfl rfl hO (hr.alloc _) (by simp) n (Nat.zero_add _) (by omega) w.heap.size w (below_alloc (Below.refl _ _) _) (Nat.le_refl _) ?_); intro A1 c1 w1 hO1 hb1 _ _)
    go_ret
    exact ⟨A1, c1, rfl, by simpa using hO1, hb1⟩

/-- A text out of bytes. -/
def mkS (l : List UInt8) : ByteArray := ⟨l.toArray⟩
theorem sb_mkS (l : List UInt8) : sb (mkS l) = l := by simp [sb, mkS]
theorem mkS_sb (s : ByteArray) : mkS (sb s) = s := by simp [sb, mkS]
theorem mkS_size (l : List UInt8) : (mkS l).size = l.length := by rw [← sb_length, sb_mkS]
set_option maxRecDepth 100000 in
/-- Laid ahead of a walk: 'string(b)'. -/
theorem conv_string {w : World} {A : Option Addr} {n c : Nat} {xs : List UInt8} (h : Rd w A n (bvs xs)) : (convert 22 9 (.slice A n c)).run Try.prog w = .ok (.string (mkS xs)) w := by
  have hs := Try.underlying22
  have he := Try.underlying5
  have hd := Try.underlying9
  have hl := h.len
  rcases A with _ | ad
  · have h0 : n = 0 := by
      rcases Nat.eq_zero_or_pos n with h0 | h0
      · exact h0
      · obtain ⟨ad, h, _⟩ := h.2.2 h0
        cases h
    subst h0
    obtain rfl : xs = [] := List.eq_nil_of_length_eq_zero hl
    exact run_convert_bytes_nil w 22 5 hs he 0 c 9 hd
  · have hc : (loadCells ad n).run Try.prog w = .ok ((xs.map fun b => (b.toNat : Int)).map (Value.int .u8)).toArray w := by
      have h2 := run_loadCells_list (P := Try.prog) w ad (bvs xs) (fun j v hj => by
        obtain ⟨ad', e, hc⟩ := h.at_ j v hj
        injection e with e
        subst e
        exact hc)
      rw [bvs_length, hl] at h2
      rw [h2, List.map_map]
      rfl
    rw [run_convert_bytes_string w 22 9 5 (some ad) n c hs he hd, run_bytesToString w ad n c (xs.map fun b => (b.toNat : Int)) hc, foldl_push_bytes, List.map_map]
    have hf : ((fun n : Int => UInt8.ofNat n.toNat) ∘ fun b : UInt8 => (b.toNat : Int)) = id := by
      funext b
      simp
    rw [hf, List.map_id]
    simp [mkS, ByteArray.empty, ByteArray.emptyWithCapacity]
    rfl
end Go.Proofs.Ythdjddpomaendaa.B
