/- The bodies of a close world are fine, slow, may be. The walk of ContactMade. -/
import Derived.Test.YtdphhkbbphfjlaaCWldE
import Derived.Test.YtdphhkbbphfjlaaCWldK
import Derived.Test.YtdphhkbbphfjlaaCLwA
namespace Go.Proofs.Ytdphhkbbphfjlaa
set_option linter.unusedVariables false
set_option linter.unusedSimpArgs false
open Go.RowKit
theorem R_mid2 {x : Int} (h0 : -10000000000000000000000000000 ≤ x) (h1 : x ≤ 10000000000000000000000000000) : R x := by unfold R; omega
theorem tmod4 (x : Int) : -3 ≤ Int.tmod x 4 ∧ Int.tmod x 4 ≤ 3 := by
  rcases Int.le_total 0 x with h | h
  · rw [Int.tmod_eq_emod_of_nonneg h]; omega
  · have e : Int.tmod (-x) 4 = (-x) % 4 := Int.tmod_eq_emod_of_nonneg (by omega)
    rw [Int.neg_tmod] at e
    omega
theorem close_fine {a b c d : Int} (ha : 0 ≤ a ∧ a ≤ 255) (hb : 0 ≤ b ∧ b ≤ 255) (hc : 0 ≤ c ∧ c ≤ 255) (hd : 0 ≤ d ∧ d ≤ 255) :
    (∃ m x y, Fine (closeB (bodyN a b c d)) m x y) ∧ Slow4 (closeB (bodyN a b c d)) ∧ MayN (closeB (bodyN a b c d)) := by
  have hx : hi (val (a - 128) (b * 72057594037927936)) = a - 128 := hi_val (by unfold W64; omega)
  have lx : lo (val (a - 128) (b * 72057594037927936)) = b * 72057594037927936 := lo_val (by unfold W64; omega)
  have hy : hi (val (b - 128) (c * 1099511627776)) = b - 128 := hi_val (by unfold W64; omega)
  have ly : lo (val (b - 128) (c * 1099511627776)) = c * 1099511627776 := lo_val (by unfold W64; omega)
  have tx : -3 ≤ Int.tmod (a - 128) 4 ∧ Int.tmod (a - 128) 4 ≤ 3 := tmod4 _
  have ty : -3 ≤ Int.tmod (b - 128) 4 ∧ Int.tmod (b - 128) 4 ≤ 3 := tmod4 _
  have ex : (closeB (bodyN a b c d)).x = val (Int.tmod (a - 128) 4) (b * 72057594037927936) := by
    show val (Int.tmod (hi (val (a - 128) (b * 72057594037927936))) 4) (lo (val (a - 128) (b * 72057594037927936))) = _
    rw [hx, lx]
  have ey : (closeB (bodyN a b c d)).y = val (Int.tmod (b - 128) 4) (c * 1099511627776) := by
    show val (Int.tmod (hi (val (b - 128) (c * 1099511627776))) 4) (lo (val (b - 128) (c * 1099511627776))) = _
    rw [hy, ly]
  generalize Int.tmod (a - 128) 4 = u at *
  generalize Int.tmod (b - 128) 4 = v at *
  have em : (closeB (bodyN a b c d)).mass = val (1 + c % 9) 0 := rfl
  have er : (closeB (bodyN a b c d)).radius = val (d % 3) 4611686018427387904 := rfl
  have ep : (closeB (bodyN a b c d)).px = val (d % 7 - 3) a := rfl
  have eq : (closeB (bodyN a b c d)).py = val (c % 5 - 2) (d % 16 * 1152921504606846976) := rfl
  have ef : (closeB (bodyN a b c d)).fuel = d * 1125899906842624 := rfl
  unfold val at ex ey em er ep eq
  refine ⟨⟨1 + c % 9, u * 16777216 + b * 65536, v * 16777216 + c, ⟨by omega, by omega, em, by rw [ex]; omega, by rw [ey]; omega, by omega, by omega, by rw [er]; omega⟩⟩, ⟨by rw [ep]; omega, by rw [eq]; omega⟩, ⟨?_, ?_, ?_, ?_, ?_, ?_, ?_⟩⟩
  · rw [em]; exact R_mid2 (by omega) (by omega)
  · rw [er]; exact R_mid2 (by omega) (by omega)
  · rw [ex]; exact R_mid2 (by omega) (by omega)
  · rw [ey]; exact R_mid2 (by omega) (by omega)
  · rw [ep]; exact R_mid2 (by omega) (by omega)
  · rw [eq]; exact R_mid2 (by omega) (by omega)
  · rw [ef]; exact R_mid2 (by omega) (by omega)
theorem closeN_length (zs : List Int) (n : Nat) : (closeTo (bodiesN zs n) n).length = n := by rw [closeTo_length, bodiesN_length]
theorem closeN_all {zs : List Int} (hr : ∀ i, 0 ≤ zs.getD i 0 ∧ zs.getD i 0 ≤ 255) (n : Nat) : ∀ b ∈ closeTo (bodiesN zs n) n, (∃ m x y, Fine b m x y) ∧ Slow4 b ∧ MayN b := by
  intro b hb
  have e : closeTo (bodiesN zs n) n = (bodiesN zs n).map closeB := by
    unfold closeTo
    rw [List.take_of_length_le (by rw [bodiesN_length]; exact Nat.le_refl _), List.drop_eq_nil_of_le (by rw [bodiesN_length]; exact Nat.le_refl _), List.append_nil]
  rw [e] at hb
  obtain ⟨c, hc, rfl⟩ := List.mem_map.1 hb
  unfold bodiesN at hc
  obtain ⟨t, _, rfl⟩ := List.mem_map.1 hc
  exact close_fine (hr _) (hr _) (hr _) (hr _)
/-- all blows of a close world: no error -/
theorem close_all {zs : List Int} (hr : ∀ i, 0 ≤ zs.getD i 0 ∧ zs.getD i 0 ≤ 255) {n : Nat} (hn : n ≤ 10) {h : Int} (hh : 0 ≤ h ∧ h ≤ 255) :
    ∃ st, outerX (h % 4 * 4611686018427387904) n n 0 (closeTo (bodiesN zs n) n, []) = .ok st ∧ FineL st.1 ∧ Kept (closeTo (bodiesN zs n) n, []) st ∧ ∃ a b, Met n a b st.2 := by
  have hl := closeN_length zs n
  obtain ⟨st, h1, h2, h3, h4⟩ := all_fine (k := h % 4 * 4611686018427387904) (l := closeTo (bodiesN zs n) n) (by omega) (by rw [hl]; exact hn) (fun b hb => (closeN_all hr n b hb).1) (fun b hb => (closeN_all hr n b hb).2.1)
  unfold allX at h1
  rw [hl] at h1 h4
  exact ⟨st, h1, h2, h3, h4⟩
end Go.Proofs.Ytdphhkbbphfjlaa
namespace Go.Proofs.Ytdphhkbbphfjlaa
set_option linter.unusedVariables false
set_option linter.unusedSimpArgs false
open Go.RowKit
attribute [local go_sem] uwrap_lo lo_lo hi_lo val_hl val_00 v4_q
attribute [local go_sem ↓] Go.wp_at_zero Go.wp_at_succ
attribute [local go_sem] nOf_ok nOf_err eOf_ok eOf_err xOf_ok yOf_ok xOf_err yOf_err vecX_ok vecX_err vecX_ok_err hi_z lo_z okB_ok okB_err hitV_some hitV_none hitV_err hitB_some hitB_none hitB_err
attribute [local go_sem ↓] loadRow_body
attribute [local go_sem] rowAt_at rowAt_past rowAt_drew rowAt_far run_load_body row_0_0 row_0_1 row_0_2 row_0_3 row_0_4 row_0_5 row_1_0 row_1_1 row_1_2 row_1_3 row_1_4 row_2_0 row_2_1 row_2_2 row_2_3
attribute [local go_sem ↓] storeRow_body loadVar_body
attribute [local go_sem] run_loadV_body rowAt_same run_store_body row0_at row0_past row0_drew row0_far row0_rowfar rowAt_rowfar setRow_a2 setRow_b2 setRow_alloc cell_setRow_far frozen_setRow_far allOne_nil allOne_int allOne_bool allOne_slice
attribute [local go_sem ↓] loadRow_world storeRow_world loadVar_world
attribute [local go_sem] run_load_world run_store_world run_loadV_world range_alloc_iff range_drew_iff range_set_iff
attribute [local go_sem ↓] loadRow_touched storeRow_touched loadVar_touched
attribute [local go_sem] run_load_touched run_store_touched run_loadV_touched
theorem range_blk {w : World} {b : Nat} {cs : Array Value} {t : TypeId} {l : List Value} (h : blk w b = some (.cells cs t (0, 0))) (hl : ∀ (j : Nat) (v : Value), l[j]? = some v → cs[j]? = some v) : w.rangeAt b 0 l := by
  intro j v hv
  rw [Nat.zero_add, blk_cell h]
  exact hl j v hv
theorem few_inner {k : Int} {i : Nat} : ∀ (c j : Nat) (st s : List BodyI × List (Nat × Nat)), innerX k i c j st = .ok s → s.2.length ≤ st.2.length + c
  | 0, j, st, s, h => by injection h with h; subst h; exact Nat.le_refl _
  | c + 1, j, st, s, h => by
    unfold innerX at h
    cases hs : stepX k st i j with
    | error e => rw [hs, bind_err] at h; cases h
    | ok s1 =>
      rw [hs, bind_ok] at h
      have h1 := few_inner c (j + 1) s1 s h
      have h2 : s1.2.length ≤ st.2.length + 1 := by
        rcases step_parts hs with ⟨_, rfl⟩ | ⟨J, p, q, _, _, _, rfl⟩
        · omega
        · show (st.2 ++ [(i, j)]).length ≤ _; rw [List.length_append]; simp
      omega
theorem few_outer {k : Int} {n : Nat} : ∀ (c i : Nat) (st s : List BodyI × List (Nat × Nat)), outerX k n c i st = .ok s → s.2.length ≤ st.2.length + c * n
  | 0, i, st, s, h => by injection h with h; subst h; omega
  | c + 1, i, st, s, h => by
    unfold outerX at h
    cases hs : innerX k i (n - 1 - i) (i + 1) st with
    | error e => rw [hs, bind_err] at h; cases h
    | ok s1 =>
      rw [hs, bind_ok] at h
      have h1 := few_outer c (i + 1) s1 s h
      have h2 := few_inner _ _ _ _ hs
      rw [Nat.succ_mul]
      omega
theorem ones_flat : ∀ n : Nat, List.replicate n (Value.int .i64 (-1)) = (List.replicate n (-1 : Int)).flatMap intL
  | 0 => rfl
  | n + 1 => by rw [List.replicate_succ, List.replicate_succ, List.flatMap_cons, ← ones_flat n]; rfl
theorem run_load_world_mid {W : World} {g o : Nat} (cs : List Value) (hc : cs.length = 24) (h : W.rangeAt g o cs) : (loadRow 66 (.pointer (some ⟨g, o, none⟩))).run Try.prog W = .ok (.agg cs.toArray) W := by
  have hi : (Try.prog.info? 66).map (fun i => i.size) = some 24 := by kernel_rfl
  rw [← loadRow_eq]
  exact run_loadAt_mid W g o 66 cs _ h Try.underlying66 rfl (by rw [hc]; exact hi)
set_option maxRecDepth 100000 in
set_option maxHeartbeats 8000000 in
theorem l17_made (ad : Option Addr) (b off len cap : Nat) (zs : List Int) (h : Int) (w : World) (had : 4 ≤ len → ad = some ⟨b, off, none⟩ ∧ b < w.heap.size ∧ ∀ i, i < len → w.cell? ⟨b, off + i, none⟩ = some (.int .u8 (zs.getD i 0))) (hr : ∀ i, 0 ≤ zs.getD i 0 ∧ zs.getD i 0 ≤ 255)
    (hlen : len ≤ 9223372036854775807) (hh : 0 ≤ h ∧ h ≤ 255) (n : Nat) (hn1 : n ≤ 10) (hn2 : 4 * n ≤ len) (hn3 : n = 10 ∨ len < 4 * n + 4) :
    Calls Try.prog 6 #[.slice ad len cap, .int .u8 h] w fun e w' => e = .returned (.bool true) ∧ Below w.heap.size w w' := by
  obtain ⟨st, hall, hfin, hkept, mi, mj, hmet⟩ := close_all hr hn1 hh
  have Jfew := Lib.hid (few_outer _ _ _ _ hall)
  have hl := closeN_length zs n
  have hmay := fun b hb => (closeN_all hr n b hb).2.2
  have hlst : st.1.length = n := by rw [hkept.len]; exact hl
  obtain ⟨l, hle⟩ : ∃ l, closeTo (bodiesN zs n) n = l := ⟨_, rfl⟩
  rw [hle] at hall hl hmay
  have Hle := Lib.hid hle
  have Hall := Lib.hid hall
  have Hl := Lib.hid hl
  have Hst := Lib.hid hlst
  have Hmay := Lib.hid hmay
  have Had := Lib.hid had
  have Hr := Lib.hid hr
  have Hn3 := Lib.hid hn3
  clear hmet hfin hkept hle hall hl hlst hmay had hr hn3
  go_enter Try.func6, Try.ntmps6
  go_upto_region 2 with (go_at_call 27; refine (l17_Close ad b off len cap zs 10 h _ Had.out Hr.out hlen (by omega) hh n hn1 hn2 Hn3.out).mono ?_; rintro e u1 ⟨vb, va, rfl, hob, hoa, ho, _, _⟩; rw [Hle.out] at hob; obtain ⟨ab, cb, rfl⟩ := owns_form hob; obtain ⟨aa, ca, rfl⟩ := owns_form hoa; have Hob := Lib.hid hob; have Hoa := Lib.hid hoa; clear hob hoa; have hzu1 := Below.size ho; (try simp at hzu1); have HB2 : Hid (Below w.heap.size w u1) := Lib.hid (Below.trans (by exact pBl) (Below.mono ho pSd)); (try clear HB); have HB := HB2; clear HB2; clear ho)
  have e_y : blk (u1.alloc (.cells #[.int .i64 0, .int .i64 0, .int .u64 1152921504606846976, .int .i64 (1 + h % 3), .int .u64 0, .int .i64 0, .int .u64 4611686018427387904, .int .i64 0, .int .u64 (h * 72057594037927936), .int .i64 0, .int .u64 (h % 4 * 4611686018427387904), .int .i64 (h / 4 % 2), .int .i64 (h / 8 % 2), .slice ab n cb, .slice none 0 0, .slice none 0 0, .slice aa n ca, .int .i64 0, .int .u64 0, .int .i64 0, .int .u64 0, .int .i64 0, .int .u64 0, .slice none 0 0] 66)) (u1.heap.size) = some (.cells #[.int .i64 0, .int .i64 0, .int .u64 1152921504606846976, .int .i64 (1 + h % 3), .int .u64 0, .int .i64 0, .int .u64 4611686018427387904, .int .i64 0, .int .u64 (h * 72057594037927936), .int .i64 0, .int .u64 (h % 4 * 4611686018427387904), .int .i64 (h / 4 % 2), .int .i64 (h / 8 % 2), .slice ab n cb, .slice none 0 0, .slice none 0 0, .slice aa n ca, .int .i64 0, .int .u64 0, .int .i64 0, .int .u64 0, .int .i64 0, .int .u64 0, .slice none 0 0] 66 (0, 0)) := by ((try simp (disch := first | omega | (simp; done) | (simp; omega)) only [pBk]); first | done | with_reducible rfl | with_reducible exact Hid.out (by assumption) | (with_reducible rw [Hid.out B_zz]; (try simp only [pBk]); first | done | with_reducible rfl))
  have hb_ : Below w.heap.size w (u1.alloc (.cells #[.int .i64 0, .int .i64 0, .int .u64 1152921504606846976, .int .i64 (1 + h % 3), .int .u64 0, .int .i64 0, .int .u64 4611686018427387904, .int .i64 0, .int .u64 (h * 72057594037927936), .int .i64 0, .int .u64 (h % 4 * 4611686018427387904), .int .i64 (h / 4 % 2), .int .i64 (h / 8 % 2), .slice ab n cb, .slice none 0 0, .slice none 0 0, .slice aa n ca, .int .i64 0, .int .u64 0, .int .i64 0, .int .u64 0, .int .i64 0, .int .u64 0, .slice none 0 0] 66)) := by exact pBl
  have hLB : u1.heap.size + 1 ≤ (u1.alloc (.cells #[.int .i64 0, .int .i64 0, .int .u64 1152921504606846976, .int .i64 (1 + h % 3), .int .u64 0, .int .i64 0, .int .u64 4611686018427387904, .int .i64 0, .int .u64 (h * 72057594037927936), .int .i64 0, .int .u64 (h % 4 * 4611686018427387904), .int .i64 (h / 4 % 2), .int .i64 (h / 8 % 2), .slice ab n cb, .slice none 0 0, .slice none 0 0, .slice aa n ca, .int .i64 0, .int .u64 0, .int .i64 0, .int .u64 0, .int .i64 0, .int .u64 0, .slice none 0 0] 66)).heap.size := by simp
  have Hob1 := Lib.hid (Hob.out.alloc (.cells #[.int .i64 0, .int .i64 0, .int .u64 1152921504606846976, .int .i64 (1 + h % 3), .int .u64 0, .int .i64 0, .int .u64 4611686018427387904, .int .i64 0, .int .u64 (h * 72057594037927936), .int .i64 0, .int .u64 (h % 4 * 4611686018427387904), .int .i64 (h / 4 % 2), .int .i64 (h / 8 % 2), .slice ab n cb, .slice none 0 0, .slice none 0 0, .slice aa n ca, .int .i64 0, .int .u64 0, .int .i64 0, .int .u64 0, .int .i64 0, .int .u64 0, .slice none 0 0] 66))
  have Hoa1 := Lib.hid (Hoa.out.alloc (.cells #[.int .i64 0, .int .i64 0, .int .u64 1152921504606846976, .int .i64 (1 + h % 3), .int .u64 0, .int .i64 0, .int .u64 4611686018427387904, .int .i64 0, .int .u64 (h * 72057594037927936), .int .i64 0, .int .u64 (h % 4 * 4611686018427387904), .int .i64 (h / 4 % 2), .int .i64 (h / 8 % 2), .slice ab n cb, .slice none 0 0, .slice none 0 0, .slice aa n ca, .int .i64 0, .int .u64 0, .int .i64 0, .int .u64 0, .int .i64 0, .int .u64 0, .slice none 0 0] 66))
  generalize (u1.alloc (.cells #[.int .i64 0, .int .i64 0, .int .u64 1152921504606846976, .int .i64 (1 + h % 3), .int .u64 0, .int .i64 0, .int .u64 4611686018427387904, .int .i64 0, .int .u64 (h * 72057594037927936), .int .i64 0, .int .u64 (h % 4 * 4611686018427387904), .int .i64 (h / 4 % 2), .int .i64 (h / 8 % 2), .slice ab n cb, .slice none 0 0, .slice none 0 0, .slice aa n ca, .int .i64 0, .int .u64 0, .int .i64 0, .int .u64 0, .int .i64 0, .int .u64 0, .slice none 0 0] 66)) = wx1 at *
  (try clear HB); have HB := Lib.hid hb_; clear hb_
  (try clear c_y); (try clear f_y r_y B_y); obtain ⟨c_y, f_y, l_y, r_y, B_y⟩ := blk_all e_y; clear e_y
  have nywx1 : ¬ (u1.heap.size = wx1.heap.size) := by omega
  clear Hob Hoa Had Hr
  have hz1 : w.heap.size ≤ wx1.heap.size := by omega
  go_upto_region 3 with (go_at_call 28; refine (contact_All l h ab aa n cb ca _ Hl.out hn1 hh Hmay.out st Hall.out Hob1.out Hoa1.out).mono ?_; rintro e u2 ⟨vb2, va2, vo2, rfl, hob2, hoa2, hoo2, ho⟩; obtain ⟨ab2, cb2, rfl⟩ := owns_form hob2; obtain ⟨aa2, ca2, rfl⟩ := owns_form hoa2; obtain ⟨ao2, co2, rfl⟩ := owns_form hoo2; have Hob2 := Lib.hid hob2; have Hoa2 := Lib.hid hoa2; have Hoo2 := Lib.hid hoo2; clear hob2 hoa2 hoo2; have Hob3 := Lib.hid (owns_below Hob1.out ho); have Hoa3 := Lib.hid (owns_below Hoa1.out ho); have hzu2 := Below.size ho; (try simp at hzu2); have HB2 : Hid (Below w.heap.size w u2) := Lib.hid (Below.trans (by exact pBl) (Below.mono ho pSd)); (try clear HB); have HB := HB2; clear HB2; have B2 := blk_below (g := u1.heap.size) ho pSd; (try simp (disch := first | omega | (simp; done) | (simp; omega)) only [pBk] at B2); (try rw [Hid.out B_y] at B2); (try simp only [pBk] at B2); (try clear c_y f_y r_y B_y); obtain ⟨c_y, f_y, l_u2_y, r_y, B_y⟩ := blk_all B2; clear B2; clear ho)
  have e_y : blk (u2.alloc (.cells #[.int .i64 0, .int .i64 0, .int .u64 1152921504606846976, .int .i64 (1 + h % 3), .int .u64 0, .int .i64 0, .int .u64 4611686018427387904, .int .i64 0, .int .u64 (h * 72057594037927936), .int .i64 0, .int .u64 (h % 4 * 4611686018427387904), .int .i64 (h / 4 % 2), .int .i64 (h / 8 % 2), .slice ab2 n cb2, .slice none 0 0, .slice none 0 0, .slice aa2 n ca2, .int .i64 0, .int .u64 0, .int .i64 0, .int .u64 0, .int .i64 0, .int .u64 0, .slice none 0 0] 66)) (u1.heap.size) = some (.cells #[.int .i64 0, .int .i64 0, .int .u64 1152921504606846976, .int .i64 (1 + h % 3), .int .u64 0, .int .i64 0, .int .u64 4611686018427387904, .int .i64 0, .int .u64 (h * 72057594037927936), .int .i64 0, .int .u64 (h % 4 * 4611686018427387904), .int .i64 (h / 4 % 2), .int .i64 (h / 8 % 2), .slice ab n cb, .slice none 0 0, .slice none 0 0, .slice aa n ca, .int .i64 0, .int .u64 0, .int .i64 0, .int .u64 0, .int .i64 0, .int .u64 0, .slice none 0 0] 66 (0, 0)) := by ((try simp (disch := first | omega | (simp; done) | (simp; omega)) only [pBk]); first | done | with_reducible rfl | with_reducible exact Hid.out (by assumption) | (with_reducible rw [Hid.out B_y]; (try simp only [pBk]); first | done | with_reducible rfl))
  have e_x : blk (u2.alloc (.cells #[.int .i64 0, .int .i64 0, .int .u64 1152921504606846976, .int .i64 (1 + h % 3), .int .u64 0, .int .i64 0, .int .u64 4611686018427387904, .int .i64 0, .int .u64 (h * 72057594037927936), .int .i64 0, .int .u64 (h % 4 * 4611686018427387904), .int .i64 (h / 4 % 2), .int .i64 (h / 8 % 2), .slice ab2 n cb2, .slice none 0 0, .slice none 0 0, .slice aa2 n ca2, .int .i64 0, .int .u64 0, .int .i64 0, .int .u64 0, .int .i64 0, .int .u64 0, .slice none 0 0] 66)) (u2.heap.size) = some (.cells #[.int .i64 0, .int .i64 0, .int .u64 1152921504606846976, .int .i64 (1 + h % 3), .int .u64 0, .int .i64 0, .int .u64 4611686018427387904, .int .i64 0, .int .u64 (h * 72057594037927936), .int .i64 0, .int .u64 (h % 4 * 4611686018427387904), .int .i64 (h / 4 % 2), .int .i64 (h / 8 % 2), .slice ab2 n cb2, .slice none 0 0, .slice none 0 0, .slice aa2 n ca2, .int .i64 0, .int .u64 0, .int .i64 0, .int .u64 0, .int .i64 0, .int .u64 0, .slice none 0 0] 66 (0, 0)) := by ((try simp (disch := first | omega | (simp; done) | (simp; omega)) only [pBk]); first | done | with_reducible rfl | with_reducible exact Hid.out (by assumption) | (with_reducible rw [Hid.out B_y]; (try simp only [pBk]); first | done | with_reducible rfl))
  have hb_ : Below w.heap.size w (u2.alloc (.cells #[.int .i64 0, .int .i64 0, .int .u64 1152921504606846976, .int .i64 (1 + h % 3), .int .u64 0, .int .i64 0, .int .u64 4611686018427387904, .int .i64 0, .int .u64 (h * 72057594037927936), .int .i64 0, .int .u64 (h % 4 * 4611686018427387904), .int .i64 (h / 4 % 2), .int .i64 (h / 8 % 2), .slice ab2 n cb2, .slice none 0 0, .slice none 0 0, .slice aa2 n ca2, .int .i64 0, .int .u64 0, .int .i64 0, .int .u64 0, .int .i64 0, .int .u64 0, .slice none 0 0] 66)) := by exact pBl
  have hLB : u2.heap.size + 1 ≤ (u2.alloc (.cells #[.int .i64 0, .int .i64 0, .int .u64 1152921504606846976, .int .i64 (1 + h % 3), .int .u64 0, .int .i64 0, .int .u64 4611686018427387904, .int .i64 0, .int .u64 (h * 72057594037927936), .int .i64 0, .int .u64 (h % 4 * 4611686018427387904), .int .i64 (h / 4 % 2), .int .i64 (h / 8 % 2), .slice ab2 n cb2, .slice none 0 0, .slice none 0 0, .slice aa2 n ca2, .int .i64 0, .int .u64 0, .int .i64 0, .int .u64 0, .int .i64 0, .int .u64 0, .slice none 0 0] 66)).heap.size := by simp
  have Hob4 := Lib.hid (Hob2.out.alloc (.cells #[.int .i64 0, .int .i64 0, .int .u64 1152921504606846976, .int .i64 (1 + h % 3), .int .u64 0, .int .i64 0, .int .u64 4611686018427387904, .int .i64 0, .int .u64 (h * 72057594037927936), .int .i64 0, .int .u64 (h % 4 * 4611686018427387904), .int .i64 (h / 4 % 2), .int .i64 (h / 8 % 2), .slice ab2 n cb2, .slice none 0 0, .slice none 0 0, .slice aa2 n ca2, .int .i64 0, .int .u64 0, .int .i64 0, .int .u64 0, .int .i64 0, .int .u64 0, .slice none 0 0] 66))
  have Hoa4 := Lib.hid (Hoa2.out.alloc (.cells #[.int .i64 0, .int .i64 0, .int .u64 1152921504606846976, .int .i64 (1 + h % 3), .int .u64 0, .int .i64 0, .int .u64 4611686018427387904, .int .i64 0, .int .u64 (h * 72057594037927936), .int .i64 0, .int .u64 (h % 4 * 4611686018427387904), .int .i64 (h / 4 % 2), .int .i64 (h / 8 % 2), .slice ab2 n cb2, .slice none 0 0, .slice none 0 0, .slice aa2 n ca2, .int .i64 0, .int .u64 0, .int .i64 0, .int .u64 0, .int .i64 0, .int .u64 0, .slice none 0 0] 66))
  have Hoo4 := Lib.hid (Hoo2.out.alloc (.cells #[.int .i64 0, .int .i64 0, .int .u64 1152921504606846976, .int .i64 (1 + h % 3), .int .u64 0, .int .i64 0, .int .u64 4611686018427387904, .int .i64 0, .int .u64 (h * 72057594037927936), .int .i64 0, .int .u64 (h % 4 * 4611686018427387904), .int .i64 (h / 4 % 2), .int .i64 (h / 8 % 2), .slice ab2 n cb2, .slice none 0 0, .slice none 0 0, .slice aa2 n ca2, .int .i64 0, .int .u64 0, .int .i64 0, .int .u64 0, .int .i64 0, .int .u64 0, .slice none 0 0] 66))
  have Hob5 := Lib.hid (Hob3.out.alloc (.cells #[.int .i64 0, .int .i64 0, .int .u64 1152921504606846976, .int .i64 (1 + h % 3), .int .u64 0, .int .i64 0, .int .u64 4611686018427387904, .int .i64 0, .int .u64 (h * 72057594037927936), .int .i64 0, .int .u64 (h % 4 * 4611686018427387904), .int .i64 (h / 4 % 2), .int .i64 (h / 8 % 2), .slice ab2 n cb2, .slice none 0 0, .slice none 0 0, .slice aa2 n ca2, .int .i64 0, .int .u64 0, .int .i64 0, .int .u64 0, .int .i64 0, .int .u64 0, .slice none 0 0] 66))
  have Hoa5 := Lib.hid (Hoa3.out.alloc (.cells #[.int .i64 0, .int .i64 0, .int .u64 1152921504606846976, .int .i64 (1 + h % 3), .int .u64 0, .int .i64 0, .int .u64 4611686018427387904, .int .i64 0, .int .u64 (h * 72057594037927936), .int .i64 0, .int .u64 (h % 4 * 4611686018427387904), .int .i64 (h / 4 % 2), .int .i64 (h / 8 % 2), .slice ab2 n cb2, .slice none 0 0, .slice none 0 0, .slice aa2 n ca2, .int .i64 0, .int .u64 0, .int .i64 0, .int .u64 0, .int .i64 0, .int .u64 0, .slice none 0 0] 66))
  generalize (u2.alloc (.cells #[.int .i64 0, .int .i64 0, .int .u64 1152921504606846976, .int .i64 (1 + h % 3), .int .u64 0, .int .i64 0, .int .u64 4611686018427387904, .int .i64 0, .int .u64 (h * 72057594037927936), .int .i64 0, .int .u64 (h % 4 * 4611686018427387904), .int .i64 (h / 4 % 2), .int .i64 (h / 8 % 2), .slice ab2 n cb2, .slice none 0 0, .slice none 0 0, .slice aa2 n ca2, .int .i64 0, .int .u64 0, .int .i64 0, .int .u64 0, .int .i64 0, .int .u64 0, .slice none 0 0] 66)) = wx2 at *
  (try clear HB); have HB := Lib.hid hb_; clear hb_
  (try clear c_y); (try clear f_y r_y B_y); obtain ⟨c_y, f_y, l_y, r_y, B_y⟩ := blk_all e_y; clear e_y; (try clear c_x); (try clear f_x r_x B_x); obtain ⟨c_x, f_x, l_x, r_x, B_x⟩ := blk_all e_x; clear e_x
  have nywx2 : ¬ (u1.heap.size = wx2.heap.size) := by omega
  have nxwx2 : ¬ (u2.heap.size = wx2.heap.size) := by omega
  clear Hob1 Hoa1 Hob2 Hoa2 Hoo2 Hob3 Hoa3
  have hz2 : w.heap.size ≤ wx2.heap.size := by omega
  go_upto_region 4 with (go_at_call 29; refine (r16_Contacts l h ab aa n cb ca _ Hl.out hn1 hh Hmay.out st Hall.out Hob5.out).mono ?_; rintro e u3 ⟨vb3, vo3, rfl, hob3, hoo3, ho⟩; obtain ⟨ab3, cb3, rfl⟩ := owns_form hob3; obtain ⟨ao3, co3, rfl⟩ := owns_form hoo3; have Hob6 := Lib.hid hob3; have Hoo6 := Lib.hid hoo3; clear hob3 hoo3; have Hob7 := Lib.hid (owns_below Hob4.out ho); have Hoa7 := Lib.hid (owns_below Hoa4.out ho); have Hoo7 := Lib.hid (owns_below Hoo4.out ho); have Hoa8 := Lib.hid (owns_below Hoa5.out ho); have hzu3 := Below.size ho; (try simp at hzu3); have HB2 : Hid (Below w.heap.size w u3) := Lib.hid (Below.trans (by exact pBl) (Below.mono ho pSd)); (try clear HB); have HB := HB2; clear HB2; have B2 := blk_below (g := u1.heap.size) ho pSd; (try simp (disch := first | omega | (simp; done) | (simp; omega)) only [pBk] at B2); (try rw [Hid.out B_y] at B2); (try simp only [pBk] at B2); (try clear c_y f_y r_y B_y); obtain ⟨c_y, f_y, l_u3_y, r_y, B_y⟩ := blk_all B2; clear B2; have B2 := blk_below (g := u2.heap.size) ho pSd; (try simp (disch := first | omega | (simp; done) | (simp; omega)) only [pBk] at B2); (try rw [Hid.out B_x] at B2); (try simp only [pBk] at B2); (try clear c_x f_x r_x B_x); obtain ⟨c_x, f_x, l_u3_x, r_x, B_x⟩ := blk_all B2; clear B2; clear ho)
  have e_y : blk (u3.alloc (.cells #[.int .i64 0, .int .i64 0, .int .u64 1152921504606846976, .int .i64 (1 + h % 3), .int .u64 0, .int .i64 0, .int .u64 4611686018427387904, .int .i64 0, .int .u64 (h * 72057594037927936), .int .i64 0, .int .u64 (h % 4 * 4611686018427387904), .int .i64 (h / 4 % 2), .int .i64 (h / 8 % 2), .slice ab3 n cb3, .slice none 0 0, .slice none 0 0, .slice aa n ca, .int .i64 0, .int .u64 0, .int .i64 0, .int .u64 0, .int .i64 0, .int .u64 0, .slice none 0 0, .slice ao3 st.2.length co3, .int .i64 0] 72)) (u1.heap.size) = some (.cells #[.int .i64 0, .int .i64 0, .int .u64 1152921504606846976, .int .i64 (1 + h % 3), .int .u64 0, .int .i64 0, .int .u64 4611686018427387904, .int .i64 0, .int .u64 (h * 72057594037927936), .int .i64 0, .int .u64 (h % 4 * 4611686018427387904), .int .i64 (h / 4 % 2), .int .i64 (h / 8 % 2), .slice ab n cb, .slice none 0 0, .slice none 0 0, .slice aa n ca, .int .i64 0, .int .u64 0, .int .i64 0, .int .u64 0, .int .i64 0, .int .u64 0, .slice none 0 0] 66 (0, 0)) := by ((try simp (disch := first | omega | (simp; done) | (simp; omega)) only [pBk]); first | done | with_reducible rfl | with_reducible exact Hid.out (by assumption) | (with_reducible rw [Hid.out B_y]; (try simp only [pBk]); first | done | with_reducible rfl) | (with_reducible rw [Hid.out B_x]; (try simp only [pBk]); first | done | with_reducible rfl))
  have e_x : blk (u3.alloc (.cells #[.int .i64 0, .int .i64 0, .int .u64 1152921504606846976, .int .i64 (1 + h % 3), .int .u64 0, .int .i64 0, .int .u64 4611686018427387904, .int .i64 0, .int .u64 (h * 72057594037927936), .int .i64 0, .int .u64 (h % 4 * 4611686018427387904), .int .i64 (h / 4 % 2), .int .i64 (h / 8 % 2), .slice ab3 n cb3, .slice none 0 0, .slice none 0 0, .slice aa n ca, .int .i64 0, .int .u64 0, .int .i64 0, .int .u64 0, .int .i64 0, .int .u64 0, .slice none 0 0, .slice ao3 st.2.length co3, .int .i64 0] 72)) (u2.heap.size) = some (.cells #[.int .i64 0, .int .i64 0, .int .u64 1152921504606846976, .int .i64 (1 + h % 3), .int .u64 0, .int .i64 0, .int .u64 4611686018427387904, .int .i64 0, .int .u64 (h * 72057594037927936), .int .i64 0, .int .u64 (h % 4 * 4611686018427387904), .int .i64 (h / 4 % 2), .int .i64 (h / 8 % 2), .slice ab2 n cb2, .slice none 0 0, .slice none 0 0, .slice aa2 n ca2, .int .i64 0, .int .u64 0, .int .i64 0, .int .u64 0, .int .i64 0, .int .u64 0, .slice none 0 0] 66 (0, 0)) := by ((try simp (disch := first | omega | (simp; done) | (simp; omega)) only [pBk]); first | done | with_reducible rfl | with_reducible exact Hid.out (by assumption) | (with_reducible rw [Hid.out B_y]; (try simp only [pBk]); first | done | with_reducible rfl) | (with_reducible rw [Hid.out B_x]; (try simp only [pBk]); first | done | with_reducible rfl))
  have e_t : blk (u3.alloc (.cells #[.int .i64 0, .int .i64 0, .int .u64 1152921504606846976, .int .i64 (1 + h % 3), .int .u64 0, .int .i64 0, .int .u64 4611686018427387904, .int .i64 0, .int .u64 (h * 72057594037927936), .int .i64 0, .int .u64 (h % 4 * 4611686018427387904), .int .i64 (h / 4 % 2), .int .i64 (h / 8 % 2), .slice ab3 n cb3, .slice none 0 0, .slice none 0 0, .slice aa n ca, .int .i64 0, .int .u64 0, .int .i64 0, .int .u64 0, .int .i64 0, .int .u64 0, .slice none 0 0, .slice ao3 st.2.length co3, .int .i64 0] 72)) (u3.heap.size) = some (.cells #[.int .i64 0, .int .i64 0, .int .u64 1152921504606846976, .int .i64 (1 + h % 3), .int .u64 0, .int .i64 0, .int .u64 4611686018427387904, .int .i64 0, .int .u64 (h * 72057594037927936), .int .i64 0, .int .u64 (h % 4 * 4611686018427387904), .int .i64 (h / 4 % 2), .int .i64 (h / 8 % 2), .slice ab3 n cb3, .slice none 0 0, .slice none 0 0, .slice aa n ca, .int .i64 0, .int .u64 0, .int .i64 0, .int .u64 0, .int .i64 0, .int .u64 0, .slice none 0 0, .slice ao3 st.2.length co3, .int .i64 0] 72 (0, 0)) := by ((try simp (disch := first | omega | (simp; done) | (simp; omega)) only [pBk]); first | done | with_reducible rfl | with_reducible exact Hid.out (by assumption) | (with_reducible rw [Hid.out B_y]; (try simp only [pBk]); first | done | with_reducible rfl) | (with_reducible rw [Hid.out B_x]; (try simp only [pBk]); first | done | with_reducible rfl))
  have hb_ : Below w.heap.size w (u3.alloc (.cells #[.int .i64 0, .int .i64 0, .int .u64 1152921504606846976, .int .i64 (1 + h % 3), .int .u64 0, .int .i64 0, .int .u64 4611686018427387904, .int .i64 0, .int .u64 (h * 72057594037927936), .int .i64 0, .int .u64 (h % 4 * 4611686018427387904), .int .i64 (h / 4 % 2), .int .i64 (h / 8 % 2), .slice ab3 n cb3, .slice none 0 0, .slice none 0 0, .slice aa n ca, .int .i64 0, .int .u64 0, .int .i64 0, .int .u64 0, .int .i64 0, .int .u64 0, .slice none 0 0, .slice ao3 st.2.length co3, .int .i64 0] 72)) := by exact pBl
  have hLB : u3.heap.size + 1 ≤ (u3.alloc (.cells #[.int .i64 0, .int .i64 0, .int .u64 1152921504606846976, .int .i64 (1 + h % 3), .int .u64 0, .int .i64 0, .int .u64 4611686018427387904, .int .i64 0, .int .u64 (h * 72057594037927936), .int .i64 0, .int .u64 (h % 4 * 4611686018427387904), .int .i64 (h / 4 % 2), .int .i64 (h / 8 % 2), .slice ab3 n cb3, .slice none 0 0, .slice none 0 0, .slice aa n ca, .int .i64 0, .int .u64 0, .int .i64 0, .int .u64 0, .int .i64 0, .int .u64 0, .slice none 0 0, .slice ao3 st.2.length co3, .int .i64 0] 72)).heap.size := by simp
  have Jb2 := Lib.hid (Hob6.out.alloc (.cells #[.int .i64 0, .int .i64 0, .int .u64 1152921504606846976, .int .i64 (1 + h % 3), .int .u64 0, .int .i64 0, .int .u64 4611686018427387904, .int .i64 0, .int .u64 (h * 72057594037927936), .int .i64 0, .int .u64 (h % 4 * 4611686018427387904), .int .i64 (h / 4 % 2), .int .i64 (h / 8 % 2), .slice ab3 n cb3, .slice none 0 0, .slice none 0 0, .slice aa n ca, .int .i64 0, .int .u64 0, .int .i64 0, .int .u64 0, .int .i64 0, .int .u64 0, .slice none 0 0, .slice ao3 st.2.length co3, .int .i64 0] 72))
  have Jo2 := Lib.hid (Hoo6.out.alloc (.cells #[.int .i64 0, .int .i64 0, .int .u64 1152921504606846976, .int .i64 (1 + h % 3), .int .u64 0, .int .i64 0, .int .u64 4611686018427387904, .int .i64 0, .int .u64 (h * 72057594037927936), .int .i64 0, .int .u64 (h % 4 * 4611686018427387904), .int .i64 (h / 4 % 2), .int .i64 (h / 8 % 2), .slice ab3 n cb3, .slice none 0 0, .slice none 0 0, .slice aa n ca, .int .i64 0, .int .u64 0, .int .i64 0, .int .u64 0, .int .i64 0, .int .u64 0, .slice none 0 0, .slice ao3 st.2.length co3, .int .i64 0] 72))
  have Jb1 := Lib.hid (Hob7.out.alloc (.cells #[.int .i64 0, .int .i64 0, .int .u64 1152921504606846976, .int .i64 (1 + h % 3), .int .u64 0, .int .i64 0, .int .u64 4611686018427387904, .int .i64 0, .int .u64 (h * 72057594037927936), .int .i64 0, .int .u64 (h % 4 * 4611686018427387904), .int .i64 (h / 4 % 2), .int .i64 (h / 8 % 2), .slice ab3 n cb3, .slice none 0 0, .slice none 0 0, .slice aa n ca, .int .i64 0, .int .u64 0, .int .i64 0, .int .u64 0, .int .i64 0, .int .u64 0, .slice none 0 0, .slice ao3 st.2.length co3, .int .i64 0] 72))
  have Ja1 := Lib.hid (Hoa7.out.alloc (.cells #[.int .i64 0, .int .i64 0, .int .u64 1152921504606846976, .int .i64 (1 + h % 3), .int .u64 0, .int .i64 0, .int .u64 4611686018427387904, .int .i64 0, .int .u64 (h * 72057594037927936), .int .i64 0, .int .u64 (h % 4 * 4611686018427387904), .int .i64 (h / 4 % 2), .int .i64 (h / 8 % 2), .slice ab3 n cb3, .slice none 0 0, .slice none 0 0, .slice aa n ca, .int .i64 0, .int .u64 0, .int .i64 0, .int .u64 0, .int .i64 0, .int .u64 0, .slice none 0 0, .slice ao3 st.2.length co3, .int .i64 0] 72))
  have Jo1 := Lib.hid (Hoo7.out.alloc (.cells #[.int .i64 0, .int .i64 0, .int .u64 1152921504606846976, .int .i64 (1 + h % 3), .int .u64 0, .int .i64 0, .int .u64 4611686018427387904, .int .i64 0, .int .u64 (h * 72057594037927936), .int .i64 0, .int .u64 (h % 4 * 4611686018427387904), .int .i64 (h / 4 % 2), .int .i64 (h / 8 % 2), .slice ab3 n cb3, .slice none 0 0, .slice none 0 0, .slice aa n ca, .int .i64 0, .int .u64 0, .int .i64 0, .int .u64 0, .int .i64 0, .int .u64 0, .slice none 0 0, .slice ao3 st.2.length co3, .int .i64 0] 72))
  have Ja2 := Lib.hid (Hoa8.out.alloc (.cells #[.int .i64 0, .int .i64 0, .int .u64 1152921504606846976, .int .i64 (1 + h % 3), .int .u64 0, .int .i64 0, .int .u64 4611686018427387904, .int .i64 0, .int .u64 (h * 72057594037927936), .int .i64 0, .int .u64 (h % 4 * 4611686018427387904), .int .i64 (h / 4 % 2), .int .i64 (h / 8 % 2), .slice ab3 n cb3, .slice none 0 0, .slice none 0 0, .slice aa n ca, .int .i64 0, .int .u64 0, .int .i64 0, .int .u64 0, .int .i64 0, .int .u64 0, .slice none 0 0, .slice ao3 st.2.length co3, .int .i64 0] 72))
  generalize (u3.alloc (.cells #[.int .i64 0, .int .i64 0, .int .u64 1152921504606846976, .int .i64 (1 + h % 3), .int .u64 0, .int .i64 0, .int .u64 4611686018427387904, .int .i64 0, .int .u64 (h * 72057594037927936), .int .i64 0, .int .u64 (h % 4 * 4611686018427387904), .int .i64 (h / 4 % 2), .int .i64 (h / 8 % 2), .slice ab3 n cb3, .slice none 0 0, .slice none 0 0, .slice aa n ca, .int .i64 0, .int .u64 0, .int .i64 0, .int .u64 0, .int .i64 0, .int .u64 0, .slice none 0 0, .slice ao3 st.2.length co3, .int .i64 0] 72)) = wx3 at *
  (try clear HB); have HB := Lib.hid hb_; clear hb_
  (try clear c_y); (try clear f_y r_y B_y); obtain ⟨c_y, f_y, l_y, r_y, B_y⟩ := blk_all e_y; clear e_y; (try clear c_x); (try clear f_x r_x B_x); obtain ⟨c_x, f_x, l_x, r_x, B_x⟩ := blk_all e_x; clear e_x; (try clear c_t); (try clear f_t r_t B_t); obtain ⟨c_t, f_t, l_t, r_t, B_t⟩ := blk_all e_t; clear e_t
  have nywx3 : ¬ (u1.heap.size = wx3.heap.size) := by omega
  have nxwx3 : ¬ (u2.heap.size = wx3.heap.size) := by omega
  have ntwx3 : ¬ (u3.heap.size = wx3.heap.size) := by omega
  clear Hob4 Hoa4 Hoo4 Hob5 Hoa5 Hob6 Hoo6 Hob7 Hoa7 Hoo7 Hoa8
  have rx3 : wx3.rangeAt u2.heap.size 0 [.int .i64 0, .int .i64 0, .int .u64 1152921504606846976, .int .i64 (1 + h % 3), .int .u64 0, .int .i64 0, .int .u64 4611686018427387904, .int .i64 0, .int .u64 (h * 72057594037927936), .int .i64 0, .int .u64 (h % 4 * 4611686018427387904), .int .i64 (h / 4 % 2), .int .i64 (h / 8 % 2), .slice ab2 n cb2, .slice none 0 0, .slice none 0 0, .slice aa2 n ca2, .int .i64 0, .int .u64 0, .int .i64 0, .int .u64 0, .int .i64 0, .int .u64 0, .slice none 0 0] := range_blk B_x.out (fun j v hv => by simpa using hv)
  have ry3 : wx3.rangeAt u3.heap.size 0 [.int .i64 0, .int .i64 0, .int .u64 1152921504606846976, .int .i64 (1 + h % 3), .int .u64 0, .int .i64 0, .int .u64 4611686018427387904, .int .i64 0, .int .u64 (h * 72057594037927936), .int .i64 0, .int .u64 (h % 4 * 4611686018427387904), .int .i64 (h / 4 % 2), .int .i64 (h / 8 % 2), .slice ab3 n cb3, .slice none 0 0, .slice none 0 0, .slice aa n ca, .int .i64 0, .int .u64 0, .int .i64 0, .int .u64 0, .int .i64 0, .int .u64 0, .slice none 0 0] := range_blk B_t.out (fun j v hv => by
    have hj : j < 24 := (List.getElem?_eq_some_iff.1 hv).1
    have e : (#[.int .i64 0, .int .i64 0, .int .u64 1152921504606846976, .int .i64 (1 + h % 3), .int .u64 0, .int .i64 0, .int .u64 4611686018427387904, .int .i64 0, .int .u64 (h * 72057594037927936), .int .i64 0, .int .u64 (h % 4 * 4611686018427387904), .int .i64 (h / 4 % 2), .int .i64 (h / 8 % 2), .slice ab3 n cb3, .slice none 0 0, .slice none 0 0, .slice aa n ca, .int .i64 0, .int .u64 0, .int .i64 0, .int .u64 0, .int .i64 0, .int .u64 0, .slice none 0 0, .slice ao3 st.2.length co3, .int .i64 0] : Array Value).toList = [.int .i64 0, .int .i64 0, .int .u64 1152921504606846976, .int .i64 (1 + h % 3), .int .u64 0, .int .i64 0, .int .u64 4611686018427387904, .int .i64 0, .int .u64 (h * 72057594037927936), .int .i64 0, .int .u64 (h % 4 * 4611686018427387904), .int .i64 (h / 4 % 2), .int .i64 (h / 8 % 2), .slice ab3 n cb3, .slice none 0 0, .slice none 0 0, .slice aa n ca, .int .i64 0, .int .u64 0, .int .i64 0, .int .u64 0, .int .i64 0, .int .u64 0, .slice none 0 0] ++ [.slice ao3 st.2.length co3, .int .i64 0] := rfl
    rw [← Array.getElem?_toList, e, List.getElem?_append_left hj]
    exact hv)
  have ct3 : wx3.cell? ⟨u3.heap.size, 24, none⟩ = some (.slice ao3 st.2.length co3) := by rw [blk_cell B_t.out]; rfl
  have cu3 : wx3.cell? ⟨u3.heap.size, 25, none⟩ = some (.int .i64 0) := by rw [blk_cell B_t.out]; rfl
  have Lx : ∀ W : World, W.rangeAt u2.heap.size 0 [.int .i64 0, .int .i64 0, .int .u64 1152921504606846976, .int .i64 (1 + h % 3), .int .u64 0, .int .i64 0, .int .u64 4611686018427387904, .int .i64 0, .int .u64 (h * 72057594037927936), .int .i64 0, .int .u64 (h % 4 * 4611686018427387904), .int .i64 (h / 4 % 2), .int .i64 (h / 8 % 2), .slice ab2 n cb2, .slice none 0 0, .slice none 0 0, .slice aa2 n ca2, .int .i64 0, .int .u64 0, .int .i64 0, .int .u64 0, .int .i64 0, .int .u64 0, .slice none 0 0] → (loadRow 66 (.pointer (some ⟨u2.heap.size, 0, none⟩))).run Try.prog W = .ok (.agg #[.int .i64 0, .int .i64 0, .int .u64 1152921504606846976, .int .i64 (1 + h % 3), .int .u64 0, .int .i64 0, .int .u64 4611686018427387904, .int .i64 0, .int .u64 (h * 72057594037927936), .int .i64 0, .int .u64 (h % 4 * 4611686018427387904), .int .i64 (h / 4 % 2), .int .i64 (h / 8 % 2), .slice ab2 n cb2, .slice none 0 0, .slice none 0 0, .slice aa2 n ca2, .int .i64 0, .int .u64 0, .int .i64 0, .int .u64 0, .int .i64 0, .int .u64 0, .slice none 0 0]) W := fun W hW => run_load_world_mid _ rfl hW
  have Ly : ∀ W : World, W.rangeAt u3.heap.size 0 [.int .i64 0, .int .i64 0, .int .u64 1152921504606846976, .int .i64 (1 + h % 3), .int .u64 0, .int .i64 0, .int .u64 4611686018427387904, .int .i64 0, .int .u64 (h * 72057594037927936), .int .i64 0, .int .u64 (h % 4 * 4611686018427387904), .int .i64 (h / 4 % 2), .int .i64 (h / 8 % 2), .slice ab3 n cb3, .slice none 0 0, .slice none 0 0, .slice aa n ca, .int .i64 0, .int .u64 0, .int .i64 0, .int .u64 0, .int .i64 0, .int .u64 0, .slice none 0 0] → (loadRow 66 (.pointer (some ⟨u3.heap.size, 0, none⟩))).run Try.prog W = .ok (.agg #[.int .i64 0, .int .i64 0, .int .u64 1152921504606846976, .int .i64 (1 + h % 3), .int .u64 0, .int .i64 0, .int .u64 4611686018427387904, .int .i64 0, .int .u64 (h * 72057594037927936), .int .i64 0, .int .u64 (h % 4 * 4611686018427387904), .int .i64 (h / 4 % 2), .int .i64 (h / 8 % 2), .slice ab3 n cb3, .slice none 0 0, .slice none 0 0, .slice aa n ca, .int .i64 0, .int .u64 0, .int .i64 0, .int .u64 0, .int .i64 0, .int .u64 0, .slice none 0 0]) W := fun W hW => run_load_world_mid _ rfl hW
  have hfew : st.2.length ≤ 100000 := by
    have h1 := Jfew.out
    have h2 : n * n ≤ 10 * 10 := Nat.mul_le_mul hn1 hn1
    simp only [List.length_nil] at h1
    omega
  have ra1 := Reads.of_owns Ja1.out
  have ra2 := Reads.of_owns Ja2.out
  rw [ones_flat n] at ra1 ra2
  clear c_y f_y r_y B_y c_x f_x r_x B_x c_t f_t r_t B_t
  refine wp_region_G (fun w' => w'.rangeAt u2.heap.size 0 [.int .i64 0, .int .i64 0, .int .u64 1152921504606846976, .int .i64 (1 + h % 3), .int .u64 0, .int .i64 0, .int .u64 4611686018427387904, .int .i64 0, .int .u64 (h * 72057594037927936), .int .i64 0, .int .u64 (h % 4 * 4611686018427387904), .int .i64 (h / 4 % 2), .int .i64 (h / 8 % 2), .slice ab2 n cb2, .slice none 0 0, .slice none 0 0, .slice aa2 n ca2, .int .i64 0, .int .u64 0, .int .i64 0, .int .u64 0, .int .i64 0, .int .u64 0, .slice none 0 0] ∧ w'.rangeAt u3.heap.size 0 [.int .i64 0, .int .i64 0, .int .u64 1152921504606846976, .int .i64 (1 + h % 3), .int .u64 0, .int .i64 0, .int .u64 4611686018427387904, .int .i64 0, .int .u64 (h * 72057594037927936), .int .i64 0, .int .u64 (h % 4 * 4611686018427387904), .int .i64 (h / 4 % 2), .int .i64 (h / 8 % 2), .slice ab3 n cb3, .slice none 0 0, .slice none 0 0, .slice aa n ca, .int .i64 0, .int .u64 0, .int .i64 0, .int .u64 0, .int .i64 0, .int .u64 0, .slice none 0 0] ∧ w'.cell? ⟨u3.heap.size, 24, none⟩ = some (.slice ao3 st.2.length co3) ∧ w'.cell? ⟨u3.heap.size, 25, none⟩ = some (.int .i64 0)) 26 (by kernel_rfl) ?_ (fun hHeld => ?_)
  · exact pKp
  refine Gw.tk 0 rfl ?_
  (try simp only [pLy])
  refine Gw.tk 1 rfl ?_
  (try simp only [pLy])
  refine Gw.tk 2 rfl ?_
  (try simp only [pLy])
  refine Gw.one (i := 3) rfl (by kernel_rfl) (fun K hK => ?_)
  go_simp
  (go_at_call 30; refine (r22_Same _ _ _ _ _ _ _ _ _ _ _ _ _ _ _ _ _ _ _ _ _ _ _ _ _ _ _ _ _ n 0 0 n 0 st.1 [] [] (List.replicate n (-1)) [] wx3.drew (Reads.of_owns Jb1.out) (Reads.of_owns Jb2.out) Hst.out (by omega) (Reads.nil _ _) (Reads.nil _ _) rfl (by omega) (Reads.nil _ _) (Reads.nil _ _) rfl (by omega) ra1 ra2 (List.length_replicate ..) (by omega) (Reads.nil _ _) (Reads.nil _ _) rfl (by omega)).mono ?_; rintro e u4 ⟨rfl, ho⟩; have hsu4 : wx3.heap.size ≤ u4.heap.size := (by have := ho.size; exact this); have rx4 := range_below (u := wx3.drew) rx3 ho (by show u2.heap.size < wx3.heap.size; omega); have ry4 := range_below (u := wx3.drew) ry3 ho (by show u3.heap.size < wx3.heap.size; omega); have ct4 := (ho.cell (p := ⟨u3.heap.size, 24, none⟩) (by show u3.heap.size < wx3.heap.size; omega)).trans ct3; have cu4 := (ho.cell (p := ⟨u3.heap.size, 25, none⟩) (by show u3.heap.size < wx3.heap.size; omega)).trans cu3; clear rx3 ry3 ct3 cu3; have rx3 := rx4; have ry3 := ry4; have ct3 := ct4; have cu3 := cu4; clear rx4 ry4 ct4 cu4; have HBz := Lib.hid (((Below.refl wx3.heap.size wx3).drew).trans ho); have hzu4 := Below.size ho; (try simp at hzu4); have HB2 : Hid (Below w.heap.size w u4) := Lib.hid (Below.trans (by exact pBl) (Below.mono ho pSd)); (try clear HB); have HB := HB2; clear HB2; clear ho)
  (try go_wp2_with fail)
  refine hK.out _ _ ?_ (fun hHeld2 => ?_)
  · exact pKp
  (try clear hHeld); have hHeld := hHeld2; clear hHeld2
  clear hK K
  (try simp only [pLy])
  refine Gw.tk 4 rfl ?_
  (try simp only [pLy])
  refine Gw.tk 5 rfl ?_
  (try simp only [pLy])
  refine Gw.tk 6 rfl ?_
  (try simp only [pLy])
  refine Gw.tk 7 rfl ?_
  (try simp only [pLy])
  refine Gw.one (i := 8) rfl (by kernel_rfl) (fun K hK => ?_)
  go_simp
  (go_at_call 31; refine (l17_pairs _ _ st.2.length st.2 u4 ((Reads.of_owns Jo1.out).below (by omega) HBz.out) ((Reads.of_owns Jo2.out).below (by omega) HBz.out) rfl hfew).mono ?_; rintro e u5 ⟨rfl, ho⟩; have hsu5 : u4.heap.size ≤ u5.heap.size := (by have := ho.size; exact this); have rx4 := range_below (u := u4) rx3 ho (by show u2.heap.size < u4.heap.size; omega); have ry4 := range_below (u := u4) ry3 ho (by show u3.heap.size < u4.heap.size; omega); have ct4 := (ho.cell (p := ⟨u3.heap.size, 24, none⟩) (by show u3.heap.size < u4.heap.size; omega)).trans ct3; have cu4 := (ho.cell (p := ⟨u3.heap.size, 25, none⟩) (by show u3.heap.size < u4.heap.size; omega)).trans cu3; clear rx3 ry3 ct3 cu3; have rx3 := rx4; have ry3 := ry4; have ct3 := ct4; have cu3 := cu4; clear rx4 ry4 ct4 cu4; have hzu5 := Below.size ho; (try simp at hzu5); have HB2 : Hid (Below w.heap.size w u5) := Lib.hid (Below.trans (by exact pBl) (Below.mono ho pSd)); (try clear HB); have HB := HB2; clear HB2; clear ho)
  (try go_wp2_with fail)
  refine hK.out _ _ ?_ (fun hHeld2 => ?_)
  · exact pKp
  (try clear hHeld); have hHeld := hHeld2; clear hHeld2
  clear hK K
  (try simp only [pLy])
  refine Gw.tk 9 rfl ?_
  (try simp only [pLy])
  refine Gw.tk 10 rfl ?_
  (try simp only [pLy])
  refine Gw.tk 11 rfl ?_
  (try simp only [pLy])
  refine Gw.tk 13 rfl ?_
  (try simp only [pLy])
  refine Gw.tk 14 rfl ?_
  (try simp only [pLy])
  refine Gw.one (i := 12) rfl (by kernel_rfl) (fun K hK => ?_)
  go_simp
  (go_at_call 21; refine (l1_Num _ _).mono ?_; rintro e u6 ⟨rfl, ho⟩; have hsu6 : u5.heap.size ≤ u6.heap.size := (by have := ho.size; exact this); have rx4 := range_below (u := u5) rx3 ho (by show u2.heap.size < u5.heap.size; omega); have ry4 := range_below (u := u5) ry3 ho (by show u3.heap.size < u5.heap.size; omega); have ct4 := (ho.cell (p := ⟨u3.heap.size, 24, none⟩) (by show u3.heap.size < u5.heap.size; omega)).trans ct3; have cu4 := (ho.cell (p := ⟨u3.heap.size, 25, none⟩) (by show u3.heap.size < u5.heap.size; omega)).trans cu3; clear rx3 ry3 ct3 cu3; have rx3 := rx4; have ry3 := ry4; have ct3 := ct4; have cu3 := cu4; clear rx4 ry4 ct4 cu4; have hzu6 := Below.size ho; (try simp at hzu6); have HB2 : Hid (Below w.heap.size w u6) := Lib.hid (Below.trans (by exact pBl) (Below.mono ho pSd)); (try clear HB); have HB := HB2; clear HB2; clear ho)
  (try go_wp2_with fail)
  refine hK.out _ _ ?_ (fun hHeld2 => ?_)
  · exact pKp
  (try clear hHeld); have hHeld := hHeld2; clear hHeld2
  clear hK K
  (try simp only [pLy])
  refine Gw.tk 15 rfl ?_
  (try simp only [pLy])
  refine Gw.tk 16 rfl ?_
  (try simp only [pLy])
  refine Gw.tk 17 rfl ?_
  (try simp only [pLy])
  refine Gw.tk 18 rfl ?_
  (try simp only [pLy])
  refine Gw.tk 19 rfl ?_
  (try simp only [pLy])
  refine Gw.tk 20 rfl ?_
  (try simp only [pLy])
  refine Gw.tk 21 rfl ?_
  (try simp only [pLy])
  refine Gw.tk 22 rfl ?_
  (try simp only [pLy])
  refine Gw.one (i := 23) rfl (by kernel_rfl) (fun K hK => ?_)
  go_simp
  (go_at_call 16; refine (l17_awake _).mono ?_; rintro e u7 ⟨rfl, ho⟩; have hsu7 : u6.heap.size ≤ u7.heap.size := (by have := ho.size; exact this); have rx4 := range_below (u := u6) rx3 ho (by show u2.heap.size < u6.heap.size; omega); have ry4 := range_below (u := u6) ry3 ho (by show u3.heap.size < u6.heap.size; omega); have ct4 := (ho.cell (p := ⟨u3.heap.size, 24, none⟩) (by show u3.heap.size < u6.heap.size; omega)).trans ct3; have cu4 := (ho.cell (p := ⟨u3.heap.size, 25, none⟩) (by show u3.heap.size < u6.heap.size; omega)).trans cu3; clear rx3 ry3 ct3 cu3; have rx3 := rx4; have ry3 := ry4; have ct3 := ct4; have cu3 := cu4; clear rx4 ry4 ct4 cu4; have hzu7 := Below.size ho; (try simp at hzu7); have HB2 : Hid (Below w.heap.size w u7) := Lib.hid (Below.trans (by exact pBl) (Below.mono ho pSd)); (try clear HB); have HB := HB2; clear HB2; clear ho)
  (try go_wp2_with fail)
  refine hK.out _ _ ?_ (fun hHeld2 => ?_)
  · exact pKp
  (try clear hHeld); have hHeld := hHeld2; clear hHeld2
  clear hK K
  (try simp only [pLy])
  refine Gw.tk 24 rfl ?_
  (try simp only [pLy])
  refine Gw.tk 25 rfl ?_
  (try simp only [pLy])
  refine Gw.done (by kernel_rfl) ?_ _
  go_wp2_with fail
  refine bodyPost_ret ?r rfl ⟨rfl, ?b⟩
  case r => simp (maxDischargeDepth := 9) [results, Try.results6, go_sem, *]
  case b => exact pBl
end Go.Proofs.Ytdphhkbbphfjlaa
