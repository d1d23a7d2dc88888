/- The walk of ContactKeeps. -/
import Derived.Test.YtdphhkbbphfjlaaCWldP
import Derived.Test.YtdphhkbbphfjlaaCWldG
import Derived.Test.YtdphhkbbphfjlaaCLwA
import Derived.Deep.QuietTactic
import Derived.BigQuiet
import Derived.Test.YtdphhkbbphfjlaaCWldM
import Derived.Test.YtdphhkbbphfjlaaCEnG
namespace Go.Proofs.Ytdphhkbbphfjlaa
set_option linter.unusedVariables false
set_option linter.unusedSimpArgs false
open Go.RowKit
attribute [local go_sem] uwrap_lo lo_lo hi_lo val_hl val_00 v4_q
attribute [local go_sem ↓] Go.wp_at_zero Go.wp_at_succ
attribute [local go_sem] nOf_ok nOf_err eOf_ok eOf_err xOf_ok yOf_ok xOf_err yOf_err vecX_ok vecX_err vecX_ok_err hi_z lo_z okB_ok okB_err hitV_some hitV_none hitV_err hitB_some hitB_none hitB_err
attribute [local go_sem ↓] loadRow_body
attribute [local go_sem] rowAt_at rowAt_past rowAt_drew rowAt_far run_load_body row_0_0 row_0_1 row_0_2 row_0_3 row_0_4 row_0_5 row_1_0 row_1_1 row_1_2 row_1_3 row_1_4 row_2_0 row_2_1 row_2_2 row_2_3
attribute [local go_sem ↓] storeRow_body loadVar_body
attribute [local go_sem] run_loadV_body rowAt_same run_store_body row0_at row0_past row0_drew row0_far row0_rowfar rowAt_rowfar setRow_a2 setRow_b2 setRow_alloc cell_setRow_far frozen_setRow_far allOne_nil allOne_int allOne_bool allOne_slice
attribute [local go_sem ↓] loadRow_world storeRow_world loadVar_world
attribute [local go_sem] run_load_world run_store_world run_loadV_world range_alloc_iff range_drew_iff range_set_iff
theorem below_drewN {B : Nat} {a w : World} (h : Below B a w) (n : Nat) : Below B a (w.drewN n) := ⟨h.os, h.tape, h.output, h.size, h.block⟩
set_option maxRecDepth 100000 in
set_option maxHeartbeats 40000000 in
theorem l17_keeps (ad : Option Addr) (b off len cap : Nat) (zs : List Int) (h : Int) (w : World) (had : 4 ≤ len → ad = some ⟨b, off, none⟩ ∧ b < w.heap.size ∧ ∀ i, i < len → w.cell? ⟨b, off + i, none⟩ = some (.int .u8 (zs.getD i 0))) (hr : ∀ i, 0 ≤ zs.getD i 0 ∧ zs.getD i 0 ≤ 255)
    (hlen : len ≤ 9223372036854775807) (hh : 0 ≤ h ∧ h ≤ 255) (n : Nat) (hn1 : n ≤ 10) (hn2 : 4 * n ≤ len) (hn3 : n = 10 ∨ len < 4 * n + 4) :
    Calls Try.prog 7 #[.slice ad len cap, .int .u8 h] w fun e w' => e = .returned (.bool true) ∧ Below w.heap.size w w' := by
  obtain ⟨st, hall, hfin, hkept, mi, mj, hmet⟩ := close_all hr hn1 hh
  have hsl := close_slow hr hn1 hh hall
  have hs0 : ∀ b ∈ closeTo (bodiesN zs n) n, Slow64 b := fun b hb => slow4_64 (closeN_all hr n b hb).2.1
  have Jfew := Lib.hid (few_outer _ _ _ _ hall)
  have hl := closeN_length zs n
  have hmay := fun b hb => (closeN_all hr n b hb).2.2
  have hlst : st.1.length = n := by rw [hkept.len]; exact hl
  have hkx : sumPx st.1 = sumPx (closeTo (bodiesN zs n) n) := hkept.px
  have hky : sumPy st.1 = sumPy (closeTo (bodiesN zs n) n) := hkept.py
  have hks : st.1.map still = (closeTo (bodiesN zs n) n).map still := hkept.still
  obtain ⟨l, hle⟩ : ∃ l, closeTo (bodiesN zs n) n = l := ⟨_, rfl⟩
  rw [hle] at hall hl hmay hs0 hkx hky hks
  have Hle := Lib.hid hle
  have Hall := Lib.hid hall
  have Hl := Lib.hid hl
  have Hst := Lib.hid hlst
  have Hmay := Lib.hid hmay
  have Had := Lib.hid had
  have Hr := Lib.hid hr
  have Hn3 := Lib.hid hn3
  have Hsl := Lib.hid hsl
  have Hs0 := Lib.hid hs0
  have Hkx := Lib.hid hkx
  have Hky := Lib.hid hky
  have Hks := Lib.hid hks
  have Hmet := Lib.hid hmet
  clear hmet hfin hkept hle hall hl hlst hmay had hr hn3 hsl hs0 hkx hky hks
  go_enter Try.func7, Try.ntmps7
  go_upto_region 2 with (go_at_call 27; refine (l17_Close ad b off len cap zs 10 h _ Had.out Hr.out hlen (by omega) hh n hn1 hn2 Hn3.out).mono ?_; rintro e u1 ⟨vb, va, rfl, hob, hoa, ho, _, _⟩; rw [Hle.out] at hob; obtain ⟨ab, cb, rfl⟩ := owns_form hob; obtain ⟨aa, ca, rfl⟩ := owns_form hoa; have Hob := Lib.hid hob; have Hoa := Lib.hid hoa; clear hob hoa; have hzu1 := Below.size ho; (try simp at hzu1); have HB2 : Hid (Below w.heap.size w u1) := Lib.hid (Below.trans (by exact pBl) (Below.mono ho pSd)); (try clear HB); have HB := HB2; clear HB2; clear ho)
  have e_y : blk (u1.alloc (.cells #[.int .i64 0, .int .i64 0, .int .u64 1152921504606846976, .int .i64 (1 + h % 3), .int .u64 0, .int .i64 0, .int .u64 4611686018427387904, .int .i64 0, .int .u64 (h * 72057594037927936), .int .i64 0, .int .u64 (h % 4 * 4611686018427387904), .int .i64 (h / 4 % 2), .int .i64 (h / 8 % 2), .slice ab n cb, .slice none 0 0, .slice none 0 0, .slice aa n ca, .int .i64 0, .int .u64 0, .int .i64 0, .int .u64 0, .int .i64 0, .int .u64 0, .slice none 0 0] 66)) (u1.heap.size) = some (.cells #[.int .i64 0, .int .i64 0, .int .u64 1152921504606846976, .int .i64 (1 + h % 3), .int .u64 0, .int .i64 0, .int .u64 4611686018427387904, .int .i64 0, .int .u64 (h * 72057594037927936), .int .i64 0, .int .u64 (h % 4 * 4611686018427387904), .int .i64 (h / 4 % 2), .int .i64 (h / 8 % 2), .slice ab n cb, .slice none 0 0, .slice none 0 0, .slice aa n ca, .int .i64 0, .int .u64 0, .int .i64 0, .int .u64 0, .int .i64 0, .int .u64 0, .slice none 0 0] 66 (0, 0)) := by ((try simp (disch := first | omega | (simp; done) | (simp; omega)) only [pBk]); first | done | with_reducible rfl | with_reducible exact Hid.out (by assumption) | (with_reducible rw [Hid.out B_zz]; (try simp only [pBk]); first | done | with_reducible rfl))
  have hb_ : Below w.heap.size w (u1.alloc (.cells #[.int .i64 0, .int .i64 0, .int .u64 1152921504606846976, .int .i64 (1 + h % 3), .int .u64 0, .int .i64 0, .int .u64 4611686018427387904, .int .i64 0, .int .u64 (h * 72057594037927936), .int .i64 0, .int .u64 (h % 4 * 4611686018427387904), .int .i64 (h / 4 % 2), .int .i64 (h / 8 % 2), .slice ab n cb, .slice none 0 0, .slice none 0 0, .slice aa n ca, .int .i64 0, .int .u64 0, .int .i64 0, .int .u64 0, .int .i64 0, .int .u64 0, .slice none 0 0] 66)) := by exact pBl
  have hLB : u1.heap.size + 1 ≤ (u1.alloc (.cells #[.int .i64 0, .int .i64 0, .int .u64 1152921504606846976, .int .i64 (1 + h % 3), .int .u64 0, .int .i64 0, .int .u64 4611686018427387904, .int .i64 0, .int .u64 (h * 72057594037927936), .int .i64 0, .int .u64 (h % 4 * 4611686018427387904), .int .i64 (h / 4 % 2), .int .i64 (h / 8 % 2), .slice ab n cb, .slice none 0 0, .slice none 0 0, .slice aa n ca, .int .i64 0, .int .u64 0, .int .i64 0, .int .u64 0, .int .i64 0, .int .u64 0, .slice none 0 0] 66)).heap.size := by simp
  have Hob1 := Lib.hid (Hob.out.alloc (.cells #[.int .i64 0, .int .i64 0, .int .u64 1152921504606846976, .int .i64 (1 + h % 3), .int .u64 0, .int .i64 0, .int .u64 4611686018427387904, .int .i64 0, .int .u64 (h * 72057594037927936), .int .i64 0, .int .u64 (h % 4 * 4611686018427387904), .int .i64 (h / 4 % 2), .int .i64 (h / 8 % 2), .slice ab n cb, .slice none 0 0, .slice none 0 0, .slice aa n ca, .int .i64 0, .int .u64 0, .int .i64 0, .int .u64 0, .int .i64 0, .int .u64 0, .slice none 0 0] 66))
  have Hoa1 := Lib.hid (Hoa.out.alloc (.cells #[.int .i64 0, .int .i64 0, .int .u64 1152921504606846976, .int .i64 (1 + h % 3), .int .u64 0, .int .i64 0, .int .u64 4611686018427387904, .int .i64 0, .int .u64 (h * 72057594037927936), .int .i64 0, .int .u64 (h % 4 * 4611686018427387904), .int .i64 (h / 4 % 2), .int .i64 (h / 8 % 2), .slice ab n cb, .slice none 0 0, .slice none 0 0, .slice aa n ca, .int .i64 0, .int .u64 0, .int .i64 0, .int .u64 0, .int .i64 0, .int .u64 0, .slice none 0 0] 66))
  generalize (u1.alloc (.cells #[.int .i64 0, .int .i64 0, .int .u64 1152921504606846976, .int .i64 (1 + h % 3), .int .u64 0, .int .i64 0, .int .u64 4611686018427387904, .int .i64 0, .int .u64 (h * 72057594037927936), .int .i64 0, .int .u64 (h % 4 * 4611686018427387904), .int .i64 (h / 4 % 2), .int .i64 (h / 8 % 2), .slice ab n cb, .slice none 0 0, .slice none 0 0, .slice aa n ca, .int .i64 0, .int .u64 0, .int .i64 0, .int .u64 0, .int .i64 0, .int .u64 0, .slice none 0 0] 66)) = wx1 at *
  (try clear HB); have HB := Lib.hid hb_; clear hb_
  (try clear c_y); (try clear f_y r_y B_y); obtain ⟨c_y, f_y, l_y, r_y, B_y⟩ := blk_all e_y; clear e_y
  have nywx1 : ¬ (u1.heap.size = wx1.heap.size) := by omega
  have hgl : ∀ g, (Value.slice ab n cb).ownBlock = some g → g < wx1.heap.size := fun g hg => (Hob1.out.lt g hg).2
  have Hgl := Lib.hid hgl
  clear hgl Hob Hoa Had Hr
  have hz1 : w.heap.size ≤ wx1.heap.size := by omega
  go_upto_region 3 with (go_at_call 28; refine (contact_All l h ab aa n cb ca _ Hl.out hn1 hh Hmay.out st Hall.out Hob1.out Hoa1.out).mono ?_; rintro e u2 ⟨vb2, va2, vo2, rfl, hob2, hoa2, hoo2, ho⟩; obtain ⟨ab2, cb2, rfl⟩ := owns_form hob2; obtain ⟨aa2, ca2, rfl⟩ := owns_form hoa2; obtain ⟨ao2, co2, rfl⟩ := owns_form hoo2; have Hob2 := Lib.hid hob2; have Hoa2 := Lib.hid hoa2; have Hoo2 := Lib.hid hoo2; clear hob2 hoa2 hoo2; have Hob3 := Lib.hid (owns_below Hob1.out ho); have Hoa3 := Lib.hid (owns_below Hoa1.out ho); have hzu2 := Below.size ho; (try simp at hzu2); have HB2 : Hid (Below w.heap.size w u2) := Lib.hid (Below.trans (by exact pBl) (Below.mono ho pSd)); (try clear HB); have HB := HB2; clear HB2; have B2 := blk_below (g := u1.heap.size) ho pSd; (try simp (disch := first | omega | (simp; done) | (simp; omega)) only [pBk] at B2); (try rw [Hid.out B_y] at B2); (try simp only [pBk] at B2); (try clear c_y f_y r_y B_y); obtain ⟨c_y, f_y, l_u2_y, r_y, B_y⟩ := blk_all B2; clear B2; clear ho)
  have e_y : blk (u2.alloc (.cells #[.int .i64 0, .int .i64 0, .int .u64 1152921504606846976, .int .i64 (1 + h % 3), .int .u64 0, .int .i64 0, .int .u64 4611686018427387904, .int .i64 0, .int .u64 (h * 72057594037927936), .int .i64 0, .int .u64 (h % 4 * 4611686018427387904), .int .i64 (h / 4 % 2), .int .i64 (h / 8 % 2), .slice ab2 n cb2, .slice none 0 0, .slice none 0 0, .slice aa2 n ca2, .int .i64 0, .int .u64 0, .int .i64 0, .int .u64 0, .int .i64 0, .int .u64 0, .slice none 0 0] 66)) (u1.heap.size) = some (.cells #[.int .i64 0, .int .i64 0, .int .u64 1152921504606846976, .int .i64 (1 + h % 3), .int .u64 0, .int .i64 0, .int .u64 4611686018427387904, .int .i64 0, .int .u64 (h * 72057594037927936), .int .i64 0, .int .u64 (h % 4 * 4611686018427387904), .int .i64 (h / 4 % 2), .int .i64 (h / 8 % 2), .slice ab n cb, .slice none 0 0, .slice none 0 0, .slice aa n ca, .int .i64 0, .int .u64 0, .int .i64 0, .int .u64 0, .int .i64 0, .int .u64 0, .slice none 0 0] 66 (0, 0)) := by ((try simp (disch := first | omega | (simp; done) | (simp; omega)) only [pBk]); first | done | with_reducible rfl | with_reducible exact Hid.out (by assumption) | (with_reducible rw [Hid.out B_y]; (try simp only [pBk]); first | done | with_reducible rfl))
  have e_x : blk (u2.alloc (.cells #[.int .i64 0, .int .i64 0, .int .u64 1152921504606846976, .int .i64 (1 + h % 3), .int .u64 0, .int .i64 0, .int .u64 4611686018427387904, .int .i64 0, .int .u64 (h * 72057594037927936), .int .i64 0, .int .u64 (h % 4 * 4611686018427387904), .int .i64 (h / 4 % 2), .int .i64 (h / 8 % 2), .slice ab2 n cb2, .slice none 0 0, .slice none 0 0, .slice aa2 n ca2, .int .i64 0, .int .u64 0, .int .i64 0, .int .u64 0, .int .i64 0, .int .u64 0, .slice none 0 0] 66)) (u2.heap.size) = some (.cells #[.int .i64 0, .int .i64 0, .int .u64 1152921504606846976, .int .i64 (1 + h % 3), .int .u64 0, .int .i64 0, .int .u64 4611686018427387904, .int .i64 0, .int .u64 (h * 72057594037927936), .int .i64 0, .int .u64 (h % 4 * 4611686018427387904), .int .i64 (h / 4 % 2), .int .i64 (h / 8 % 2), .slice ab2 n cb2, .slice none 0 0, .slice none 0 0, .slice aa2 n ca2, .int .i64 0, .int .u64 0, .int .i64 0, .int .u64 0, .int .i64 0, .int .u64 0, .slice none 0 0] 66 (0, 0)) := by ((try simp (disch := first | omega | (simp; done) | (simp; omega)) only [pBk]); first | done | with_reducible rfl | with_reducible exact Hid.out (by assumption) | (with_reducible rw [Hid.out B_y]; (try simp only [pBk]); first | done | with_reducible rfl))
  have hb_ : Below w.heap.size w (u2.alloc (.cells #[.int .i64 0, .int .i64 0, .int .u64 1152921504606846976, .int .i64 (1 + h % 3), .int .u64 0, .int .i64 0, .int .u64 4611686018427387904, .int .i64 0, .int .u64 (h * 72057594037927936), .int .i64 0, .int .u64 (h % 4 * 4611686018427387904), .int .i64 (h / 4 % 2), .int .i64 (h / 8 % 2), .slice ab2 n cb2, .slice none 0 0, .slice none 0 0, .slice aa2 n ca2, .int .i64 0, .int .u64 0, .int .i64 0, .int .u64 0, .int .i64 0, .int .u64 0, .slice none 0 0] 66)) := by exact pBl
  have hLB : u2.heap.size + 1 ≤ (u2.alloc (.cells #[.int .i64 0, .int .i64 0, .int .u64 1152921504606846976, .int .i64 (1 + h % 3), .int .u64 0, .int .i64 0, .int .u64 4611686018427387904, .int .i64 0, .int .u64 (h * 72057594037927936), .int .i64 0, .int .u64 (h % 4 * 4611686018427387904), .int .i64 (h / 4 % 2), .int .i64 (h / 8 % 2), .slice ab2 n cb2, .slice none 0 0, .slice none 0 0, .slice aa2 n ca2, .int .i64 0, .int .u64 0, .int .i64 0, .int .u64 0, .int .i64 0, .int .u64 0, .slice none 0 0] 66)).heap.size := by simp
  have Hob4 := Lib.hid (Hob2.out.alloc (.cells #[.int .i64 0, .int .i64 0, .int .u64 1152921504606846976, .int .i64 (1 + h % 3), .int .u64 0, .int .i64 0, .int .u64 4611686018427387904, .int .i64 0, .int .u64 (h * 72057594037927936), .int .i64 0, .int .u64 (h % 4 * 4611686018427387904), .int .i64 (h / 4 % 2), .int .i64 (h / 8 % 2), .slice ab2 n cb2, .slice none 0 0, .slice none 0 0, .slice aa2 n ca2, .int .i64 0, .int .u64 0, .int .i64 0, .int .u64 0, .int .i64 0, .int .u64 0, .slice none 0 0] 66))
  have Hoa4 := Lib.hid (Hoa2.out.alloc (.cells #[.int .i64 0, .int .i64 0, .int .u64 1152921504606846976, .int .i64 (1 + h % 3), .int .u64 0, .int .i64 0, .int .u64 4611686018427387904, .int .i64 0, .int .u64 (h * 72057594037927936), .int .i64 0, .int .u64 (h % 4 * 4611686018427387904), .int .i64 (h / 4 % 2), .int .i64 (h / 8 % 2), .slice ab2 n cb2, .slice none 0 0, .slice none 0 0, .slice aa2 n ca2, .int .i64 0, .int .u64 0, .int .i64 0, .int .u64 0, .int .i64 0, .int .u64 0, .slice none 0 0] 66))
  have Hoo4 := Lib.hid (Hoo2.out.alloc (.cells #[.int .i64 0, .int .i64 0, .int .u64 1152921504606846976, .int .i64 (1 + h % 3), .int .u64 0, .int .i64 0, .int .u64 4611686018427387904, .int .i64 0, .int .u64 (h * 72057594037927936), .int .i64 0, .int .u64 (h % 4 * 4611686018427387904), .int .i64 (h / 4 % 2), .int .i64 (h / 8 % 2), .slice ab2 n cb2, .slice none 0 0, .slice none 0 0, .slice aa2 n ca2, .int .i64 0, .int .u64 0, .int .i64 0, .int .u64 0, .int .i64 0, .int .u64 0, .slice none 0 0] 66))
  have Hob5 := Lib.hid (Hob3.out.alloc (.cells #[.int .i64 0, .int .i64 0, .int .u64 1152921504606846976, .int .i64 (1 + h % 3), .int .u64 0, .int .i64 0, .int .u64 4611686018427387904, .int .i64 0, .int .u64 (h * 72057594037927936), .int .i64 0, .int .u64 (h % 4 * 4611686018427387904), .int .i64 (h / 4 % 2), .int .i64 (h / 8 % 2), .slice ab2 n cb2, .slice none 0 0, .slice none 0 0, .slice aa2 n ca2, .int .i64 0, .int .u64 0, .int .i64 0, .int .u64 0, .int .i64 0, .int .u64 0, .slice none 0 0] 66))
  have Hoa5 := Lib.hid (Hoa3.out.alloc (.cells #[.int .i64 0, .int .i64 0, .int .u64 1152921504606846976, .int .i64 (1 + h % 3), .int .u64 0, .int .i64 0, .int .u64 4611686018427387904, .int .i64 0, .int .u64 (h * 72057594037927936), .int .i64 0, .int .u64 (h % 4 * 4611686018427387904), .int .i64 (h / 4 % 2), .int .i64 (h / 8 % 2), .slice ab2 n cb2, .slice none 0 0, .slice none 0 0, .slice aa2 n ca2, .int .i64 0, .int .u64 0, .int .i64 0, .int .u64 0, .int .i64 0, .int .u64 0, .slice none 0 0] 66))
  generalize (u2.alloc (.cells #[.int .i64 0, .int .i64 0, .int .u64 1152921504606846976, .int .i64 (1 + h % 3), .int .u64 0, .int .i64 0, .int .u64 4611686018427387904, .int .i64 0, .int .u64 (h * 72057594037927936), .int .i64 0, .int .u64 (h % 4 * 4611686018427387904), .int .i64 (h / 4 % 2), .int .i64 (h / 8 % 2), .slice ab2 n cb2, .slice none 0 0, .slice none 0 0, .slice aa2 n ca2, .int .i64 0, .int .u64 0, .int .i64 0, .int .u64 0, .int .i64 0, .int .u64 0, .slice none 0 0] 66)) = wx2 at *
  (try clear HB); have HB := Lib.hid hb_; clear hb_
  (try clear c_y); (try clear f_y r_y B_y); obtain ⟨c_y, f_y, l_y, r_y, B_y⟩ := blk_all e_y; clear e_y; (try clear c_x); (try clear f_x r_x B_x); obtain ⟨c_x, f_x, l_x, r_x, B_x⟩ := blk_all e_x; clear e_x
  have nywx2 : ¬ (u1.heap.size = wx2.heap.size) := by omega
  have nxwx2 : ¬ (u2.heap.size = wx2.heap.size) := by omega
  clear Hob1 Hoa1 Hob2 Hoa2 Hoo2 Hob3 Hoa3
  have hz2 : w.heap.size ≤ wx2.heap.size := by omega
  have nxy : ¬ (u1.heap.size = u2.heap.size) := by omega
  go_upto_region 5 with (go_at_call 21; refine (l1_Num _ _).mono ?_; rintro e u3 ⟨rfl, ho⟩; have Jb1 := Lib.hid (owns_below Hob4.out ho); have Ja1 := Lib.hid (owns_below Hoa4.out ho); have Jo1 := Lib.hid (owns_below Hoo4.out ho); have Jb2 := Lib.hid (owns_below Hob5.out ho); have Ja2 := Lib.hid (owns_below Hoa5.out ho); have hzu3 := Below.size ho; (try simp at hzu3); have HB2 : Hid (Below w.heap.size w u3) := Lib.hid (Below.trans (by exact pBl) (Below.mono ho pSd)); (try clear HB); have HB := HB2; clear HB2; have B2 := blk_below (g := u1.heap.size) ho pSd; (try simp (disch := first | omega | (simp; done) | (simp; omega)) only [pBk] at B2); (try rw [Hid.out B_y] at B2); (try simp only [pBk] at B2); (try clear c_y f_y r_y B_y); obtain ⟨c_y, f_y, l_u3_y, r_y, B_y⟩ := blk_all B2; clear B2; have B2 := blk_below (g := u2.heap.size) ho pSd; (try simp (disch := first | omega | (simp; done) | (simp; omega)) only [pBk] at B2); (try rw [Hid.out B_x] at B2); (try simp only [pBk] at B2); (try clear c_x f_x r_x B_x); obtain ⟨c_x, f_x, l_u3_x, r_x, B_x⟩ := blk_all B2; clear B2; clear ho)
  clear Hob4 Hoa4 Hoo4 Hob5 Hoa5
  obtain ⟨PX, hPX⟩ : ∃ PX, val 0 0 + sumPx l = PX := ⟨_, rfl⟩
  obtain ⟨PY, hPY⟩ : ∃ PY, val 0 0 + sumPy l = PY := ⟨_, rfl⟩
  have cM1 : ∀ W : World, Below u3.heap.size u3 W → Calls Try.prog 32 #[.agg #[.int .i64 0, .int .i64 0, .int .u64 1152921504606846976, .int .i64 (1 + h % 3), .int .u64 0, .int .i64 0, .int .u64 4611686018427387904, .int .i64 0, .int .u64 (h * 72057594037927936), .int .i64 0, .int .u64 (h % 4 * 4611686018427387904), .int .i64 (h / 4 % 2), .int .i64 (h / 8 % 2), .slice ab n cb, .slice none 0 0, .slice none 0 0, .slice aa n ca, .int .i64 0, .int .u64 0, .int .i64 0, .int .u64 0, .int .i64 0, .int .u64 0, .slice none 0 0]] W fun e w' => e = .returned (.agg #[.int .i64 (hi PX), .int .u64 (lo PX), .int .i64 (hi PY), .int .u64 (lo PY), .int .i64 0]) ∧ Below W.heap.size W w' := fun W hW => by
    have c := r22_Momentum 0 0 1152921504606846976 (1 + h % 3) 0 0 4611686018427387904 0 (h * 72057594037927936) 0 (h % 4 * 4611686018427387904) (h / 4 % 2) (h / 8 % 2) 0 0 0 0 0 0 (.slice ab n cb) (.slice none 0 0) (.slice none 0 0) (.slice aa n ca) (.slice none 0 0) n l W ((Reads.of_owns Jb2.out).below (by omega) hW) Hl.out (by omega) MayF.zero MayF.zero (fun b hb => slow64_R (Hs0.out b hb)) (fun k hk => by rw [val_00]; exact sumP_R hn1 Hl.out Hs0.out k hk)
    rw [hPX, hPY] at c
    exact c
  have hPX2 : val 0 0 + sumPx st.1 = PX := by rw [Hkx.out]; exact hPX
  have hPY2 : val 0 0 + sumPy st.1 = PY := by rw [Hky.out]; exact hPY
  have cM2 : ∀ W : World, Below u3.heap.size u3 W → Calls Try.prog 32 #[.agg #[.int .i64 0, .int .i64 0, .int .u64 1152921504606846976, .int .i64 (1 + h % 3), .int .u64 0, .int .i64 0, .int .u64 4611686018427387904, .int .i64 0, .int .u64 (h * 72057594037927936), .int .i64 0, .int .u64 (h % 4 * 4611686018427387904), .int .i64 (h / 4 % 2), .int .i64 (h / 8 % 2), .slice ab2 n cb2, .slice none 0 0, .slice none 0 0, .slice aa2 n ca2, .int .i64 0, .int .u64 0, .int .i64 0, .int .u64 0, .int .i64 0, .int .u64 0, .slice none 0 0]] W fun e w' => e = .returned (.agg #[.int .i64 (hi PX), .int .u64 (lo PX), .int .i64 (hi PY), .int .u64 (lo PY), .int .i64 0]) ∧ Below W.heap.size W w' := fun W hW => by
    have c := r22_Momentum 0 0 1152921504606846976 (1 + h % 3) 0 0 4611686018427387904 0 (h * 72057594037927936) 0 (h % 4 * 4611686018427387904) (h / 4 % 2) (h / 8 % 2) 0 0 0 0 0 0 (.slice ab2 n cb2) (.slice none 0 0) (.slice none 0 0) (.slice aa2 n ca2) (.slice none 0 0) n st.1 W ((Reads.of_owns Jb1.out).below (by omega) hW) Hst.out (by omega) MayF.zero MayF.zero (fun b hb => slow64_R (Hsl.out b hb)) (fun k hk => by rw [val_00]; exact sumP_R hn1 Hst.out Hsl.out k hk)
    rw [hPX2, hPY2] at c
    exact c
  clear hPX hPY hPX2 hPY2
  have ry3 : u3.rangeAt u1.heap.size 0 [.int .i64 0, .int .i64 0, .int .u64 1152921504606846976, .int .i64 (1 + h % 3), .int .u64 0, .int .i64 0, .int .u64 4611686018427387904, .int .i64 0, .int .u64 (h * 72057594037927936), .int .i64 0, .int .u64 (h % 4 * 4611686018427387904), .int .i64 (h / 4 % 2), .int .i64 (h / 8 % 2), .slice ab n cb, .slice none 0 0, .slice none 0 0, .slice aa n ca, .int .i64 0, .int .u64 0, .int .i64 0, .int .u64 0, .int .i64 0, .int .u64 0, .slice none 0 0] := range_blk B_y.out (fun j v hv => by simpa using hv)
  have rx3 : u3.rangeAt u2.heap.size 0 [.int .i64 0, .int .i64 0, .int .u64 1152921504606846976, .int .i64 (1 + h % 3), .int .u64 0, .int .i64 0, .int .u64 4611686018427387904, .int .i64 0, .int .u64 (h * 72057594037927936), .int .i64 0, .int .u64 (h % 4 * 4611686018427387904), .int .i64 (h / 4 % 2), .int .i64 (h / 8 % 2), .slice ab2 n cb2, .slice none 0 0, .slice none 0 0, .slice aa2 n ca2, .int .i64 0, .int .u64 0, .int .i64 0, .int .u64 0, .int .i64 0, .int .u64 0, .slice none 0 0] := range_blk B_x.out (fun j v hv => by simpa using hv)
  obtain ⟨l1, hl1⟩ : ∃ l1 : List Value, [.int .i64 0, .int .i64 0, .int .u64 1152921504606846976, .int .i64 (1 + h % 3), .int .u64 0, .int .i64 0, .int .u64 4611686018427387904, .int .i64 0, .int .u64 (h * 72057594037927936), .int .i64 0, .int .u64 (h % 4 * 4611686018427387904), .int .i64 (h / 4 % 2), .int .i64 (h / 8 % 2), .slice ab n cb, .slice none 0 0, .slice none 0 0, .slice aa n ca, .int .i64 0, .int .u64 0, .int .i64 0, .int .u64 0, .int .i64 0, .int .u64 0, .slice none 0 0] = l1 := ⟨_, rfl⟩
  obtain ⟨l2, hl2⟩ : ∃ l2 : List Value, [.int .i64 0, .int .i64 0, .int .u64 1152921504606846976, .int .i64 (1 + h % 3), .int .u64 0, .int .i64 0, .int .u64 4611686018427387904, .int .i64 0, .int .u64 (h * 72057594037927936), .int .i64 0, .int .u64 (h % 4 * 4611686018427387904), .int .i64 (h / 4 % 2), .int .i64 (h / 8 % 2), .slice ab2 n cb2, .slice none 0 0, .slice none 0 0, .slice aa2 n ca2, .int .i64 0, .int .u64 0, .int .i64 0, .int .u64 0, .int .i64 0, .int .u64 0, .slice none 0 0] = l2 := ⟨_, rfl⟩
  obtain ⟨V1, hV1⟩ : ∃ V1 : Value, Value.agg #[.int .i64 0, .int .i64 0, .int .u64 1152921504606846976, .int .i64 (1 + h % 3), .int .u64 0, .int .i64 0, .int .u64 4611686018427387904, .int .i64 0, .int .u64 (h * 72057594037927936), .int .i64 0, .int .u64 (h % 4 * 4611686018427387904), .int .i64 (h / 4 % 2), .int .i64 (h / 8 % 2), .slice ab n cb, .slice none 0 0, .slice none 0 0, .slice aa n ca, .int .i64 0, .int .u64 0, .int .i64 0, .int .u64 0, .int .i64 0, .int .u64 0, .slice none 0 0] = V1 := ⟨_, rfl⟩
  obtain ⟨V2, hV2⟩ : ∃ V2 : Value, Value.agg #[.int .i64 0, .int .i64 0, .int .u64 1152921504606846976, .int .i64 (1 + h % 3), .int .u64 0, .int .i64 0, .int .u64 4611686018427387904, .int .i64 0, .int .u64 (h * 72057594037927936), .int .i64 0, .int .u64 (h % 4 * 4611686018427387904), .int .i64 (h / 4 % 2), .int .i64 (h / 8 % 2), .slice ab2 n cb2, .slice none 0 0, .slice none 0 0, .slice aa2 n ca2, .int .i64 0, .int .u64 0, .int .i64 0, .int .u64 0, .int .i64 0, .int .u64 0, .slice none 0 0] = V2 := ⟨_, rfl⟩
  have Ly : ∀ W : World, W.rangeAt u1.heap.size 0 l1 → (loadRow 66 (.pointer (some ⟨u1.heap.size, 0, none⟩))).run Try.prog W = .ok V1 W := fun W hW => by
    rw [← hV1]; rw [← hl1] at hW; exact run_load_world_mid _ rfl hW
  have Lx : ∀ W : World, W.rangeAt u2.heap.size 0 l2 → (loadRow 66 (.pointer (some ⟨u2.heap.size, 0, none⟩))).run Try.prog W = .ok V2 W := fun W hW => by
    rw [← hV2]; rw [← hl2] at hW; exact run_load_world_mid _ rfl hW
  rw [hl1] at ry3
  rw [hl2] at rx3
  simp only [hV1] at cM1
  simp only [hV2] at cM2
  simp only [hV1, hV2]
  have HV1 := Lib.hid hV1
  have HV2 := Lib.hid hV2
  clear hl1 hl2 hV1 hV2
  have hz3 : w.heap.size ≤ u3.heap.size := by omega
  have ly3 : u1.heap.size < u3.heap.size := by omega
  have lx3 : u2.heap.size < u3.heap.size := by omega
  have my3 : u1.heap.size < u3.heap.size + 1 := by omega
  have mx3 : u2.heap.size < u3.heap.size + 1 := by omega
  have neu3u10 : ¬ (u1.heap.size = u3.heap.size) := by omega
  have neu3u11 : ¬ (u1.heap.size = u3.heap.size + 1) := by omega
  have neu3u20 : ¬ (u2.heap.size = u3.heap.size) := by omega
  have neu3u21 : ¬ (u2.heap.size = u3.heap.size + 1) := by omega
  have Cy0 := B_y
  have Cx0 := B_x
  clear c_y f_y r_y B_y c_x f_x r_x B_x
  go_cut [9, 10] (fun s9 s10 wx => ∃ g_p g_q : Nat, s9 = .pointer (some ⟨g_p, 0, none⟩) ∧ s10 = .pointer (some ⟨g_q, 0, none⟩) ∧ Below u3.heap.size u3 wx ∧ u3.heap.size ≤ g_p ∧ u3.heap.size ≤ g_q ∧ ¬ (g_p = g_q) ∧ blk wx g_p = some (.cells #[.int .i64 (hi PX), .int .u64 (lo PX), .int .i64 (hi PY), .int .u64 (lo PY), .int .i64 0] 78 (0, 0)) ∧ blk wx g_q = some (.cells #[.int .i64 (hi PX), .int .u64 (lo PX), .int .i64 (hi PY), .int .u64 (lo PY), .int .i64 0] 78 (0, 0)))
  case first =>
    go_region_held3 (fun w' => w'.rangeAt u1.heap.size 0 l1 ∧ w'.rangeAt u2.heap.size 0 l2) (exact pKp)
      ((go_at_call 32; first
        | ((with_reducible refine (cM1 _ (by exact pBl)).mono ?_); rintro e u4 ⟨rfl, ho⟩; have HB3 : Hid (Below u3.heap.size u3 u4) := Lib.hid (Below.trans (by exact pBl) (Below.mono ho pSd)); have ry4 := range_below ry3 HB3.out ly3; have rx4 := range_below rx3 HB3.out lx3; have hzu4 := Below.size ho; (try simp at hzu4); have HB2 : Hid (Below w.heap.size w u4) := Lib.hid (Below.trans (by exact pBl) (Below.mono ho pSd)); (try clear HB); have HB := HB2; clear HB2; (try (have B2 := blk_below (g := u3.heap.size) ho (by first  | omega | (simp; done) | (simp; omega)); (try simp (disch := first | omega | (simp; done) | (simp; omega)) only [pBk] at B2); (try rw [Hid.out B_o0] at B2); (try simp only [pBk] at B2); (try clear c_o0 f_o0 r_o0 B_o0); obtain ⟨c_o0, f_o0, l_u4_o0, r_o0, B_o0⟩ := blk_all B2; clear B2)); (try (have B2 := blk_below (g := u3.heap.size + 1) ho (by first  | omega | (simp; done) | (simp; omega)); (try simp (disch := first | omega | (simp; done) | (simp; omega)) only [pBk] at B2); (try rw [Hid.out B_o1] at B2); (try simp only [pBk] at B2); (try clear c_o1 f_o1 r_o1 B_o1); obtain ⟨c_o1, f_o1, l_u4_o1, r_o1, B_o1⟩ := blk_all B2; clear B2)); clear ho; have ly_u4 : u1.heap.size < u4.heap.size := (by omega); have lx_u4 : u2.heap.size < u4.heap.size := (by omega); have my_u4 : u1.heap.size < u4.heap.size + 1 := (by omega); have mx_u4 : u2.heap.size < u4.heap.size + 1 := (by omega); have neu4u10 : ¬ (u1.heap.size = u4.heap.size) := (by omega); have neu4u11 : ¬ (u1.heap.size = u4.heap.size + 1) := (by omega); have neu4u20 : ¬ (u2.heap.size = u4.heap.size) := (by omega); have neu4u21 : ¬ (u2.heap.size = u4.heap.size + 1) := (by omega))
        | ((with_reducible refine (cM2 _ (by exact pBl)).mono ?_); rintro e u5 ⟨rfl, ho⟩; have HB3 : Hid (Below u3.heap.size u3 u5) := Lib.hid (Below.trans (by exact pBl) (Below.mono ho pSd)); have ry5 := range_below ry3 HB3.out ly3; have rx5 := range_below rx3 HB3.out lx3; have hzu5 := Below.size ho; (try simp at hzu5); have HB2 : Hid (Below w.heap.size w u5) := Lib.hid (Below.trans (by exact pBl) (Below.mono ho pSd)); (try clear HB); have HB := HB2; clear HB2; (try (have B2 := blk_below (g := u3.heap.size) ho (by first  | omega | (simp; done) | (simp; omega)); (try simp (disch := first | omega | (simp; done) | (simp; omega)) only [pBk] at B2); (try rw [Hid.out B_o0] at B2); (try simp only [pBk] at B2); (try clear c_o0 f_o0 r_o0 B_o0); obtain ⟨c_o0, f_o0, l_u5_o0, r_o0, B_o0⟩ := blk_all B2; clear B2)); (try (have B2 := blk_below (g := u3.heap.size + 1) ho (by first  | omega | (simp; done) | (simp; omega)); (try simp (disch := first | omega | (simp; done) | (simp; omega)) only [pBk] at B2); (try rw [Hid.out B_o1] at B2); (try simp only [pBk] at B2); (try clear c_o1 f_o1 r_o1 B_o1); obtain ⟨c_o1, f_o1, l_u5_o1, r_o1, B_o1⟩ := blk_all B2; clear B2)); (try (have B2 := blk_below (g := u4.heap.size) ho (by first  | omega | (simp; done) | (simp; omega)); (try simp (disch := first | omega | (simp; done) | (simp; omega)) only [pBk] at B2); (try rw [Hid.out B_o2] at B2); (try simp only [pBk] at B2); (try clear c_o2 f_o2 r_o2 B_o2); obtain ⟨c_o2, f_o2, l_u5_o2, r_o2, B_o2⟩ := blk_all B2; clear B2)); (try (have B2 := blk_below (g := u4.heap.size + 1) ho (by first  | omega | (simp; done) | (simp; omega)); (try simp (disch := first | omega | (simp; done) | (simp; omega)) only [pBk] at B2); (try rw [Hid.out B_o3] at B2); (try simp only [pBk] at B2); (try clear c_o3 f_o3 r_o3 B_o3); obtain ⟨c_o3, f_o3, l_u5_o3, r_o3, B_o3⟩ := blk_all B2; clear B2)); clear ho; have ly_u5 : u1.heap.size < u5.heap.size := (by omega); have lx_u5 : u2.heap.size < u5.heap.size := (by omega); have my_u5 : u1.heap.size < u5.heap.size + 1 := (by omega); have mx_u5 : u2.heap.size < u5.heap.size + 1 := (by omega); have neu5u10 : ¬ (u1.heap.size = u5.heap.size) := (by omega); have neu5u11 : ¬ (u1.heap.size = u5.heap.size + 1) := (by omega); have neu5u20 : ¬ (u2.heap.size = u5.heap.size) := (by omega); have neu5u21 : ¬ (u2.heap.size = u5.heap.size + 1) := (by omega))))
    all_goals (go_wp2_with fail; go_meet; refine ⟨_, _, rfl, rfl, ?_, ?_, ?_, ?_, ?_, ?_⟩)
    all_goals first | omega | (simp; done) | (simp; omega) | ((try simp (disch := first | omega | (simp; done) | (simp; omega)) only [pBk]); first | done | with_reducible rfl | with_reducible exact Hid.out (by assumption) | (with_reducible rw [Hid.out B_o0]; (try simp only [pBk]); first | done | with_reducible rfl) | (with_reducible rw [Hid.out B_o1]; (try simp only [pBk]); first | done | with_reducible rfl) | (with_reducible rw [Hid.out B_o2]; (try simp only [pBk]); first | done | with_reducible rfl) | (with_reducible rw [Hid.out B_o3]; (try simp only [pBk]); first | done | with_reducible rfl)) | skip
    all_goals (exact pBl)
  case rest =>
  obtain ⟨g_p, g_q, rfl, rfl, hbw, hgp, hgq, hpq, e_p, e_q⟩ := hcut
  have e_y := (blk_below hbw ly3).trans Cy0.out
  have e_x := (blk_below hbw lx3).trans Cx0.out
  have Kb1 := Lib.hid (owns_below Jb1.out hbw)
  have Ka1 := Lib.hid (owns_below Ja1.out hbw)
  have Ko1 := Lib.hid (owns_below Jo1.out hbw)
  have Kb2 := Lib.hid (owns_below Jb2.out hbw)
  have Ka2 := Lib.hid (owns_below Ja2.out hbw)
  have hszc := hbw.size
  have hbc : Below w.heap.size w wc := HB.out.trans (Below.mono hbw (by omega))
  clear HB Jb1 Ja1 Jo1 Jb2 Ja2 hbw Cy0 Cx0 ry3 rx3 Ly Lx cM1 cM2 my3 mx3 Hsl Hs0 Hkx Hky Hall Hmay Hle
  have HB := Lib.hid hbc
  clear hbc
  have Cy := Lib.hid e_y
  have Cx := Lib.hid e_x
  have Cp := Lib.hid e_p
  have Cq := Lib.hid e_q
  have lyc := blk_lt e_y
  have lxc := blk_lt e_x
  have lpc := blk_lt e_p
  have lqc := blk_lt e_q
  clear e_y e_x e_p e_q
  obtain ⟨m, hm⟩ : ∃ m, st.2.length = m := ⟨_, rfl⟩
  have hmB : m ≤ 100000 := by
    have h1 := Jfew.out
    have h2 : n * n ≤ 10 * 10 := Nat.mul_le_mul hn1 hn1
    simp only [List.length_nil] at h1
    omega
  have Hm := Lib.hid hm
  rw [hm] at Ko1
  simp only [hm]
  clear hm
  go_wp2_with fail
  go_loopw [11] (fun i wr => ∃ k : Nat, k ≤ m ∧ i = .int .i64 (k : Int) ∧ Below wc.heap.size wc wr) (fun i _ => m - (intOf i).toNat)
  case atStart => exact ⟨0, Nat.zero_le _, rfl, Below.refl _ _⟩
  case round =>
    obtain ⟨k, hk, rfl, hbel⟩ := hrel
    have hszr := hbel.size
    have Hbel := Lib.hid hbel
    clear hbel
    by_cases h1 : k < m
    · as_aux_lemma =>
      have h1' : ((k : Int) < (m : Int)) := by omega
      have cy13 : wr.cell? ⟨u1.heap.size, 13, none⟩ = some (.slice ab n cb) := by rw [blk_cell ((blk_below Hbel.out lyc).trans Cy.out)]; rfl
      obtain ⟨g3, o3, c3, e3, r3⟩ := ((Reads.of_owns Ko1.out).below (by omega) Hbel.out).at (f := pairL) (fun _ => rfl) (0, 0) Hm.out k h1
      injection e3 with e3 _ e3'
      subst e3 e3'
      have hp := Hmet.out.get (k := k) (by rw [Hm.out]; exact h1)
      obtain ⟨a, hpe⟩ : ∃ a, st.2.getD k (0, 0) = a := ⟨_, rfl⟩
      rw [hpe] at hp r3
      have b0 := r3 0 _ rfl
      have b1 := r3 1 _ rfl
      simp only [Nat.add_zero] at b0
      clear r3
      have t1 : ¬ ((a.1 : Int) < 0) := by omega
      have t2 : ¬ ((a.2 : Int) ≤ (a.1 : Int)) := by omega
      have t3 : ¬ ((n : Int) ≤ (a.2 : Int)) := by omega
      have t2' : ¬ (a.2 ≤ a.1) := by omega
      have t3' : ¬ (n ≤ a.2) := by omega
      clear Cy Cx Cp Cq Kb1 Ka1 Kb2 Ka2 Hl Hst Hks HB
      obtain rfl | ⟨j, rfl⟩ : k = 0 ∨ ∃ j, k = j + 1 := by
        rcases k with _ | j
        · exact .inl rfl
        · exact .inr ⟨j, rfl⟩
      · as_aux_lemma =>
        have Hpe := Lib.hid hpe
        clear hpe Hpe Ko1 Hm Hmet
        have v0 : 0 < m := h1
        simp only [Nat.zero_mul, Nat.add_zero] at b0 b1
        go_upto_region 9 with fail
        simp only [List.append]
        go_quiet (fail)
        go_wp2_with fail
        exact ⟨⟨0 + 1, by omega, by congr 1, below_drewN Hbel.out nq⟩, by simp only [intOf]; omega⟩
      · have hq := Hmet.out.two (k := j) (by rw [Hm.out]; exact h1)
        obtain ⟨b', hqe⟩ : ∃ b', st.2.getD j (0, 0) = b' := ⟨_, rfl⟩
        obtain ⟨g4, o4, c4, e4, r4⟩ := ((Reads.of_owns Ko1.out).below (by omega) Hbel.out).at (f := pairL) (fun _ => rfl) (0, 0) Hm.out j (by omega)
        injection e4 with e4 _ _
        injection e4 with e4
        injection e4 with e41 e42 _
        subst e41 e42
        rw [hpe, hqe] at hq
        rw [hqe] at r4
        have d0 := r4 0 _ rfl
        have d1 := r4 1 _ rfl
        simp only [Nat.add_zero] at d0
        have Hpe := Lib.hid hpe
        have Hqe := Lib.hid hqe
        clear hpe hqe r4 Hpe Hqe Ko1 Hm Hmet
        unfold pLt at hq
        have v1 : 0 ≤ (j : Int) + 1 ∧ (j : Int) + 1 < (m : Int) := by omega
        have v2 : 0 ≤ (j : Int) ∧ (j : Int) < (m : Int) := by omega
        have t4 : ¬ ((a.1 : Int) < (b'.1 : Int)) := by omega
        have t4' : ¬ (a.1 < b'.1) := by omega
        have t6 : (0 : Int) < (j : Int) + 1 := by omega
        have hT : ((j : Int) + 1).toNat = j + 1 := by omega
        have hT2 : ((j : Int)).toNat = j := by omega
        have hW1 : IntKind.i64.wrap ((j : Int) + 1 - 1) = (j : Int) := by rw [IntKind.wrap_i64]; omega
        by_cases hab : a.1 = b'.1
        · as_aux_lemma =>
          have t5 : ¬ ((a.2 : Int) ≤ (b'.2 : Int)) := by omega
          have t5' : ¬ (a.2 ≤ b'.2) := by omega
          have hab' : ((a.1 : Int) == (b'.1 : Int)) = true := by simp; omega
          have Hab := Lib.hid hab
          clear hab hq
          go_upto_region 9 with fail
          simp only [List.append]
          go_quiet (fail)
          go_wp2_with fail
          exact ⟨⟨j + 1 + 1, by omega, by congr 1, below_drewN Hbel.out nq⟩, by simp only [intOf]; omega⟩
        · as_aux_lemma =>
          have hab' : ((a.1 : Int) == (b'.1 : Int)) = false := by simp; omega
          clear hq
          go_upto_region 9 with fail
          simp only [List.append]
          go_quiet (fail)
          go_wp2_with fail
          exact ⟨⟨j + 1 + 1, by omega, by congr 1, below_drewN Hbel.out nq⟩, by simp only [intOf]; omega⟩
    · as_aux_lemma =>
      have h1' : ¬ ((k : Int) < (m : Int)) := by omega
      have e_y := (blk_below Hbel.out lyc).trans Cy.out
      have e_x := (blk_below Hbel.out lxc).trans Cx.out
      have e_p := (blk_below Hbel.out lpc).trans Cp.out
      have e_q := (blk_below Hbel.out lqc).trans Cq.out
      have L1 := Lib.hid (owns_below Kb1.out Hbel.out)
      have L2 := Lib.hid (owns_below Kb2.out Hbel.out)
      have A1 := Lib.hid (owns_below Ka1.out Hbel.out)
      have A2 := Lib.hid (owns_below Ka2.out Hbel.out)
      have hbr : Below w.heap.size w wr := HB.out.trans (Below.mono Hbel.out (by omega))
      clear HB
      have HB := Lib.hid hbr
      clear hbr Kb1 Kb2 Ka1 Ka2 Ko1 Cy Cx Cp Cq Hbel
      (try clear c_y); (try clear f_y r_y B_y); obtain ⟨c_y, f_y, l_y, r_y, B_y⟩ := blk_all e_y; clear e_y; (try clear c_x); (try clear f_x r_x B_x); obtain ⟨c_x, f_x, l_x, r_x, B_x⟩ := blk_all e_x; clear e_x; (try clear c_p); (try clear f_p r_p B_p); obtain ⟨c_p, f_p, l_p, r_p, B_p⟩ := blk_all e_p; clear e_p; (try clear c_q); (try clear f_q r_q B_q); obtain ⟨c_q, f_q, l_q, r_q, B_q⟩ := blk_all e_q; clear e_q
      go_wp2_with fail
      go_loopw [12] (fun i wr => ∃ k : Nat, k ≤ n ∧ i = .int .i64 (k : Int) ∧ blk wr u1.heap.size = some (.cells #[.int .i64 0, .int .i64 0, .int .u64 1152921504606846976, .int .i64 (1 + h % 3), .int .u64 0, .int .i64 0, .int .u64 4611686018427387904, .int .i64 0, .int .u64 (h * 72057594037927936), .int .i64 0, .int .u64 (h % 4 * 4611686018427387904), .int .i64 (h / 4 % 2), .int .i64 (h / 8 % 2), .slice ab n cb, .slice none 0 0, .slice none 0 0, .slice aa n ca, .int .i64 0, .int .u64 0, .int .i64 0, .int .u64 0, .int .i64 0, .int .u64 0, .slice none 0 0] 66 (0, 0)) ∧ blk wr u2.heap.size = some (.cells #[.int .i64 0, .int .i64 0, .int .u64 1152921504606846976, .int .i64 (1 + h % 3), .int .u64 0, .int .i64 0, .int .u64 4611686018427387904, .int .i64 0, .int .u64 (h * 72057594037927936), .int .i64 0, .int .u64 (h % 4 * 4611686018427387904), .int .i64 (h / 4 % 2), .int .i64 (h / 8 % 2), .slice ab2 n cb2, .slice none 0 0, .slice none 0 0, .slice aa2 n ca2, .int .i64 0, .int .u64 0, .int .i64 0, .int .u64 0, .int .i64 0, .int .u64 0, .slice none 0 0] 66 (0, 0)) ∧ blk wr g_p = some (.cells #[.int .i64 (hi PX), .int .u64 (lo PX), .int .i64 (hi PY), .int .u64 (lo PY), .int .i64 0] 78 (0, 0)) ∧ blk wr g_q = some (.cells #[.int .i64 (hi PX), .int .u64 (lo PX), .int .i64 (hi PY), .int .u64 (lo PY), .int .i64 0] 78 (0, 0)) ∧ wr.ownsRow wx1.heap.size 28 20 (.slice ab2 n cb2) n (bodiesL (mixL l st.1 k)) ∧ wr.ownsRow w.heap.size 28 20 (.slice ab n cb) n (bodiesL l) ∧ wr.ownsRow wx1.heap.size 3 1 (.slice aa2 n ca2) n (List.replicate n (.int .i64 (-1))) ∧ wr.ownsRow w.heap.size 3 1 (.slice aa n ca) n (List.replicate n (.int .i64 (-1))) ∧ Below w.heap.size w wr) (fun i _ => n - (intOf i).toNat)
      case atStart => exact ⟨0, Nat.zero_le _, rfl, B_y.out, B_x.out, B_p.out, B_q.out, L1.out, L2.out, A1.out, A2.out, HB.out⟩
      case round =>
        obtain ⟨k2, hk2, rfl, e_y, e_x, e_p, e_q, l1, l2, a1, a2, hbel⟩ := hrel
        clear HB L1 L2 A1 A2 c_y f_y r_y B_y c_x f_x r_x B_x c_p f_p r_p B_p c_q f_q r_q B_q
        have HB := Lib.hid hbel
        have L1 := Lib.hid l1
        have L2 := Lib.hid l2
        have A1 := Lib.hid a1
        have A2 := Lib.hid a2
        clear hbel l1 l2 a1 a2
        (try clear c_y); (try clear f_y r_y B_y); obtain ⟨c_y, f_y, l_y, r_y, B_y⟩ := blk_all e_y; clear e_y; (try clear c_x); (try clear f_x r_x B_x); obtain ⟨c_x, f_x, l_x, r_x, B_x⟩ := blk_all e_x; clear e_x; (try clear c_p); (try clear f_p r_p B_p); obtain ⟨c_p, f_p, l_p, r_p, B_p⟩ := blk_all e_p; clear e_p; (try clear c_q); (try clear f_q r_q B_q); obtain ⟨c_q, f_q, l_q, r_q, B_q⟩ := blk_all e_q; clear e_q
        by_cases h2 : k2 < n
        · as_aux_lemma =>
          have h2' : ((k2 : Int) < (n : Int)) := by omega
          have v0 : 0 ≤ (k2 : Int) ∧ (k2 : Int) < (n : Int) := by omega
          obtain ⟨g1, cp1, hv1, hg1, hg1'⟩ := owns_ptr L1.out (by omega)
          injection hv1 with hv1 _ hv1'
          subst hv1 hv1'
          obtain ⟨g2, cp2, hv2, hg2, hg2'⟩ := owns_ptr L2.out (by omega)
          injection hv2 with hv2 _ hv2'
          subst hv2 hv2'
          have hg2l := Hgl.out g2 rfl
          have n12 : ¬ (g1 = g2) := by omega
          have n21 : ¬ (g2 = g1) := by omega
          have ny1 : (Value.slice (some ⟨g1, 0, none⟩) n cb2).ownBlock ≠ some u1.heap.size := owns_not_blk L1.out B_y.out (by decide)
          have nx1 : (Value.slice (some ⟨g1, 0, none⟩) n cb2).ownBlock ≠ some u2.heap.size := owns_not_blk L1.out B_x.out (by decide)
          have np1 : (Value.slice (some ⟨g1, 0, none⟩) n cb2).ownBlock ≠ some g_p := owns_not_blk L1.out B_p.out (by decide)
          have nq1 : (Value.slice (some ⟨g1, 0, none⟩) n cb2).ownBlock ≠ some g_q := owns_not_blk L1.out B_q.out (by decide)
          have ny2 : ¬ (u1.heap.size = g1) := fun e => ny1 (by rw [e]; rfl)
          have nx2 : ¬ (u2.heap.size = g1) := fun e => nx1 (by rw [e]; rfl)
          have np2 : ¬ (g_p = g1) := fun e => np1 (by rw [e]; rfl)
          have nq2 : ¬ (g_q = g1) := fun e => nq1 (by rw [e]; rfl)
          clear ny1 nx1 np1 nq1
          have hlen := mixL_length Hl.out Hst.out hk2
          have rb := owns_range L1.out hlen h2
          have ra := owns_range L2.out Hl.out h2
          obtain ⟨b', hbe⟩ : ∃ b', (mixL l st.1 k2).getD k2 noB = b' := ⟨_, rfl⟩
          obtain ⟨a, hae⟩ : ∃ a, l.getD k2 noB = a := ⟨_, rfl⟩
          rw [hbe] at rb
          rw [hae] at ra
          have hstep := mixL_step Hl.out Hst.out Hks.out h2
          rw [hae] at hstep
          have Hstep := Lib.hid hstep
          have Hlen := Lib.hid hlen
          clear hbe hae hstep hlen
          have da0 := ra 8 _ rfl
          have da1 := ra 9 _ rfl
          have da2 := ra 10 _ rfl
          have da3 := ra 11 _ rfl
          have cc0 := rb 8 _ rfl
          have cc1 := rb 9 _ rfl
          have cc2 := rb 10 _ rfl
          have cc3 := rb 11 _ rfl
          clear ra rb
          have fb0 := L1.out.frozenAt (k2 * 20 + 8)
          have fb1 := L1.out.frozenAt (k2 * 20 + 8 + 1)
          have fb2 := L1.out.frozenAt (k2 * 20 + 8 + 2)
          have fb3 := L1.out.frozenAt (k2 * 20 + 8 + 3)
          go_upto_region 14 with fail
          refine wp_region_L (fun w' => w'.cell? ⟨u2.heap.size, 13, none⟩ = some (.slice (some ⟨g1, 0, none⟩) n cb2) ∧ w'.cell? ⟨u1.heap.size, 13, none⟩ = some (.slice (some ⟨g2, 0, none⟩) n cb) ∧ w'.cell? ⟨g2, k2 * 20 + 8, none⟩ = some (.int .i64 (hi a.px)) ∧ w'.cell? ⟨g2, k2 * 20 + 9, none⟩ = some (.int .u64 (lo a.px)) ∧ w'.cell? ⟨g2, k2 * 20 + 10, none⟩ = some (.int .i64 (hi a.py)) ∧ w'.cell? ⟨g2, k2 * 20 + 11, none⟩ = some (.int .u64 (lo a.py))) [11] (by kernel_rfl) ?_ (fun hHeld => ?_)
          · exact pKp
          refine Gl.tp 0 rfl ?_
          (try simp only [pLy])
          refine Gl.tk 1 rfl ?_
          (try simp only [pLy])
          refine Gl.tp 2 rfl ?_
          (try simp only [pLy])
          refine Gl.tp 3 rfl ?_
          (try simp only [pLy])
          refine Gl.tk 4 rfl ?_
          (try simp only [pLy])
          refine Gl.tp 5 rfl ?_
          (try simp only [pLy])
          refine Gl.tp 6 rfl ?_
          (try simp only [pLy])
          refine Gl.tp 7 rfl ?_
          (try simp only [pLy])
          refine Gl.tk 8 rfl ?_
          (try simp only [pLy])
          refine Gl.tp 9 rfl ?_
          (try simp only [pLy])
          refine Gl.tp 10 rfl ?_
          (try simp only [pLy])
          refine Gl.last (i := 11) rfl (by kernel_rfl) (by decide) (fun K hK => ?_)
          go_simp
          refine hK.out _ _ ?_
          clear hK K
          (try simp only [pLy])
          refine Gl.done (by kernel_rfl) ?_ _
          go_wp2_with fail
          have hap1 := owns_apart A1.out L1.out (by decide)
          have hap2 := owns_apart A2.out L1.out (by decide)
          have hap3 : (Value.slice (some ⟨g2, 0, none⟩) n cb).ownBlock = none ∨ (Value.slice (some ⟨g2, 0, none⟩) n cb).ownBlock ≠ some g1 := .inr (fun e => n21 (by injection e))
          refine ⟨⟨k2 + 1, h2, by congr 1, ?ey, ?ex, ?ep, ?eq, ?l1, ?l2, ?a1, ?a2, ?bw⟩, by simp only [intOf]; omega⟩
          case ey => ((try simp (disch := first | omega | (simp; done) | (simp; omega)) only [pBk]); first | done | with_reducible rfl | with_reducible exact Hid.out (by assumption) | (with_reducible rw [Hid.out B_y]; (try simp only [pBk]); first | done | with_reducible rfl) | (with_reducible rw [Hid.out B_x]; (try simp only [pBk]); first | done | with_reducible rfl) | (with_reducible rw [Hid.out B_p]; (try simp only [pBk]); first | done | with_reducible rfl) | (with_reducible rw [Hid.out B_q]; (try simp only [pBk]); first | done | with_reducible rfl))
          case ex => ((try simp (disch := first | omega | (simp; done) | (simp; omega)) only [pBk]); first | done | with_reducible rfl | with_reducible exact Hid.out (by assumption) | (with_reducible rw [Hid.out B_y]; (try simp only [pBk]); first | done | with_reducible rfl) | (with_reducible rw [Hid.out B_x]; (try simp only [pBk]); first | done | with_reducible rfl) | (with_reducible rw [Hid.out B_p]; (try simp only [pBk]); first | done | with_reducible rfl) | (with_reducible rw [Hid.out B_q]; (try simp only [pBk]); first | done | with_reducible rfl))
          case ep => ((try simp (disch := first | omega | (simp; done) | (simp; omega)) only [pBk]); first | done | with_reducible rfl | with_reducible exact Hid.out (by assumption) | (with_reducible rw [Hid.out B_y]; (try simp only [pBk]); first | done | with_reducible rfl) | (with_reducible rw [Hid.out B_x]; (try simp only [pBk]); first | done | with_reducible rfl) | (with_reducible rw [Hid.out B_p]; (try simp only [pBk]); first | done | with_reducible rfl) | (with_reducible rw [Hid.out B_q]; (try simp only [pBk]); first | done | with_reducible rfl))
          case eq => ((try simp (disch := first | omega | (simp; done) | (simp; omega)) only [pBk]); first | done | with_reducible rfl | with_reducible exact Hid.out (by assumption) | (with_reducible rw [Hid.out B_y]; (try simp only [pBk]); first | done | with_reducible rfl) | (with_reducible rw [Hid.out B_x]; (try simp only [pBk]); first | done | with_reducible rfl) | (with_reducible rw [Hid.out B_p]; (try simp only [pBk]); first | done | with_reducible rfl) | (with_reducible rw [Hid.out B_q]; (try simp only [pBk]); first | done | with_reducible rfl))
          case l1 =>
            have s4 := ((((L1.out.stored (k2 * 20 + 8) (.int .i64 (hi a.px))).1.stored (k2 * 20 + 8 + 1) (.int .u64 (lo a.px))).1.stored (k2 * 20 + 8 + 2) (.int .i64 (hi a.py))).1.stored (k2 * 20 + 8 + 3) (.int .u64 (lo a.py))).1
            have e := bodiesL_mom (mixL l st.1 k2) k2 a.px a.py (by rw [Hlen.out]; exact h2)
            rw [← Hstep.out, ← e]
            exact s4
          case l2 => exact (owns_set_ne (o := k2 * 20 + 8 + 3) (u := .int .u64 (lo a.py)) (owns_set_ne (o := k2 * 20 + 8 + 2) (u := .int .i64 (hi a.py)) (owns_set_ne (o := k2 * 20 + 8 + 1) (u := .int .u64 (lo a.px)) (owns_set_ne (o := k2 * 20 + 8) (u := .int .i64 (hi a.px)) L2.out hap3) hap3) hap3) hap3)
          case a1 => exact (owns_set_ne (o := k2 * 20 + 8 + 3) (u := .int .u64 (lo a.py)) (owns_set_ne (o := k2 * 20 + 8 + 2) (u := .int .i64 (hi a.py)) (owns_set_ne (o := k2 * 20 + 8 + 1) (u := .int .u64 (lo a.px)) (owns_set_ne (o := k2 * 20 + 8) (u := .int .i64 (hi a.px)) A1.out hap1) hap1) hap1) hap1)
          case a2 => exact (owns_set_ne (o := k2 * 20 + 8 + 3) (u := .int .u64 (lo a.py)) (owns_set_ne (o := k2 * 20 + 8 + 2) (u := .int .i64 (hi a.py)) (owns_set_ne (o := k2 * 20 + 8 + 1) (u := .int .u64 (lo a.px)) (owns_set_ne (o := k2 * 20 + 8) (u := .int .i64 (hi a.px)) A2.out hap2) hap2) hap2) hap2)
          case bw => exact pBl
        · as_aux_lemma =>
          have h2' : ¬ ((k2 : Int) < (n : Int)) := by omega
          have hkn : n = k2 := by omega
          subst hkn
          have l1 := L1.out
          rw [mixL_all Hl.out Hst.out] at l1
          have M1 := Lib.hid l1
          have ra1 := Reads.of_owns A1.out
          have ra2 := Reads.of_owns A2.out
          rw [ones_flat n] at ra1 ra2
          have RA1 := Lib.hid ra1
          have RA2 := Lib.hid ra2
          clear l1 ra1 ra2 L1 A1 A2
          go_wp2_with (first
            | (go_at_call 30; refine (r22_Same _ _ _ _ _ _ _ _ _ _ _ _ _ _ _ _ _ _ _ _ _ _ _ _ _ _ _ _ _ n 0 0 n 0 l [] [] (List.replicate n (-1)) [] _ (Reads.of_owns M1.out) (Reads.of_owns L2.out) Hl.out (by omega) (Reads.nil _ _) (Reads.nil _ _) rfl (by omega) (Reads.nil _ _) (Reads.nil _ _) rfl (by omega) RA1.out RA2.out (List.length_replicate ..) (by omega) (Reads.nil _ _) (Reads.nil _ _) rfl (by omega)).mono ?_; rintro e u6 ⟨rfl, ho⟩; have hzu6 := Below.size ho; (try simp at hzu6); have HB2 : Hid (Below w.heap.size w u6) := Lib.hid (Below.trans (by exact pBl) (Below.mono ho pSd)); (try clear HB); have HB := HB2; clear HB2; have B2 := blk_below (g := u1.heap.size) ho pSd; (try simp (disch := first | omega | (simp; done) | (simp; omega)) only [pBk] at B2); (try rw [Hid.out B_y] at B2); (try simp only [pBk] at B2); (try clear c_y f_y r_y B_y); obtain ⟨c_y, f_y, l_u6_y, r_y, B_y⟩ := blk_all B2; clear B2; have B2 := blk_below (g := u2.heap.size) ho pSd; (try simp (disch := first | omega | (simp; done) | (simp; omega)) only [pBk] at B2); (try rw [Hid.out B_x] at B2); (try simp only [pBk] at B2); (try clear c_x f_x r_x B_x); obtain ⟨c_x, f_x, l_u6_x, r_x, B_x⟩ := blk_all B2; clear B2; clear ho)
            | (go_at_call 16; refine (l17_awake _).mono ?_; rintro e u7 ⟨rfl, ho⟩; have hzu7 := Below.size ho; (try simp at hzu7); have HB2 : Hid (Below w.heap.size w u7) := Lib.hid (Below.trans (by exact pBl) (Below.mono ho pSd)); (try clear HB); have HB := HB2; clear HB2; have B2 := blk_below (g := u1.heap.size) ho pSd; (try simp (disch := first | omega | (simp; done) | (simp; omega)) only [pBk] at B2); (try rw [Hid.out B_y] at B2); (try simp only [pBk] at B2); (try clear c_y f_y r_y B_y); obtain ⟨c_y, f_y, l_u7_y, r_y, B_y⟩ := blk_all B2; clear B2; have B2 := blk_below (g := u2.heap.size) ho pSd; (try simp (disch := first | omega | (simp; done) | (simp; omega)) only [pBk] at B2); (try rw [Hid.out B_x] at B2); (try simp only [pBk] at B2); (try clear c_x f_x r_x B_x); obtain ⟨c_x, f_x, l_u7_x, r_x, B_x⟩ := blk_all B2; clear B2; clear ho))
          refine bodyPost_ret ?rq rfl ⟨rfl, ?bb⟩
          case rq => simp (maxDischargeDepth := 9) [results, Try.results7, go_sem, *]
          case bb => exact pBl
end Go.Proofs.Ytdphhkbbphfjlaa
