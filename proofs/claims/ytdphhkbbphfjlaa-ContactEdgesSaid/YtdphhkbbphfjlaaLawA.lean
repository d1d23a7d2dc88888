/- The walks of the law's own two, awake. -/
import Derived.Test.YtdphhkbbphfjlaaBodyG
import Derived.Test.YtdphhkbbphfjlaaRefA
import Derived.Test.YtdphhkbbphfjlaaRowA
import Derived.Deep.RegionHeld3
import Derived.Deep.DeepCutAuto
set_option linter.unusedVariables false
set_option linter.unusedSimpArgs false
namespace Go.Proofs.Ytdphhkbbphfjlaa
open Go.RowKit
attribute [local go_sem] uwrap_lo lo_lo hi_lo val_hl val_00 v4_q
attribute [local go_sem ↓] Go.wp_at_zero Go.wp_at_succ
attribute [local go_sem] nOf_ok nOf_err eOf_ok eOf_err xOf_ok yOf_ok xOf_err yOf_err vecX_ok vecX_err vecX_ok_err hi_z lo_z okB_ok okB_err hitV_some hitV_none hitV_err hitB_some hitB_none hitB_err
attribute [local go_sem ↓] loadRow_body
attribute [local go_sem] rowAt_at rowAt_past rowAt_drew rowAt_far run_load_body row_0_0 row_0_1 row_0_2 row_0_3 row_0_4 row_0_5 row_1_0 row_1_1 row_1_2 row_1_3 row_1_4 row_2_0 row_2_1 row_2_2 row_2_3
attribute [local go_sem ↓] storeRow_body
attribute [local go_sem] run_loadV_body rowAt_same run_store_body row0_at row0_past row0_drew row0_far row0_rowfar rowAt_rowfar setRow_alloc cell_setRow_far frozen_setRow_far allOne_nil allOne_int allOne_bool allOne_slice
attribute [local go_sem ↓] Try.fix_eql
/-- a body of a mass, a place, a momentum on a line, two wide -/
def lineB (m x p : Int) : BodyI := ⟨val m 0, val 2 0, val x 0, 0, val p 0, 0, 0, 0, 0, 0, 0⟩

set_option maxRecDepth 100000 in
set_option maxHeartbeats 8000000 in
theorem l17_two (m n v : Int) (w : World) (hm : 0 ≤ m ∧ m ≤ 1000) (hn : 0 ≤ n ∧ n ≤ 1000) (hv : -1000 ≤ v ∧ v ≤ 1000) (hmv : -1000000 ≤ m * v ∧ m * v ≤ 1000000) :
    Calls Try.prog 22 #[.int .i64 m, .int .i64 n, .int .i64 v] w fun e w' => e = .returned (.tuple #[.agg #[.int .i64 (m), .int .u64 0, .int .i64 2, .int .u64 0, .int .i64 (0), .int .u64 0, .int .i64 0, .int .u64 0, .int .i64 (m * v), .int .u64 0, .int .i64 0, .int .u64 0, .int .i64 0, .int .u64 0, .int .i64 0, .int .u64 0, .int .i64 0, .int .u64 0, .int .i64 0, .int .i64 0], .agg #[.int .i64 (n), .int .u64 0, .int .i64 2, .int .u64 0, .int .i64 (2), .int .u64 0, .int .i64 0, .int .u64 0, .int .i64 (0), .int .u64 0, .int .i64 0, .int .u64 0, .int .i64 0, .int .u64 0, .int .i64 0, .int .u64 0, .int .i64 0, .int .u64 0, .int .i64 0, .int .i64 0]]) ∧ Below w.heap.size w w' := by
  have hwr : wrap64 (m * v) = m * v := by unfold wrap64; omega
  obtain ⟨hm0, hm1⟩ := hm
  obtain ⟨hn0, hn1⟩ := hn
  obtain ⟨hmv0, hmv1⟩ := hmv
  go_enter Try.func22, Try.ntmps22
  go_wp2_with (first | (go_at_call_of 15 (Value.int .i64 (m * v)); refine (r1_Int _ _ (by omega)).mono ?_; rintro e u3 ⟨rfl, ho⟩; have hzu3 := Below.size ho; (try simp at hzu3); have HB2 : Hid (Below w.heap.size w u3) := Lib.hid (Below.trans (by exact pBl) (Below.mono ho pSd)); (try clear HB); have HB := HB2; clear HB2; have B2 := blk_below (g := w.heap.size) ho pSd; (try simp (disch := first | omega | (simp; done) | (simp; omega)) only [pBk] at B2); (try rw [Hid.out B_p] at B2); (try simp only [pBk] at B2); (try clear c_p f_p r_p B_p); obtain ⟨c_p, f_p, l_u3_p, r_p, B_p⟩ := blk_all B2; clear B2; have B2 := blk_below (g := w.heap.size + 1) ho pSd; (try simp (disch := first | omega | (simp; done) | (simp; omega)) only [pBk] at B2); (try rw [Hid.out B_q] at B2); (try simp only [pBk] at B2); (try clear c_q f_q r_q B_q); obtain ⟨c_q, f_q, l_u3_q, r_q, B_q⟩ := blk_all B2; clear B2; clear ho) | (go_at_call_of 15 (Value.int .i64 m); refine (r1_Int _ _ (by omega)).mono ?_; rintro e u1 ⟨rfl, ho⟩; have hzu1 := Below.size ho; (try simp at hzu1); have HB2 : Hid (Below w.heap.size w u1) := Lib.hid (Below.trans (by exact pBl) (Below.mono ho pSd)); (try clear HB); have HB := HB2; clear HB2; have B2 := blk_below (g := w.heap.size) ho pSd; (try simp (disch := first | omega | (simp; done) | (simp; omega)) only [pBk] at B2); (try rw [Hid.out B_p] at B2); (try simp only [pBk] at B2); (try clear c_p f_p r_p B_p); obtain ⟨c_p, f_p, l_u1_p, r_p, B_p⟩ := blk_all B2; clear B2; have B2 := blk_below (g := w.heap.size + 1) ho pSd; (try simp (disch := first | omega | (simp; done) | (simp; omega)) only [pBk] at B2); (try rw [Hid.out B_q] at B2); (try simp only [pBk] at B2); (try clear c_q f_q r_q B_q); obtain ⟨c_q, f_q, l_u1_q, r_q, B_q⟩ := blk_all B2; clear B2; clear ho) | (go_at_call_of 15 (Value.int .i64 n); refine (r1_Int _ _ (by omega)).mono ?_; rintro e u4 ⟨rfl, ho⟩; have hzu4 := Below.size ho; (try simp at hzu4); have HB2 : Hid (Below w.heap.size w u4) := Lib.hid (Below.trans (by exact pBl) (Below.mono ho pSd)); (try clear HB); have HB := HB2; clear HB2; have B2 := blk_below (g := w.heap.size) ho pSd; (try simp (disch := first | omega | (simp; done) | (simp; omega)) only [pBk] at B2); (try rw [Hid.out B_p] at B2); (try simp only [pBk] at B2); (try clear c_p f_p r_p B_p); obtain ⟨c_p, f_p, l_u4_p, r_p, B_p⟩ := blk_all B2; clear B2; have B2 := blk_below (g := w.heap.size + 1) ho pSd; (try simp (disch := first | omega | (simp; done) | (simp; omega)) only [pBk] at B2); (try rw [Hid.out B_q] at B2); (try simp only [pBk] at B2); (try clear c_q f_q r_q B_q); obtain ⟨c_q, f_q, l_u4_q, r_q, B_q⟩ := blk_all B2; clear B2; (try (have B2 := blk_below (g := u3.heap.size) ho (by first  | omega | (simp; done) | (simp; omega)); (try simp (disch := first | omega | (simp; done) | (simp; omega)) only [pBk] at B2); (try rw [Hid.out B_x] at B2); (try simp only [pBk] at B2); (try clear c_x f_x r_x B_x); obtain ⟨c_x, f_x, l_u4_x, r_x, B_x⟩ := blk_all B2; clear B2)); clear ho) | (go_at_call 15; refine (r1_Int _ _ (by decide)).mono ?_; rintro e u2 ⟨rfl, ho⟩; have hzu2 := Below.size ho; (try simp at hzu2); have HB2 : Hid (Below w.heap.size w u2) := Lib.hid (Below.trans (by exact pBl) (Below.mono ho pSd)); (try clear HB); have HB := HB2; clear HB2; have B2 := blk_below (g := w.heap.size) ho pSd; (try simp (disch := first | omega | (simp; done) | (simp; omega)) only [pBk] at B2); (try rw [Hid.out B_p] at B2); (try simp only [pBk] at B2); (try clear c_p f_p r_p B_p); obtain ⟨c_p, f_p, l_u2_p, r_p, B_p⟩ := blk_all B2; clear B2; have B2 := blk_below (g := w.heap.size + 1) ho pSd; (try simp (disch := first | omega | (simp; done) | (simp; omega)) only [pBk] at B2); (try rw [Hid.out B_q] at B2); (try simp only [pBk] at B2); (try clear c_q f_q r_q B_q); obtain ⟨c_q, f_q, l_u2_q, r_q, B_q⟩ := blk_all B2; clear B2; (try (have B2 := blk_below (g := u3.heap.size) ho (by first  | omega | (simp; done) | (simp; omega)); (try simp (disch := first | omega | (simp; done) | (simp; omega)) only [pBk] at B2); (try rw [Hid.out B_x] at B2); (try simp only [pBk] at B2); (try clear c_x f_x r_x B_x); obtain ⟨c_x, f_x, l_u2_x, r_x, B_x⟩ := blk_all B2; clear B2)); clear ho))
  have r0_p := row0_blk (Hid.out B_p)
  have r0_q := row0_blk (Hid.out B_q)
  have nx : ¬ (w.heap.size = u3.heap.size) := by omega
  have nx1 : ¬ (w.heap.size + 1 = u3.heap.size) := by omega
  have ny : ¬ (w.heap.size = u2.heap.size) := by omega
  have ny1 : ¬ (w.heap.size + 1 = u2.heap.size) := by omega
  have nx' : ¬ (u3.heap.size = w.heap.size) := by omega
  have nx1' : ¬ (u3.heap.size = w.heap.size + 1) := by omega
  have ny' : ¬ (u2.heap.size = w.heap.size) := by omega
  have ny1' : ¬ (u2.heap.size = w.heap.size + 1) := by omega
  go_region
  all_goals go_wp2
  all_goals (
    refine bodyPost_ret ?r rfl ⟨rfl, ?b⟩
    case r => exact results_two_body Try.results22 _ _ _ _ _ _ rfl rfl (by simp (maxDischargeDepth := 9) [go_sem, *]; done) (by simp (maxDischargeDepth := 9) [go_sem, *]; done) rfl rfl
    case b => (repeat (first | with_reducible exact Below.refl _ _ | (with_reducible refine Below.setRow ?_ (by first | omega | (simp; omega)) _) | (with_reducible refine Below.setCell ?_ pSd _) | (with_reducible refine Below.alloc ?_ pSd _) | (with_reducible refine Below.drew ?_) | with_reducible exact Hid.out (by assumption))))
end Go.Proofs.Ytdphhkbbphfjlaa
