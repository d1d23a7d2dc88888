/- The walks of the law's own two, awake. Contracts on bodies on a line; the walk of awake. -/
import Derived.Test.YtdphhkbbphfjlaaCBodyG
import Derived.Test.YtdphhkbbphfjlaaCRefA
import Derived.Test.YtdphhkbbphfjlaaCRowA
import Derived.Deep.RegionHeld3
import Derived.Deep.DeepCutAuto
import Derived.Test.YtdphhkbbphfjlaaCRg
namespace Go.Proofs.Ytdphhkbbphfjlaa
set_option linter.unusedVariables false
set_option linter.unusedSimpArgs false
open Go.RowKit
attribute [local go_sem] uwrap_lo lo_lo hi_lo val_hl val_00 v4_q
attribute [local go_sem ↓] Go.wp_at_zero Go.wp_at_succ
attribute [local go_sem] nOf_ok nOf_err eOf_ok eOf_err xOf_ok yOf_ok xOf_err yOf_err vecX_ok vecX_err vecX_ok_err hi_z lo_z okB_ok okB_err hitV_some hitV_none hitV_err hitB_some hitB_none hitB_err
attribute [local go_sem ↓] loadRow_body
attribute [local go_sem] rowAt_at rowAt_past rowAt_drew rowAt_far run_load_body row_0_0 row_0_1 row_0_2 row_0_3 row_0_4 row_0_5 row_1_0 row_1_1 row_1_2 row_1_3 row_1_4 row_2_0 row_2_1 row_2_2 row_2_3
attribute [local go_sem ↓] storeRow_body
attribute [local go_sem] run_loadV_body rowAt_same run_store_body row0_at row0_past row0_drew row0_far row0_rowfar rowAt_rowfar setRow_alloc cell_setRow_far frozen_setRow_far allOne_nil allOne_int allOne_bool allOne_slice
attribute [local go_sem ↓] Try.fix_eql
/-- a body of a mass, a place, a momentum on a line, two wide -/
def lineB (m x p : Int) : BodyI := ⟨val m 0, val 2 0, val x 0, 0, val p 0, 0, 0, 0, 0, 0, 0⟩

set_option maxRecDepth 100000 in
set_option maxHeartbeats 8000000 in
theorem l17_two (m n v : Int) (w : World) (hm : 0 ≤ m ∧ m ≤ 1000) (hn : 0 ≤ n ∧ n ≤ 1000) (hv : -1000 ≤ v ∧ v ≤ 1000) (hmv : -1000000 ≤ m * v ∧ m * v ≤ 1000000) :
    Calls Try.prog 22 #[.int .i64 m, .int .i64 n, .int .i64 v] w fun e w' => e = .returned (.tuple #[.agg #[.int .i64 (m), .int .u64 0, .int .i64 2, .int .u64 0, .int .i64 (0), .int .u64 0, .int .i64 0, .int .u64 0, .int .i64 (m * v), .int .u64 0, .int .i64 0, .int .u64 0, .int .i64 0, .int .u64 0, .int .i64 0, .int .u64 0, .int .i64 0, .int .u64 0, .int .i64 0, .int .i64 0], .agg #[.int .i64 (n), .int .u64 0, .int .i64 2, .int .u64 0, .int .i64 (2), .int .u64 0, .int .i64 0, .int .u64 0, .int .i64 (0), .int .u64 0, .int .i64 0, .int .u64 0, .int .i64 0, .int .u64 0, .int .i64 0, .int .u64 0, .int .i64 0, .int .u64 0, .int .i64 0, .int .i64 0]]) ∧ Below w.heap.size w w' := by
  have hwr : wrap64 (m * v) = m * v := by unfold wrap64; omega
  obtain ⟨hm0, hm1⟩ := hm
  obtain ⟨hn0, hn1⟩ := hn
  obtain ⟨hmv0, hmv1⟩ := hmv
  go_enter Try.func22, Try.ntmps22
  go_wp2_with (first | (go_at_call_of 15 (Value.int .i64 (m * v)); refine (r1_Int _ _ (by omega)).mono ?_; rintro e u3 ⟨rfl, ho⟩; have hzu3 := Below.size ho; (try simp at hzu3); have HB2 : Hid (Below w.heap.size w u3) := Lib.hid (Below.trans (by exact pBl) (Below.mono ho pSd)); (try clear HB); have HB := HB2; clear HB2; have B2 := blk_below (g := w.heap.size) ho pSd; (try simp (disch := first | omega | (simp; done) | (simp; omega)) only [pBk] at B2); (try rw [Hid.out B_p] at B2); (try simp only [pBk] at B2); (try clear c_p f_p r_p B_p); obtain ⟨c_p, f_p, l_u3_p, r_p, B_p⟩ := blk_all B2; clear B2; have B2 := blk_below (g := w.heap.size + 1) ho pSd; (try simp (disch := first | omega | (simp; done) | (simp; omega)) only [pBk] at B2); (try rw [Hid.out B_q] at B2); (try simp only [pBk] at B2); (try clear c_q f_q r_q B_q); obtain ⟨c_q, f_q, l_u3_q, r_q, B_q⟩ := blk_all B2; clear B2; clear ho) | (go_at_call_of 15 (Value.int .i64 m); refine (r1_Int _ _ (by omega)).mono ?_; rintro e u1 ⟨rfl, ho⟩; have hzu1 := Below.size ho; (try simp at hzu1); have HB2 : Hid (Below w.heap.size w u1) := Lib.hid (Below.trans (by exact pBl) (Below.mono ho pSd)); (try clear HB); have HB := HB2; clear HB2; have B2 := blk_below (g := w.heap.size) ho pSd; (try simp (disch := first | omega | (simp; done) | (simp; omega)) only [pBk] at B2); (try rw [Hid.out B_p] at B2); (try simp only [pBk] at B2); (try clear c_p f_p r_p B_p); obtain ⟨c_p, f_p, l_u1_p, r_p, B_p⟩ := blk_all B2; clear B2; have B2 := blk_below (g := w.heap.size + 1) ho pSd; (try simp (disch := first | omega | (simp; done) | (simp; omega)) only [pBk] at B2); (try rw [Hid.out B_q] at B2); (try simp only [pBk] at B2); (try clear c_q f_q r_q B_q); obtain ⟨c_q, f_q, l_u1_q, r_q, B_q⟩ := blk_all B2; clear B2; clear ho) | (go_at_call_of 15 (Value.int .i64 n); refine (r1_Int _ _ (by omega)).mono ?_; rintro e u4 ⟨rfl, ho⟩; have hzu4 := Below.size ho; (try simp at hzu4); have HB2 : Hid (Below w.heap.size w u4) := Lib.hid (Below.trans (by exact pBl) (Below.mono ho pSd)); (try clear HB); have HB := HB2; clear HB2; have B2 := blk_below (g := w.heap.size) ho pSd; (try simp (disch := first | omega | (simp; done) | (simp; omega)) only [pBk] at B2); (try rw [Hid.out B_p] at B2); (try simp only [pBk] at B2); (try clear c_p f_p r_p B_p); obtain ⟨c_p, f_p, l_u4_p, r_p, B_p⟩ := blk_all B2; clear B2; have B2 := blk_below (g := w.heap.size + 1) ho pSd; (try simp (disch := first | omega | (simp; done) | (simp; omega)) only [pBk] at B2); (try rw [Hid.out B_q] at B2); (try simp only [pBk] at B2); (try clear c_q f_q r_q B_q); obtain ⟨c_q, f_q, l_u4_q, r_q, B_q⟩ := blk_all B2; clear B2; (try (have B2 := blk_below (g := u3.heap.size) ho (by first  | omega | (simp; done) | (simp; omega)); (try simp (disch := first | omega | (simp; done) | (simp; omega)) only [pBk] at B2); (try rw [Hid.out B_x] at B2); (try simp only [pBk] at B2); (try clear c_x f_x r_x B_x); obtain ⟨c_x, f_x, l_u4_x, r_x, B_x⟩ := blk_all B2; clear B2)); clear ho) | (go_at_call 15; refine (r1_Int _ _ (by decide)).mono ?_; rintro e u2 ⟨rfl, ho⟩; have hzu2 := Below.size ho; (try simp at hzu2); have HB2 : Hid (Below w.heap.size w u2) := Lib.hid (Below.trans (by exact pBl) (Below.mono ho pSd)); (try clear HB); have HB := HB2; clear HB2; have B2 := blk_below (g := w.heap.size) ho pSd; (try simp (disch := first | omega | (simp; done) | (simp; omega)) only [pBk] at B2); (try rw [Hid.out B_p] at B2); (try simp only [pBk] at B2); (try clear c_p f_p r_p B_p); obtain ⟨c_p, f_p, l_u2_p, r_p, B_p⟩ := blk_all B2; clear B2; have B2 := blk_below (g := w.heap.size + 1) ho pSd; (try simp (disch := first | omega | (simp; done) | (simp; omega)) only [pBk] at B2); (try rw [Hid.out B_q] at B2); (try simp only [pBk] at B2); (try clear c_q f_q r_q B_q); obtain ⟨c_q, f_q, l_u2_q, r_q, B_q⟩ := blk_all B2; clear B2; (try (have B2 := blk_below (g := u3.heap.size) ho (by first  | omega | (simp; done) | (simp; omega)); (try simp (disch := first | omega | (simp; done) | (simp; omega)) only [pBk] at B2); (try rw [Hid.out B_x] at B2); (try simp only [pBk] at B2); (try clear c_x f_x r_x B_x); obtain ⟨c_x, f_x, l_u2_x, r_x, B_x⟩ := blk_all B2; clear B2)); clear ho))
  have r0_p := row0_blk (Hid.out B_p)
  have r0_q := row0_blk (Hid.out B_q)
  have nx : ¬ (w.heap.size = u3.heap.size) := by omega
  have nx1 : ¬ (w.heap.size + 1 = u3.heap.size) := by omega
  have ny : ¬ (w.heap.size = u2.heap.size) := by omega
  have ny1 : ¬ (w.heap.size + 1 = u2.heap.size) := by omega
  have nx' : ¬ (u3.heap.size = w.heap.size) := by omega
  have nx1' : ¬ (u3.heap.size = w.heap.size + 1) := by omega
  have ny' : ¬ (u2.heap.size = w.heap.size) := by omega
  have ny1' : ¬ (u2.heap.size = w.heap.size + 1) := by omega
  go_region
  all_goals go_wp2
  all_goals (
    refine bodyPost_ret ?r rfl ⟨rfl, ?b⟩
    case r => exact results_two_body Try.results22 _ _ _ _ _ _ rfl rfl (by simp (maxDischargeDepth := 9) [go_sem, *]; done) (by simp (maxDischargeDepth := 9) [go_sem, *]; done) rfl rfl
    case b => (repeat (first | with_reducible exact Below.refl _ _ | (with_reducible refine Below.setRow ?_ (by first | omega | (simp; omega)) _) | (with_reducible refine Below.setCell ?_ pSd _) | (with_reducible refine Below.alloc ?_ pSd _) | (with_reducible refine Below.drew ?_) | with_reducible exact Hid.out (by assumption))))
end Go.Proofs.Ytdphhkbbphfjlaa
namespace Go.Proofs.Ytdphhkbbphfjlaa
set_option linter.unusedVariables false
set_option linter.unusedSimpArgs false
open Go.RowKit
attribute [local go_sem] uwrap_lo lo_lo hi_lo val_hl val_00 v4_q
attribute [local go_sem ↓] Go.wp_at_zero Go.wp_at_succ
attribute [local go_sem] nOf_ok nOf_err eOf_ok eOf_err xOf_ok yOf_ok xOf_err yOf_err vecX_ok vecX_err vecX_ok_err hi_z lo_z okB_ok okB_err hitV_some hitV_none hitV_err hitB_some hitB_none hitB_err
attribute [local go_sem ↓] loadRow_body
attribute [local go_sem] rowAt_at rowAt_past rowAt_drew rowAt_far run_load_body row_0_0 row_0_1 row_0_2 row_0_3 row_0_4 row_0_5 row_1_0 row_1_1 row_1_2 row_1_3 row_1_4 row_2_0 row_2_1 row_2_2 row_2_3
attribute [local go_sem ↓] storeRow_body loadVar_body
attribute [local go_sem] run_loadV_body rowAt_same run_store_body row0_at row0_past row0_drew row0_far row0_rowfar rowAt_rowfar setRow_a2 setRow_b2 setRow_alloc cell_setRow_far frozen_setRow_far allOne_nil allOne_int allOne_bool allOne_slice
theorem hi_v0 (n : Int) : hi (val n 0) = n := by unfold hi val; omega
theorem lo_v0 (n : Int) : lo (val n 0) = 0 := by unfold lo val; omega
theorem lnh_mass (m x p : Int) : hi (lineB m x p).mass = m := hi_v0 _
theorem lnl_mass (m x p : Int) : lo (lineB m x p).mass = 0 := lo_v0 _
theorem lnh_radius (m x p : Int) : hi (lineB m x p).radius = 2 := hi_v0 _
theorem lnl_radius (m x p : Int) : lo (lineB m x p).radius = 0 := lo_v0 _
theorem lnh_x (m x p : Int) : hi (lineB m x p).x = x := hi_v0 _
theorem lnl_x (m x p : Int) : lo (lineB m x p).x = 0 := lo_v0 _
theorem lnh_y (m x p : Int) : hi (lineB m x p).y = 0 := hi_z
theorem lnl_y (m x p : Int) : lo (lineB m x p).y = 0 := lo_z
theorem lnh_px (m x p : Int) : hi (lineB m x p).px = p := hi_v0 _
theorem lnl_px (m x p : Int) : lo (lineB m x p).px = 0 := lo_v0 _
theorem lnh_py (m x p : Int) : hi (lineB m x p).py = 0 := hi_z
theorem lnl_py (m x p : Int) : lo (lineB m x p).py = 0 := lo_z
theorem lnh_fuel (m x p : Int) : hi (lineB m x p).fuel = 0 := hi_z
theorem lnl_fuel (m x p : Int) : lo (lineB m x p).fuel = 0 := lo_z
theorem lnh_rate (m x p : Int) : hi (lineB m x p).rate = 0 := hi_z
theorem lnl_rate (m x p : Int) : lo (lineB m x p).rate = 0 := lo_z
theorem lnh_exh (m x p : Int) : hi (lineB m x p).exh = 0 := hi_z
theorem lnl_exh (m x p : Int) : lo (lineB m x p).exh = 0 := lo_z
theorem ln_thr (m x p : Int) : (lineB m x p).thr = 0 := rfl
theorem ln_head (m x p : Int) : (lineB m x p).head = 0 := rfl
theorem R_v0 {n : Int} (h0 : -9223372036854775807 ≤ n) (h1 : n ≤ 9223372036854775807) : R (val n 0) := by unfold R val; omega
theorem lineN {m x p : Int} (hm : -9223372036854775807 ≤ m ∧ m ≤ 9223372036854775807) (hx : -9223372036854775807 ≤ x ∧ x ≤ 9223372036854775807) (hp : -9223372036854775807 ≤ p ∧ p ≤ 9223372036854775807) : MayN (lineB m x p) :=
  ⟨R_v0 hm.1 hm.2, R_v0 (by decide) (by decide), R_v0 hx.1 hx.2, R_0, R_v0 hp.1 hp.2, R_0, R_0⟩

theorem line_Over (m x p n y q : Int) (w : World) (ha : MayN (lineB m x p)) (hb : MayN (lineB n y q)) :
    Calls Try.prog 17 #[.agg #[.int .i64 (m), .int .u64 0, .int .i64 2, .int .u64 0, .int .i64 (x), .int .u64 0, .int .i64 0, .int .u64 0, .int .i64 (p), .int .u64 0, .int .i64 0, .int .u64 0, .int .i64 0, .int .u64 0, .int .i64 0, .int .u64 0, .int .i64 0, .int .u64 0, .int .i64 0, .int .i64 0], .agg #[.int .i64 (n), .int .u64 0, .int .i64 2, .int .u64 0, .int .i64 (y), .int .u64 0, .int .i64 0, .int .u64 0, .int .i64 (q), .int .u64 0, .int .i64 0, .int .u64 0, .int .i64 0, .int .u64 0, .int .i64 0, .int .u64 0, .int .i64 0, .int .u64 0, .int .i64 0, .int .i64 0]] w fun e w' => e = .returned (.tuple #[.bool (okB (overX (lineB m x p) (lineB n y q))), .int .i64 (eOf (overX (lineB m x p) (lineB n y q)))]) ∧ Below w.heap.size w w' := by
  have h := contact_OverX (lineB m x p) (lineB n y q) w ha hb
  simp only [lnh_mass, lnl_mass, lnh_radius, lnl_radius, lnh_x, lnl_x, lnh_y, lnl_y, lnh_px, lnl_px, lnh_py, lnl_py, lnh_fuel, lnl_fuel, lnh_rate, lnl_rate, lnh_exh, lnl_exh, ln_thr, ln_head] at h
  exact h
theorem line_Blow (m x p n y q k : Int) (w : World) (ha : MayN (lineB m x p)) (hb : MayN (lineB n y q)) (hk : R (val k 0)) :
    Calls Try.prog 19 #[.agg #[.int .i64 (m), .int .u64 0, .int .i64 2, .int .u64 0, .int .i64 (x), .int .u64 0, .int .i64 0, .int .u64 0, .int .i64 (p), .int .u64 0, .int .i64 0, .int .u64 0, .int .i64 0, .int .u64 0, .int .i64 0, .int .u64 0, .int .i64 0, .int .u64 0, .int .i64 0, .int .i64 0], .agg #[.int .i64 (n), .int .u64 0, .int .i64 2, .int .u64 0, .int .i64 (y), .int .u64 0, .int .i64 0, .int .u64 0, .int .i64 (q), .int .u64 0, .int .i64 0, .int .u64 0, .int .i64 0, .int .u64 0, .int .i64 0, .int .u64 0, .int .i64 0, .int .u64 0, .int .i64 0, .int .i64 0], .agg #[.int .i64 k, .int .u64 0]] w fun e w' => e = .returned (.tuple #[.agg #[.int .i64 (hi (hitV (blowX (lineB m x p) (lineB n y q) (val k 0))).1), .int .u64 (lo (hitV (blowX (lineB m x p) (lineB n y q) (val k 0))).1), .int .i64 (hi (hitV (blowX (lineB m x p) (lineB n y q) (val k 0))).2), .int .u64 (lo (hitV (blowX (lineB m x p) (lineB n y q) (val k 0))).2)], .bool (hitB (blowX (lineB m x p) (lineB n y q) (val k 0))), .int .i64 (eOf (blowX (lineB m x p) (lineB n y q) (val k 0)))]) ∧ Below w.heap.size w w' := by
  have h := contact_Blow (lineB m x p) (lineB n y q) (val k 0) w ha hb hk
  simp only [lnh_mass, lnl_mass, lnh_radius, lnl_radius, lnh_x, lnl_x, lnh_y, lnl_y, lnh_px, lnl_px, lnh_py, lnl_py, lnh_fuel, lnl_fuel, lnh_rate, lnl_rate, lnh_exh, lnl_exh, ln_thr, ln_head, hi_v0, lo_v0] at h
  exact h
theorem awk_over : overX (lineB 2 0 10) (lineB 2 2 0) = .ok true := by kernel_rfl
theorem awk_blow : blowX (lineB 2 0 10) (lineB 2 2 0) (val 1 0) = .ok (some (184467440737095516160, 0)) := by kernel_rfl
theorem hi_10 : hi 184467440737095516160 = 10 := by kernel_rfl
theorem lo_10 : lo 184467440737095516160 = 0 := by kernel_rfl
theorem awk_eq (w : World) : (binOp .eql 26 (.agg #[.int .i64 10, .int .u64 0, .int .i64 0, .int .u64 0]) (.agg #[.int .i64 10, .int .u64 0, .int .i64 0, .int .u64 0])).run Try.prog w = .ok (.bool true) w := by kernel_rfl
attribute [local go_sem ↓] awk_eq
theorem wrap_0 : IntKind.i64.wrap 0 = 0 := by kernel_rfl
attribute [local go_sem] hi_10 lo_10 awk_over awk_blow wrap_0

set_option maxRecDepth 100000 in
set_option maxHeartbeats 8000000 in
theorem l17_awake (w : World) :
    Calls Try.prog 16 #[] w fun e w' => e = .returned (.bool true) ∧ Below w.heap.size w w' := by
  have ov := awk_over
  have bl := awk_blow
  go_enter Try.func16, Try.ntmps16
  go_wp2_with (first | (go_at_call 22; refine (l17_two 2 2 5 _ (by decide) (by decide) (by decide) (by decide)).mono ?_; rintro e u1 ⟨rfl, ho⟩; have hzu1 := Below.size ho; have HB : Hid (Below w.heap.size w u1) := Lib.hid ho; clear ho) | (go_at_call 17; refine (line_Over 2 0 10 2 2 0 _ (by exact lineN (by decide) (by decide) (by decide)) (by exact lineN (by decide) (by decide) (by decide))).mono ?_; rintro e u2 ⟨rfl, ho⟩; have hzu2 := Below.size ho; (try simp at hzu2); have HB2 : Hid (Below w.heap.size w u2) := Lib.hid (Below.trans (by exact pBl) (Below.mono ho pSd)); (try clear HB); have HB := HB2; clear HB2; have B2 := blk_below (g := u1.heap.size) ho pSd; (try simp (disch := first | omega | (simp; done) | (simp; omega)) only [pBk] at B2); (try rw [Hid.out B_x] at B2); (try simp only [pBk] at B2); (try clear c_x f_x r_x B_x); obtain ⟨c_x, f_x, l_u2_x, r_x, B_x⟩ := blk_all B2; clear B2; have B2 := blk_below (g := u1.heap.size + 1) ho pSd; (try simp (disch := first | omega | (simp; done) | (simp; omega)) only [pBk] at B2); (try rw [Hid.out B_y] at B2); (try simp only [pBk] at B2); (try clear c_y f_y r_y B_y); obtain ⟨c_y, f_y, l_u2_y, r_y, B_y⟩ := blk_all B2; clear B2; clear ho))
  have nx : ¬ (u1.heap.size = u2.heap.size) := by omega
  have ny : ¬ (u1.heap.size + 1 = u2.heap.size) := by omega
  go_upto_region 3 with fail
  go_cut [5, 6, 7] (fun s5 s6 s7 wx => ∃ g_j : Nat, s5 = .pointer (some ⟨g_j, 0, none⟩) ∧ s6 = .bool true ∧ s7 = .int .i64 0 ∧ Below w.heap.size w wx ∧ u2.heap.size ≤ wx.heap.size ∧ u2.heap.size ≤ g_j ∧ blk wx (g_j) = some (.cells #[.int .i64 10, .int .u64 0, .int .i64 0, .int .u64 0] 26 (0, 0)))
  case first =>
    go_region_held3 (fun w' => rowAt w' u1.heap.size = #[.int .i64 2, .int .u64 0, .int .i64 2, .int .u64 0, .int .i64 0, .int .u64 0, .int .i64 0, .int .u64 0, .int .i64 10, .int .u64 0, .int .i64 0, .int .u64 0, .int .i64 0, .int .u64 0, .int .i64 0, .int .u64 0, .int .i64 0, .int .u64 0, .int .i64 0, .int .i64 0] ∧ rowAt w' (u1.heap.size + 1) = #[.int .i64 2, .int .u64 0, .int .i64 2, .int .u64 0, .int .i64 2, .int .u64 0, .int .i64 0, .int .u64 0, .int .i64 0, .int .u64 0, .int .i64 0, .int .u64 0, .int .i64 0, .int .u64 0, .int .i64 0, .int .u64 0, .int .i64 0, .int .u64 0, .int .i64 0, .int .i64 0]) (refine ⟨?_, ?_⟩ <;> (simp (maxDischargeDepth := 9) [go_sem, *]; done))
      ((first | (go_at_call 15; refine (r1_Int _ _ (by decide)).mono ?_; rintro e u3 ⟨rfl, ho⟩; have hzu3 := Below.size ho; (try simp at hzu3); have HB2 : Hid (Below w.heap.size w u3) := Lib.hid (Below.trans (by exact pBl) (Below.mono ho pSd)); (try clear HB); have HB := HB2; clear HB2; have B2 := blk_below (g := u1.heap.size) ho pSd; (try simp (disch := first | omega | (simp; done) | (simp; omega)) only [pBk] at B2); (try rw [Hid.out B_x] at B2); (try simp only [pBk] at B2); (try clear c_x f_x r_x B_x); obtain ⟨c_x, f_x, l_u3_x, r_x, B_x⟩ := blk_all B2; clear B2; have B2 := blk_below (g := u1.heap.size + 1) ho pSd; (try simp (disch := first | omega | (simp; done) | (simp; omega)) only [pBk] at B2); (try rw [Hid.out B_y] at B2); (try simp only [pBk] at B2); (try clear c_y f_y r_y B_y); obtain ⟨c_y, f_y, l_u3_y, r_y, B_y⟩ := blk_all B2; clear B2; (try (have B2 := blk_below (g := u2.heap.size) ho (by first  | omega | (simp; done) | (simp; omega)); (try simp (disch := first | omega | (simp; done) | (simp; omega)) only [pBk] at B2); (try rw [Hid.out B_o0] at B2); (try simp only [pBk] at B2); (try clear c_o0 f_o0 r_o0 B_o0); obtain ⟨c_o0, f_o0, l_u3_o0, r_o0, B_o0⟩ := blk_all B2; clear B2)); clear ho; have nx3 : ¬ (u1.heap.size = u3.heap.size) := (by omega); have ny3 : ¬ (u1.heap.size + 1 = u3.heap.size) := (by omega)) | (go_at_call 19; refine (line_Blow 2 0 10 2 2 0 1 _ (by exact lineN (by decide) (by decide) (by decide)) (by exact lineN (by decide) (by decide) (by decide)) (by exact R_v0 (by decide) (by decide))).mono ?_; rintro e u4 ⟨rfl, ho⟩; have hzu4 := Below.size ho; (try simp at hzu4); have HB2 : Hid (Below w.heap.size w u4) := Lib.hid (Below.trans (by exact pBl) (Below.mono ho pSd)); (try clear HB); have HB := HB2; clear HB2; have B2 := blk_below (g := u1.heap.size) ho pSd; (try simp (disch := first | omega | (simp; done) | (simp; omega)) only [pBk] at B2); (try rw [Hid.out B_x] at B2); (try simp only [pBk] at B2); (try clear c_x f_x r_x B_x); obtain ⟨c_x, f_x, l_u4_x, r_x, B_x⟩ := blk_all B2; clear B2; have B2 := blk_below (g := u1.heap.size + 1) ho pSd; (try simp (disch := first | omega | (simp; done) | (simp; omega)) only [pBk] at B2); (try rw [Hid.out B_y] at B2); (try simp only [pBk] at B2); (try clear c_y f_y r_y B_y); obtain ⟨c_y, f_y, l_u4_y, r_y, B_y⟩ := blk_all B2; clear B2; (try (have B2 := blk_below (g := u2.heap.size) ho (by first  | omega | (simp; done) | (simp; omega)); (try simp (disch := first | omega | (simp; done) | (simp; omega)) only [pBk] at B2); (try rw [Hid.out B_o0] at B2); (try simp only [pBk] at B2); (try clear c_o0 f_o0 r_o0 B_o0); obtain ⟨c_o0, f_o0, l_u4_o0, r_o0, B_o0⟩ := blk_all B2; clear B2)); (try (have B2 := blk_below (g := u3.heap.size) ho (by first  | omega | (simp; done) | (simp; omega)); (try simp (disch := first | omega | (simp; done) | (simp; omega)) only [pBk] at B2); (try rw [Hid.out B_o1] at B2); (try simp only [pBk] at B2); (try clear c_o1 f_o1 r_o1 B_o1); obtain ⟨c_o1, f_o1, l_u4_o1, r_o1, B_o1⟩ := blk_all B2; clear B2)); clear ho; have nx4 : ¬ (u1.heap.size = u4.heap.size) := (by omega); have ny4 : ¬ (u1.heap.size + 1 = u4.heap.size) := (by omega))))
    all_goals (go_wp2_with fail; go_meet; refine ⟨_, rfl, rfl, rfl, ?_, ?_, ?_, ?_⟩)
    all_goals first | omega | (simp; done) | (simp; omega) | ((try simp (disch := first | omega | (simp; done) | (simp; omega)) only [pBk]); first | done | with_reducible rfl | with_reducible exact Hid.out (by assumption) | (with_reducible rw [Hid.out B_o0]; (try simp only [pBk]); first | done | with_reducible rfl) | (with_reducible rw [Hid.out B_o1]; (try simp only [pBk]); first | done | with_reducible rfl) | (with_reducible rw [Hid.out B_x]; (try simp only [pBk]); first | done | with_reducible rfl) | (with_reducible rw [Hid.out B_y]; (try simp only [pBk]); first | done | with_reducible rfl)) | skip
    all_goals (exact pBl)
  case rest =>
    obtain ⟨g_j, rfl, rfl, rfl, hb_, hLB, hp_g_j, e_j⟩ := hcut
    (try clear HB); have HB := Lib.hid hb_; clear hb_
    (try clear c_j); (try clear f_j r_j B_j); obtain ⟨c_j, f_j, l_j, r_j, B_j⟩ := blk_all e_j; clear e_j
    go_wp2_with fail
    refine wp_region_G (fun w' => w'.cell? ⟨g_j, 0, none⟩ = some (.int .i64 10) ∧ w'.cell? ⟨g_j, 1, none⟩ = some (.int .u64 0) ∧ w'.cell? ⟨g_j, 2, none⟩ = some (.int .i64 0) ∧ w'.cell? ⟨g_j, 3, none⟩ = some (.int .u64 0)) 18 (by kernel_rfl) ?_ (fun hHeld => ?_)
    · exact pKp
    refine Gw.tk 0 rfl ?_
    (try simp only [pLy])
    refine Gw.tk 1 rfl ?_
    (try simp only [pLy])
    refine Gw.tk 2 rfl ?_
    (try simp only [pLy])
    refine Gw.tk 3 rfl ?_
    (try simp only [pLy])
    refine Gw.tk 4 rfl ?_
    (try simp only [pLy])
    refine Gw.tk 5 rfl ?_
    (try simp only [pLy])
    refine Gw.tk 7 rfl ?_
    (try simp only [pLy])
    refine Gw.one (i := 6) rfl (by kernel_rfl) (fun K hK => ?_)
    go_simp
    (go_at_call 21; refine (l1_Num _ _).mono ?_; rintro e u5 ⟨rfl, ho⟩; have hzu5 := Below.size ho; (try simp at hzu5); have HB2 : Hid (Below w.heap.size w u5) := Lib.hid (Below.trans (by exact pBl) (Below.mono ho pSd)); (try clear HB); have HB := HB2; clear HB2; have B2 := blk_below (g := g_j) ho pSd; (try simp (disch := first | omega | (simp; done) | (simp; omega)) only [pBk] at B2); (try rw [Hid.out B_j] at B2); (try simp only [pBk] at B2); (try clear c_j f_j r_j B_j); obtain ⟨c_j, f_j, l_u5_j, r_j, B_j⟩ := blk_all B2; clear B2; clear ho)
    (try go_wp2_with fail)
    refine hK.out _ _ ?_ (fun hHeld => ?_)
    · exact pKp
    clear hK K
    (try simp only [pLy])
    refine Gw.one (i := 8) rfl (by kernel_rfl) (fun K hK => ?_)
    go_simp
    (go_at_call 21; refine (l1_Num _ _).mono ?_; rintro e u5 ⟨rfl, ho⟩; have hzu5 := Below.size ho; (try simp at hzu5); have HB2 : Hid (Below w.heap.size w u5) := Lib.hid (Below.trans (by exact pBl) (Below.mono ho pSd)); (try clear HB); have HB := HB2; clear HB2; have B2 := blk_below (g := g_j) ho pSd; (try simp (disch := first | omega | (simp; done) | (simp; omega)) only [pBk] at B2); (try rw [Hid.out B_j] at B2); (try simp only [pBk] at B2); (try clear c_j f_j r_j B_j); obtain ⟨c_j, f_j, l_u5_j, r_j, B_j⟩ := blk_all B2; clear B2; clear ho)
    (try go_wp2_with fail)
    refine hK.out _ _ ?_ (fun hHeld => ?_)
    · exact pKp
    clear hK K
    (try simp only [pLy])
    refine Gw.tk 9 rfl ?_
    (try simp only [pLy])
    refine Gw.tk 10 rfl ?_
    (try simp only [pLy])
    refine Gw.tk 11 rfl ?_
    (try simp only [pLy])
    refine Gw.tk 12 rfl ?_
    (try simp only [pLy])
    refine Gw.tk 13 rfl ?_
    (try simp only [pLy])
    refine Gw.one (i := 14) rfl (by kernel_rfl) (fun K hK => ?_)
    go_simp
    (go_at_call 15; refine (r1_Int _ _ (by decide)).mono ?_; rintro e u6 ⟨rfl, ho⟩; have hzu6 := Below.size ho; (try simp at hzu6); have HB2 : Hid (Below w.heap.size w u6) := Lib.hid (Below.trans (by exact pBl) (Below.mono ho pSd)); (try clear HB); have HB := HB2; clear HB2; have B2 := blk_below (g := g_j) ho pSd; (try simp (disch := first | omega | (simp; done) | (simp; omega)) only [pBk] at B2); (try rw [Hid.out B_j] at B2); (try simp only [pBk] at B2); (try clear c_j f_j r_j B_j); obtain ⟨c_j, f_j, l_u6_j, r_j, B_j⟩ := blk_all B2; clear B2; clear ho)
    (try go_wp2_with fail)
    refine hK.out _ _ ?_ (fun hHeld => ?_)
    · exact pKp
    clear hK K
    (try simp only [pLy])
    refine Gw.tk 15 rfl ?_
    (try simp only [pLy])
    refine Gw.tk 16 rfl ?_
    (try simp only [pLy])
    refine Gw.tk 17 rfl ?_
    (try simp only [pLy])
    refine Gw.last (i := 18) rfl (by kernel_rfl) (by decide) (fun K hK => ?_)
    go_simp
    refine hK.out _ _ ?_
    clear hK K
    (try simp only [pLy])
    refine Gw.done (by kernel_rfl) ?_ _
    go_wp2_with fail
    all_goals refine bodyPost_ret ?r rfl ⟨rfl, ?b⟩
    case r => simp (maxDischargeDepth := 9) [results, Try.results16, go_sem, *]
    case b => exact pBl
end Go.Proofs.Ytdphhkbbphfjlaa
