/- Contracts that ContactEdges asks for. -/
import Derived.Test.YtdphhkbbphfjlaaLawB
import Derived.Test.YtdphhkbbphfjlaaLawS
set_option linter.unusedVariables false
set_option linter.unusedSimpArgs false
namespace Go.Proofs.Ytdphhkbbphfjlaa
open Go.RowKit
attribute [local go_sem] uwrap_lo lo_lo hi_lo val_hl val_00 v4_q
attribute [local go_sem ↓] Go.wp_at_zero Go.wp_at_succ
attribute [local go_sem] nOf_ok nOf_err eOf_ok eOf_err xOf_ok yOf_ok xOf_err yOf_err vecX_ok vecX_err vecX_ok_err hi_z lo_z okB_ok okB_err hitV_some hitV_none hitV_err hitB_some hitB_none hitB_err
attribute [local go_sem ↓] loadRow_body
attribute [local go_sem] rowAt_at rowAt_past rowAt_drew rowAt_far run_load_body row_0_0 row_0_1 row_0_2 row_0_3 row_0_4 row_0_5 row_1_0 row_1_1 row_1_2 row_1_3 row_1_4 row_2_0 row_2_1 row_2_2 row_2_3
attribute [local go_sem ↓] storeRow_body loadVar_body
attribute [local go_sem] run_loadV_body rowAt_same run_store_body row0_at row0_past row0_drew row0_far row0_rowfar rowAt_rowfar setRow_a2 setRow_b2 setRow_alloc cell_setRow_far frozen_setRow_far allOne_nil allOne_int allOne_bool allOne_slice
theorem lrN {m r x p : Int} (hm : 0 ≤ m ∧ m ≤ 1000) (hr : 0 ≤ r ∧ r ≤ 1000) (hx : 0 ≤ x ∧ x ≤ 1000) (hp : -1000 ≤ p ∧ p ≤ 1000) : MayN (lineR m r x p) :=
  ⟨R_v0 (by omega) (by omega), R_v0 (by omega) (by omega), R_v0 (by omega) (by omega), R_0, R_v0 (by omega) (by omega), R_0, R_0⟩
theorem ed_Over (a b d v : Int) (B : Bool) (w : World) (ha : 0 ≤ a ∧ a ≤ 255) (hb : 0 ≤ b ∧ b ≤ 255) (hd : d = 0 ∨ 2 ≤ d ∧ d ≤ 510) (hv : -128 ≤ v ∧ v ≤ 127) (hB : decide (d < a + b) = B) :
    Calls Try.prog 17 #[.agg #[.int .i64 1, .int .u64 0, .int .i64 a, .int .u64 0, .int .i64 0, .int .u64 0, .int .i64 0, .int .u64 0, .int .i64 v, .int .u64 0, .int .i64 0, .int .u64 0, .int .i64 0, .int .u64 0, .int .i64 0, .int .u64 0, .int .i64 0, .int .u64 0, .int .i64 0, .int .i64 0], .agg #[.int .i64 3, .int .u64 0, .int .i64 b, .int .u64 0, .int .i64 d, .int .u64 0, .int .i64 0, .int .u64 0, .int .i64 0, .int .u64 0, .int .i64 0, .int .u64 0, .int .i64 0, .int .u64 0, .int .i64 0, .int .u64 0, .int .i64 0, .int .u64 0, .int .i64 0, .int .i64 0]] w fun e w' => e = .returned (.tuple #[.bool B, .int .i64 0]) ∧ Below w.heap.size w w' := by
  have h := contact_OverX (lineR 1 a 0 v) (lineR 3 b d 0) w (lrN (by omega) (by omega) (by omega) (by omega)) (lrN (by omega) (by omega) (by omega) (by omega))
  have hdd := sq_b (show 0 ≤ d by omega) (show d ≤ 1000 by omega)
  have e := ed_over 1 a 0 v 3 b d 0 d (by omega) (by omega) (by omega) hdd (by omega)
  rw [decide_eq_decide.2 (sq_lt (show 0 ≤ d by omega) (show 0 ≤ a + b by omega)), hB] at e
  rw [e] at h
  simp only [lineR, hi_v0, lo_v0, hi_z, lo_z, okB_ok, eOf_ok] at h
  exact h
theorem ed_Over2 (a b d v : Int) (B : Bool) (w : World) (ha : 0 ≤ a ∧ a ≤ 255) (hb : 0 ≤ b ∧ b ≤ 255) (hd : d = 0 ∨ 2 ≤ d ∧ d ≤ 510) (hv : -128 ≤ v ∧ v ≤ 127) (hB : decide (d < a + b) = B) :
    Calls Try.prog 17 #[.agg #[.int .i64 3, .int .u64 0, .int .i64 b, .int .u64 0, .int .i64 d, .int .u64 0, .int .i64 0, .int .u64 0, .int .i64 0, .int .u64 0, .int .i64 0, .int .u64 0, .int .i64 0, .int .u64 0, .int .i64 0, .int .u64 0, .int .i64 0, .int .u64 0, .int .i64 0, .int .i64 0], .agg #[.int .i64 1, .int .u64 0, .int .i64 a, .int .u64 0, .int .i64 0, .int .u64 0, .int .i64 0, .int .u64 0, .int .i64 v, .int .u64 0, .int .i64 0, .int .u64 0, .int .i64 0, .int .u64 0, .int .i64 0, .int .u64 0, .int .i64 0, .int .u64 0, .int .i64 0, .int .i64 0]] w fun e w' => e = .returned (.tuple #[.bool B, .int .i64 0]) ∧ Below w.heap.size w w' := by
  have h := contact_OverX (lineR 3 b d 0) (lineR 1 a 0 v) w (lrN (by omega) (by omega) (by omega) (by omega)) (lrN (by omega) (by omega) (by omega) (by omega))
  have hdd := sq_b (show 0 ≤ d by omega) (show d ≤ 1000 by omega)
  have e := ed_over 3 b d 0 1 a 0 v (-d) (by omega) (by omega) (by omega) (by rw [Int.neg_mul_neg]; exact hdd) (by omega)
  rw [Int.neg_mul_neg, Int.add_comm b a, decide_eq_decide.2 (sq_lt (show 0 ≤ d by omega) (show 0 ≤ a + b by omega)), hB] at e
  rw [e] at h
  simp only [lineR, hi_v0, lo_v0, hi_z, lo_z, okB_ok, eOf_ok] at h
  exact h
theorem ed_Blow1 (a b d v : Int) (ha : 0 ≤ a ∧ a ≤ 255) (hb : 0 ≤ b ∧ b ≤ 255) (hd : d = 0 ∨ 2 ≤ d ∧ d ≤ 510) (hv : -128 ≤ v ∧ v ≤ 127) (ho : d < a + b) (h0 : 0 < d) (h1 : 0 < v) : ∃ j1 j2 : Int, ∀ w,
    Calls Try.prog 19 #[.agg #[.int .i64 1, .int .u64 0, .int .i64 a, .int .u64 0, .int .i64 0, .int .u64 0, .int .i64 0, .int .u64 0, .int .i64 v, .int .u64 0, .int .i64 0, .int .u64 0, .int .i64 0, .int .u64 0, .int .i64 0, .int .u64 0, .int .i64 0, .int .u64 0, .int .i64 0, .int .i64 0], .agg #[.int .i64 3, .int .u64 0, .int .i64 b, .int .u64 0, .int .i64 d, .int .u64 0, .int .i64 0, .int .u64 0, .int .i64 0, .int .u64 0, .int .i64 0, .int .u64 0, .int .i64 0, .int .u64 0, .int .i64 0, .int .u64 0, .int .i64 0, .int .u64 0, .int .i64 0, .int .i64 0], .agg #[.int .i64 1, .int .u64 0]] w fun e w' => e = .returned (.tuple #[.agg #[.int .i64 (hi j1), .int .u64 (lo j1), .int .i64 (hi j2), .int .u64 (lo j2)], .bool true, .int .i64 0]) ∧ Below w.heap.size w w' := by
  obtain ⟨j, e⟩ := ed_hit a b d v (by omega) (by omega) (by omega) ho
  refine ⟨j.1, j.2, fun w => ?_⟩
  have h := contact_Blow (lineR 1 a 0 v) (lineR 3 b d 0) (val 1 0) w (lrN (by omega) (by omega) (by omega) (by omega)) (lrN (by omega) (by omega) (by omega) (by omega)) (R_v0 (by decide) (by decide))
  rw [e] at h
  simp only [lineR, hi_v0, lo_v0, hi_z, lo_z, hitV_some, hitB_some, eOf_ok] at h
  exact h
theorem ed_Blow0 (a b d v : Int) (w : World) (ha : 0 ≤ a ∧ a ≤ 255) (hb : 0 ≤ b ∧ b ≤ 255) (hd : d = 0 ∨ 2 ≤ d ∧ d ≤ 510) (hv : -128 ≤ v ∧ v ≤ 127) (hn : ¬ (d < a + b ∧ 0 < d ∧ 0 < v)) :
    Calls Try.prog 19 #[.agg #[.int .i64 1, .int .u64 0, .int .i64 a, .int .u64 0, .int .i64 0, .int .u64 0, .int .i64 0, .int .u64 0, .int .i64 v, .int .u64 0, .int .i64 0, .int .u64 0, .int .i64 0, .int .u64 0, .int .i64 0, .int .u64 0, .int .i64 0, .int .u64 0, .int .i64 0, .int .i64 0], .agg #[.int .i64 3, .int .u64 0, .int .i64 b, .int .u64 0, .int .i64 d, .int .u64 0, .int .i64 0, .int .u64 0, .int .i64 0, .int .u64 0, .int .i64 0, .int .u64 0, .int .i64 0, .int .u64 0, .int .i64 0, .int .u64 0, .int .i64 0, .int .u64 0, .int .i64 0, .int .i64 0], .agg #[.int .i64 1, .int .u64 0]] w fun e w' => e = .returned (.tuple #[.agg #[.int .i64 0, .int .u64 0, .int .i64 0, .int .u64 0], .bool false, .int .i64 0]) ∧ Below w.heap.size w w' := by
  have h := contact_Blow (lineR 1 a 0 v) (lineR 3 b d 0) (val 1 0) w (lrN (by omega) (by omega) (by omega) (by omega)) (lrN (by omega) (by omega) (by omega) (by omega)) (R_v0 (by decide) (by decide))
  rw [ed_miss a b d v (by omega) hd hv hn] at h
  simp only [lineR, hi_v0, lo_v0, hi_z, lo_z, hitV_none, hitB_none, eOf_ok] at h
  exact h
end Go.Proofs.Ytdphhkbbphfjlaa
