/- Contracts that ContactLine asks for. -/
import Derived.Test.YtdphhkbbphfjlaaLawB
import Derived.Test.YtdphhkbbphfjlaaRefJ
import Derived.Test.YtdphhkbbphfjlaaLawP
set_option linter.unusedVariables false
set_option linter.unusedSimpArgs false
namespace Go.Proofs.Ytdphhkbbphfjlaa
open Go.RowKit
attribute [local go_sem] uwrap_lo lo_lo hi_lo val_hl val_00 v4_q
attribute [local go_sem ↓] Go.wp_at_zero Go.wp_at_succ
attribute [local go_sem] nOf_ok nOf_err eOf_ok eOf_err xOf_ok yOf_ok xOf_err yOf_err vecX_ok vecX_err vecX_ok_err hi_z lo_z okB_ok okB_err hitV_some hitV_none hitV_err hitB_some hitB_none hitB_err
attribute [local go_sem ↓] loadRow_body
attribute [local go_sem] rowAt_at rowAt_past rowAt_drew rowAt_far run_load_body row_0_0 row_0_1 row_0_2 row_0_3 row_0_4 row_0_5 row_1_0 row_1_1 row_1_2 row_1_3 row_1_4 row_2_0 row_2_1 row_2_2 row_2_3
attribute [local go_sem ↓] storeRow_body loadVar_body
attribute [local go_sem] run_loadV_body rowAt_same run_store_body row0_at row0_past row0_drew row0_far row0_rowfar rowAt_rowfar setRow_a2 setRow_b2 setRow_alloc cell_setRow_far frozen_setRow_far allOne_nil allOne_int allOne_bool allOne_slice
theorem KS_b {K S : Int} (hK : 1 ≤ K ∧ K ≤ 50) (hS : 1 ≤ S ∧ S ≤ 50) : 1 ≤ K * S ∧ K * S ≤ 2500 := by
  constructor
  · have := Int.mul_le_mul hK.1 hS.1 (by omega) (by omega); omega
  · have := Int.mul_le_mul hK.2 hS.2 (by omega) (by omega); omega
theorem two_p (K S p : Int) (w : World) (hK : 1 ≤ K ∧ K ≤ 50) (hS : -50 ≤ S ∧ S ≤ 50) (hp : K * S = p) (hpb : -2500 ≤ p ∧ p ≤ 2500) :
    Calls Try.prog 22 #[.int .i64 K, .int .i64 K, .int .i64 S] w fun e w' => e = .returned (.tuple #[.agg #[.int .i64 K, .int .u64 0, .int .i64 2, .int .u64 0, .int .i64 0, .int .u64 0, .int .i64 0, .int .u64 0, .int .i64 p, .int .u64 0, .int .i64 0, .int .u64 0, .int .i64 0, .int .u64 0, .int .i64 0, .int .u64 0, .int .i64 0, .int .u64 0, .int .i64 0, .int .i64 0], .agg #[.int .i64 K, .int .u64 0, .int .i64 2, .int .u64 0, .int .i64 2, .int .u64 0, .int .i64 0, .int .u64 0, .int .i64 0, .int .u64 0, .int .i64 0, .int .u64 0, .int .i64 0, .int .u64 0, .int .i64 0, .int .u64 0, .int .i64 0, .int .u64 0, .int .i64 0, .int .i64 0]]) ∧ Below w.heap.size w w' := by
  subst hp
  exact l17_two K K S w ⟨by omega, by omega⟩ ⟨by omega, by omega⟩ ⟨by omega, by omega⟩ ⟨by omega, by omega⟩
theorem lnN {K x p : Int} (hK : 1 ≤ K ∧ K ≤ 50) (hx : 0 ≤ x ∧ x ≤ 2) (hp : -2500 ≤ p ∧ p ≤ 2500) : MayN (lineB K x p) := lineN ⟨by omega, by omega⟩ ⟨by omega, by omega⟩ ⟨by omega, by omega⟩
theorem blow_hit1 (K S p : Int) (w : World) (hK : 1 ≤ K ∧ K ≤ 50) (hS : 1 ≤ S ∧ S ≤ 50) (hp : K * S = p) (hpb : 1 ≤ p ∧ p ≤ 2500) :
    Calls Try.prog 19 #[.agg #[.int .i64 K, .int .u64 0, .int .i64 2, .int .u64 0, .int .i64 0, .int .u64 0, .int .i64 0, .int .u64 0, .int .i64 p, .int .u64 0, .int .i64 0, .int .u64 0, .int .i64 0, .int .u64 0, .int .i64 0, .int .u64 0, .int .i64 0, .int .u64 0, .int .i64 0, .int .i64 0], .agg #[.int .i64 K, .int .u64 0, .int .i64 2, .int .u64 0, .int .i64 2, .int .u64 0, .int .i64 0, .int .u64 0, .int .i64 0, .int .u64 0, .int .i64 0, .int .u64 0, .int .i64 0, .int .u64 0, .int .i64 0, .int .u64 0, .int .i64 0, .int .u64 0, .int .i64 0, .int .i64 0], .agg #[.int .i64 1, .int .u64 0]] w fun e w' => e = .returned (.tuple #[.agg #[.int .i64 p, .int .u64 0, .int .i64 0, .int .u64 0], .bool true, .int .i64 0]) ∧ Below w.heap.size w w' := by
  have h := line_Blow K 0 p K 2 0 1 w (lnN hK ⟨by omega, by omega⟩ ⟨by omega, by omega⟩) (lnN hK ⟨by omega, by omega⟩ ⟨by omega, by omega⟩) (R_v0 (by decide) (by decide))
  have e := line_hit1 K S hK hS
  rw [hp] at e
  simp only [e, hitV_some, hitB_some, eOf_ok, hi_v0, lo_v0, hi_z, lo_z] at h
  exact h
theorem blow_hit0 (K S p X : Int) (w : World) (hK : 1 ≤ K ∧ K ≤ 50) (hS : 1 ≤ S ∧ S ≤ 50) (hp : K * S = p) (hpb : 1 ≤ p ∧ p ≤ 2500) (hX : p * 9223372036854775808 = X) :
    Calls Try.prog 19 #[.agg #[.int .i64 K, .int .u64 0, .int .i64 2, .int .u64 0, .int .i64 0, .int .u64 0, .int .i64 0, .int .u64 0, .int .i64 p, .int .u64 0, .int .i64 0, .int .u64 0, .int .i64 0, .int .u64 0, .int .i64 0, .int .u64 0, .int .i64 0, .int .u64 0, .int .i64 0, .int .i64 0], .agg #[.int .i64 K, .int .u64 0, .int .i64 2, .int .u64 0, .int .i64 2, .int .u64 0, .int .i64 0, .int .u64 0, .int .i64 0, .int .u64 0, .int .i64 0, .int .u64 0, .int .i64 0, .int .u64 0, .int .i64 0, .int .u64 0, .int .i64 0, .int .u64 0, .int .i64 0, .int .i64 0], .agg #[.int .i64 0, .int .u64 0]] w fun e w' => e = .returned (.tuple #[.agg #[.int .i64 (hi X), .int .u64 (lo X), .int .i64 0, .int .u64 0], .bool true, .int .i64 0]) ∧ Below w.heap.size w w' := by
  have h := line_Blow K 0 p K 2 0 0 w (lnN hK ⟨by omega, by omega⟩ ⟨by omega, by omega⟩) (lnN hK ⟨by omega, by omega⟩ ⟨by omega, by omega⟩) (R_v0 (by decide) (by decide))
  have e := line_hit0 K S hK hS
  rw [hp, hX] at e
  simp only [v_0, e, hitV_some, hitB_some, eOf_ok, hi_z, lo_z] at h
  exact h
theorem blow_part (K S p q : Int) (hq : K * -S = q) (w : World) (hK : 1 ≤ K ∧ K ≤ 50) (hS : 1 ≤ S ∧ S ≤ 50) (hp : K * S = p) (hpb : 1 ≤ p ∧ p ≤ 2500) :
    Calls Try.prog 19 #[.agg #[.int .i64 K, .int .u64 0, .int .i64 2, .int .u64 0, .int .i64 0, .int .u64 0, .int .i64 0, .int .u64 0, .int .i64 q, .int .u64 0, .int .i64 0, .int .u64 0, .int .i64 0, .int .u64 0, .int .i64 0, .int .u64 0, .int .i64 0, .int .u64 0, .int .i64 0, .int .i64 0], .agg #[.int .i64 K, .int .u64 0, .int .i64 2, .int .u64 0, .int .i64 2, .int .u64 0, .int .i64 0, .int .u64 0, .int .i64 0, .int .u64 0, .int .i64 0, .int .u64 0, .int .i64 0, .int .u64 0, .int .i64 0, .int .u64 0, .int .i64 0, .int .u64 0, .int .i64 0, .int .i64 0], .agg #[.int .i64 1, .int .u64 0]] w fun e w' => e = .returned (.tuple #[.agg #[.int .i64 0, .int .u64 0, .int .i64 0, .int .u64 0], .bool false, .int .i64 0]) ∧ Below w.heap.size w w' := by
  have hqb : q = -p := by rw [← hq, ← hp, Int.mul_neg]
  have h := line_Blow K 0 q K 2 0 1 w (lnN hK ⟨by omega, by omega⟩ ⟨by omega, by omega⟩) (lnN hK ⟨by omega, by omega⟩ ⟨by omega, by omega⟩) (R_v0 (by decide) (by decide))
  have e := line_part K S hK hS
  rw [hq] at e
  simp only [e, hitV_none, hitB_none, eOf_ok, hi_z, lo_z] at h
  exact h
theorem div_half (K S p X : Int) (w : World) (hK : 1 ≤ K ∧ K ≤ 50) (hS : 1 ≤ S ∧ S ≤ 50) (hp : K * S = p) (hpb : 1 ≤ p ∧ p ≤ 2500) (hX : p * 9223372036854775808 = X) :
    Calls Try.prog 23 #[.agg #[.int .i64 p, .int .u64 0], .agg #[.int .i64 2, .int .u64 0]] w fun e w' => e = .returned (.agg #[.int .i64 (hi X), .int .u64 (lo X), .int .i64 0]) ∧ Below w.heap.size w w' := by
  have h := r1_DivF p 0 2 0 w ⟨W64_0, by unfold I64; omega, R_v0 (by omega) (by omega)⟩ ⟨W64_0, by unfold I64; omega, R_v0 (by omega) (by omega)⟩
  have e := line_half K S hK hS (KS_b hK hS)
  rw [hp, hX] at e
  simp only [e, nOf_ok, eOf_ok] at h
  exact h
theorem sub_self (h l : Int) (w : World) (m : MayF h l) :
    Calls Try.prog 24 #[.agg #[.int .i64 h, .int .u64 l], .agg #[.int .i64 h, .int .u64 l]] w fun e w' => e = .returned (.agg #[.int .i64 0, .int .u64 0, .int .i64 0]) ∧ Below w.heap.size w w' := by
  have c := r1_SubF h l h l w m m
  have e : subX (val h l) (val h l) = .ok 0 := by rw [subX_ok (by rw [Int.sub_self]; exact R_0), Int.sub_self]
  simp only [e, nOf_ok, eOf_ok, hi_z, lo_z] at c
  exact c
theorem mag_0 (w : World) :
    Calls Try.prog 26 #[.agg #[.int .i64 0, .int .u64 0]] w fun e w' => e = .returned (.agg #[.int .u64 0, .int .u64 0]) ∧ Below w.heap.size w w' := by
  have c := r1_Mag 0 0 w W64_0 (by unfold I64; omega) (by rw [val_00]; exact R_0)
  have e1 : hi (ab (val 0 0)) = 0 := by kernel_rfl
  have e2 : lo (ab (val 0 0)) = 0 := by kernel_rfl
  simp only [e1, e2] at c
  exact c
theorem less_0 (w : World) :
    Calls Try.prog 25 #[.agg #[.int .u64 0, .int .u64 1048576], .agg #[.int .u64 0, .int .u64 0]] w fun e w' => e = .returned (.bool false) ∧ Below w.heap.size w w' := by
  have c := r1_Less 0 1048576 0 0 w (by unfold W64; omega) W64_0
  have e : decide (val 0 1048576 < val 0 0) = false := by kernel_rfl
  simp only [e] at c
  exact c
end Go.Proofs.Ytdphhkbbphfjlaa
