/- fix.Div whole; the walks of fix.Sub, fix.Int, fix.May. -/
import Derived.Test.YtdphhkbbphfjlaaCFixF
import Derived.Test.YtdphhkbbphfjlaaCFixD
import Derived.Deep.RegionHeld3
import Derived.Deep.DeepCutAuto
namespace Go.Proofs.Ytdphhkbbphfjlaa
set_option linter.unusedVariables false
set_option linter.unusedSimpArgs false
open Go.RowKit
attribute [local go_sem] uwrap_lo lo_lo hi_lo val_hl val_00 v4_q
attribute [local go_sem ↓] Go.wp_at_zero Go.wp_at_succ

theorem fix_Div (ah al bh bl : Int) (w : World) (hal : W64 al) (hah : I64 ah) (hbl : W64 bl) (hbh : I64 bh) (hA : R (val ah al)) (hB : R (val bh bl)) :
    Calls Try.prog 58 #[.agg #[.int .i64 ah, .int .u64 al], .agg #[.int .i64 bh, .int .u64 bl]] w fun e w' => e = .returned (.tuple #[.agg #[.int .i64 (hi (nOf (divX (val ah al) (val bh bl)))), .int .u64 (lo (nOf (divX (val ah al) (val bh bl))))], .int .i64 (eOf (divX (val ah al) (val bh bl)))]) ∧ Below w.heap.size w w' := by
  by_cases h : val bh bl = 0
  · have h1 : bh = 0 := by unfold val at h; unfold W64 at hbl; omega
    have h2 : bl = 0 := by unfold val at h; unfold W64 at hbl; omega
    subst h1 h2
    have e : divX (val ah al) (val 0 0) = .error 2 := by unfold divX; rw [if_pos h]
    rw [e]
    exact fix_Div0 ah al w hal hah hA
  · exact fix_Div1 ah al bh bl w hal hah hbl hbh hA hB (ab_pos h)

set_option maxRecDepth 100000 in
set_option maxHeartbeats 2000000 in
theorem fix_Sub (ah al bh bl : Int) (w : World) (hal : W64 al) (hah : I64 ah) (hbl : W64 bl) (hbh : I64 bh) (hA : R (val ah al)) (hB : R (val bh bl)) :
    Calls Try.prog 93 #[.agg #[.int .i64 ah, .int .u64 al], .agg #[.int .i64 bh, .int .u64 bl]] w fun e w' => e = .returned (.tuple #[.agg #[.int .i64 (hi (nOf (subX (val ah al) (val bh bl)))), .int .u64 (lo (nOf (subX (val ah al) (val bh bl))))], .int .i64 (eOf (subX (val ah al) (val bh bl)))]) ∧ Below w.heap.size w w' := by
  rw [sub_add_X]
  have hN := R_neg hB
  go_enter Try.func93, Try.ntmps93
  go_wp2_with fail
  go_region_held3 (fun w' => w'.cell? ⟨w.heap.size, 0, none⟩ = some (.int .i64 ah) ∧ w'.cell? ⟨w.heap.size, 1, none⟩ = some (.int .u64 al) ∧ w'.cell? ⟨w.heap.size + 1, 0, none⟩ = some (.int .i64 bh) ∧ w'.cell? ⟨w.heap.size + 1, 1, none⟩ = some (.int .u64 bl)) (refine ⟨?_, ?_, ?_, ?_⟩ <;> (simp (maxDischargeDepth := 9) [go_sem, *]; done))
    ((first | (go_at_call 115; refine (fix_Neg _ _ _ (by assumption) (by assumption) (by assumption)).mono ?_; rintro e u1 ⟨rfl, hbu1⟩; have hzu1 := hbu1.size; (try simp at hzu1); have hsu1_w : w.heap.size ≤ u1.heap.size := (by omega); obtain ⟨hcu1_w_0, hfu1_w_0⟩ := pBc hbu1 (b := w.heap.size) pSd; have hsu1_w_0 : w.heap.size < u1.heap.size := (by omega); obtain ⟨hcu1_w_1, hfu1_w_1⟩ := pBc hbu1 (b := w.heap.size + 1) pSd; have hsu1_w_1 : w.heap.size + 1 < u1.heap.size := (by omega); obtain ⟨hcu1_w_2, hfu1_w_2⟩ := pBc hbu1 (b := w.heap.size + 1 + 1) pSd; have hsu1_w_2 : w.heap.size + 1 + 1 < u1.heap.size := (by omega); have Hu1 := Lib.hid hbu1; clear hbu1) | (go_at_call 59; refine (fix_Add _ _ _ _ _ (by assumption) (by assumption) (W64_lo _) (R_hi hN) (by assumption) (by rw [val_hl]; exact hN)).mono ?_; rintro e u2 ⟨rfl, hbu2⟩; have hzu2 := hbu2.size; (try simp at hzu2); have hsu2_w : w.heap.size ≤ u2.heap.size := (by omega); obtain ⟨hcu2_w_0, hfu2_w_0⟩ := pBc hbu2 (b := w.heap.size) pSd; have hsu2_w_0 : w.heap.size < u2.heap.size := (by omega); obtain ⟨hcu2_w_1, hfu2_w_1⟩ := pBc hbu2 (b := w.heap.size + 1) pSd; have hsu2_w_1 : w.heap.size + 1 < u2.heap.size := (by omega); obtain ⟨hcu2_w_2, hfu2_w_2⟩ := pBc hbu2 (b := w.heap.size + 1 + 1) pSd; have hsu2_w_2 : w.heap.size + 1 + 1 < u2.heap.size := (by omega); have Hu2 := Lib.hid hbu2; clear hbu2)))
  all_goals go_wp2
  all_goals refine bodyPost_ret ?rr rfl ⟨rfl, ?bb⟩
  case rr => simp (maxDischargeDepth := 9) [results, Try.results93, go_sem, *]
  case bb => exact pBl

set_option maxRecDepth 100000 in
set_option maxHeartbeats 2000000 in
theorem fix_Int (n : Int) (w : World) (h : -9223372036854775807 ≤ n) :
    Calls Try.prog 60 #[.int .i64 n] w fun e w' => e = .returned (.agg #[.int .i64 n, .int .u64 0]) ∧ Below w.heap.size w w' := by
  go_enter Try.func60, Try.ntmps60
  have hm : max n (-9223372036854775807) = n := by omega
  go_wp2
  refine bodyPost_ret ?rr rfl ⟨rfl, ?bb⟩
  case rr => simp (maxDischargeDepth := 9) [results, Try.results60, go_sem, hm]
  case bb => exact pBl
theorem ret_bool {a b : Bool} (h : a = b) : Ending.returned (.bool a) = .returned (.bool b) := by rw [h]
set_option maxRecDepth 100000 in
set_option maxHeartbeats 2000000 in
theorem fix_May (h l : Int) (w : World) (hl : W64 l) (hh : I64 h) :
    Calls Try.prog 86 #[.agg #[.int .i64 h, .int .u64 l]] w fun e w' => e = .returned (.bool (decide (R (val h l)))) ∧ Below w.heap.size w w' := by
  go_enter Try.func86, Try.ntmps86
  go_wp2
  all_goals go_ret
  all_goals refine ⟨ret_bool ?_, ?_⟩
  all_goals first | (exact pBl; done) | skip
  all_goals (first | (symm; rw [decide_eq_true_eq]) | (symm; rw [decide_eq_false_iff_not]))
  all_goals (unfold R val; unfold W64 I64 at *; omega)
end Go.Proofs.Ytdphhkbbphfjlaa
