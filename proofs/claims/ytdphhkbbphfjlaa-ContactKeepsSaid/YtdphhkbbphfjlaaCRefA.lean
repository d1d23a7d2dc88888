/- The walks of the reference's small functions: r1.May, Cmp, Int, Less, AddTwo, SubTwo; l1.Num. -/
import Derived.Test.YtdphhkbbphfjlaaCLiC
import Derived.Test.YtdphhkbbphfjlaaCNu
import Derived.Test.YtdphhkbbphfjlaaCSp
import Derived.Deep.RegionHeld3
namespace Go.Proofs.Ytdphhkbbphfjlaa
set_option linter.unusedVariables false
set_option linter.unusedSimpArgs false
open Go.RowKit
attribute [local go_sem] uwrap_lo lo_lo hi_lo val_00
attribute [local go_sem ↓] Go.wp_at_zero Go.wp_at_succ

theorem ret_boolR {a b : Bool} (h : a = b) : Ending.returned (.bool a) = .returned (.bool b) := by rw [h]

set_option maxRecDepth 100000 in
set_option maxHeartbeats 2000000 in
theorem r1_May (h l : Int) (w : World) (hl : W64 l) (hh : I64 h) :
    Calls Try.prog 13 #[.agg #[.int .i64 h, .int .u64 l]] w fun e w' => e = .returned (.bool (decide (R (val h l)))) ∧ Below w.heap.size w w' := by
  go_enter Try.func13, Try.ntmps13
  go_wp2
  all_goals go_ret
  all_goals refine ⟨ret_boolR ?_, ?_⟩
  all_goals first | (exact pBl; done) | skip
  all_goals (rw [Bool.eq_iff_iff]; simp only [decide_eq_true_eq, bne_iff_ne, ne_eq, iff_true, true_iff, eq_self_iff_true])
  all_goals (unfold R val; unfold W64 I64 at *; omega)

set_option maxRecDepth 100000 in
set_option maxHeartbeats 2000000 in
theorem r1_Less (ah al bh bl : Int) (w : World) (ha : W64 al) (hb : W64 bl) :
    Calls Try.prog 25 #[.agg #[.int .u64 ah, .int .u64 al], .agg #[.int .u64 bh, .int .u64 bl]] w fun e w' => e = .returned (.bool (decide (val ah al < val bh bl))) ∧ Below w.heap.size w w' := by
  go_enter Try.func25, Try.ntmps25
  go_wp2
  all_goals go_ret
  all_goals refine ⟨ret_boolR ?_, ?_⟩
  all_goals first | (exact pBl; done) | skip
  all_goals (first | (symm; rw [decide_eq_true_eq]) | (symm; rw [decide_eq_false_iff_not]) | rw [decide_eq_decide])
  all_goals (unfold val; unfold W64 at *; omega)

set_option maxRecDepth 100000 in
set_option maxHeartbeats 2000000 in
theorem r1_Int (n : Int) (w : World) (h : -9223372036854775807 ≤ n) :
    Calls Try.prog 15 #[.int .i64 n] w fun e w' => e = .returned (.agg #[.int .i64 n, .int .u64 0]) ∧ Below w.heap.size w w' := by
  go_enter Try.func15, Try.ntmps15
  have hm : max n (-9223372036854775807) = n := by omega
  go_wp2
  refine bodyPost_ret ?rr rfl ⟨rfl, ?bb⟩
  case rr => simp (maxDischargeDepth := 9) [results, Try.results15, go_sem, hm]
  case bb => exact pBl

set_option maxRecDepth 100000 in
set_option maxHeartbeats 2000000 in
theorem l1_Num (n : Int) (w : World) :
    Calls Try.prog 21 #[.int .i64 n] w fun e w' => e = .returned (.int .i64 n) ∧ Below w.heap.size w w' := by
  go_enter Try.func21, Try.ntmps21
  go_wp2
  refine bodyPost_ret ?rr rfl ⟨rfl, ?bb⟩
  case rr => simp (maxDischargeDepth := 9) [results, Try.results21, go_sem]
  case bb => exact pBl

theorem Try.fix_eql (a b c d : Int) (w : World) : (binOp .eql 24 (.agg #[.int .i64 a, .int .u64 b]) (.agg #[.int .i64 c, .int .u64 d])).run Try.prog w = .ok (.bool (eq2 a b c d)) w := by
  unfold eq2
  by_cases h1 : a = c <;> by_cases h2 : b = d <;> go_simp <;> simp [h1, h2]
attribute [local go_sem ↓] Try.fix_eql
set_option maxRecDepth 100000 in
set_option maxHeartbeats 2000000 in
theorem r1_Cmp (a b a' b' : Int) (w : World) (hb : W64 b) (hb' : W64 b') :
    Calls Try.prog 14 #[.agg #[.int .i64 a, .int .u64 b], .agg #[.int .i64 a', .int .u64 b']] w fun e w' => e = .returned (.int .i64 (cmpI (val a b) (val a' b'))) ∧ Below w.heap.size w w' := by
  go_enter Try.func14, Try.ntmps14
  go_wp2
  all_goals go_ret
  all_goals refine ⟨ret_i64 ?_, ?_⟩
  all_goals first | (exact pBl; done) | skip
  all_goals (try simp only [eq2, Bool.and_eq_true, Bool.and_eq_false_iff, decide_eq_true_eq, decide_eq_false_iff_not, not_true_eq_false, false_or] at *)
  all_goals (unfold cmpI val; unfold W64 at *; (repeat' split) <;> omega)

theorem ret_sum {a b c d : Int} {p q : Bool} (h1 : a = c) (h2 : b = d) (h3 : p = q) : Ending.returned (.agg #[.int .u64 a, .int .u64 b, .bool p]) = .returned (.agg #[.int .u64 c, .int .u64 d, .bool q]) := by rw [h1, h2, h3]
set_option maxRecDepth 100000 in
set_option maxHeartbeats 2000000 in
theorem r1_AddTwo (ah al bh bl : Int) (w : World) (ha : W64 ah) (hal : W64 al) (hb : W64 bh) (hbl : W64 bl) :
    Calls Try.prog 68 #[.agg #[.int .u64 ah, .int .u64 al], .agg #[.int .u64 bh, .int .u64 bl]] w fun e w' => e = .returned (.agg #[.int .u64 (hi (w2 (val ah al + val bh bl))), .int .u64 (lo (w2 (val ah al + val bh bl))), .bool (ov2 (val ah al + val bh bl))]) ∧ Below w.heap.size w w' := by
  go_enter Try.func68, Try.ntmps68
  go_wp2
  all_goals (
    refine bodyPost_ret ?rr rfl ⟨rfl, ?bb⟩
    case bb => exact pBl
    case rr =>
      simp [results, Try.results68, go_sem]
      refine ⟨?_, ?_, ?_⟩
      all_goals (try rw [Bool.eq_iff_iff])
      all_goals (try simp only [Bool.or_eq_true, decide_eq_true_eq, beq_iff_eq, ov2, iff_true, true_iff, Bool.and_eq_true])
      all_goals (simp only [val, w2, hi, lo, W64] at *; omega))

set_option maxRecDepth 100000 in
set_option maxHeartbeats 2000000 in
theorem r1_SubTwo (ah al bh bl : Int) (w : World) (ha : W64 ah) (hal : W64 al) (hb : W64 bh) (hbl : W64 bl) :
    Calls Try.prog 88 #[.agg #[.int .u64 ah, .int .u64 al], .agg #[.int .u64 bh, .int .u64 bl]] w fun e w' => e = .returned (.agg #[.int .u64 (hi (w2 (val ah al - val bh bl))), .int .u64 (lo (w2 (val ah al - val bh bl))), .bool (decide (val ah al < val bh bl))]) ∧ Below w.heap.size w w' := by
  go_enter Try.func88, Try.ntmps88
  go_wp2_with fail
  all_goals go_region_held3 (fun w' => w'.cell? ⟨w.heap.size, 0, none⟩ = some (.int .u64 ah) ∧ w'.cell? ⟨w.heap.size, 1, none⟩ = some (.int .u64 al) ∧ w'.cell? ⟨w.heap.size + 1, 0, none⟩ = some (.int .u64 bh) ∧ w'.cell? ⟨w.heap.size + 1, 1, none⟩ = some (.int .u64 bl)) (refine ⟨?_, ?_, ?_, ?_⟩ <;> (simp (maxDischargeDepth := 9) [go_sem, *]; done))
    ((go_at_call 25; refine (r1_Less _ _ _ _ _ (by assumption) (by assumption)).mono ?_; rintro e u1 ⟨rfl, hbu1⟩; have hzu1 := hbu1.size; (try simp at hzu1); have hsu1_w : w.heap.size ≤ u1.heap.size := (by omega); obtain ⟨hcu1_w_0, hfu1_w_0⟩ := pBc hbu1 (b := w.heap.size) pSd; have hsu1_w_0 : w.heap.size < u1.heap.size := (by omega); obtain ⟨hcu1_w_1, hfu1_w_1⟩ := pBc hbu1 (b := w.heap.size + 1) pSd; have hsu1_w_1 : w.heap.size + 1 < u1.heap.size := (by omega); obtain ⟨hcu1_w_2, hfu1_w_2⟩ := pBc hbu1 (b := w.heap.size + 1 + 1) pSd; have hsu1_w_2 : w.heap.size + 1 + 1 < u1.heap.size := (by omega); have Hu1 := Lib.hid hbu1; clear hbu1))
  all_goals go_wp2
  all_goals (
    refine bodyPost_ret ?rr rfl ⟨rfl, ?bb⟩
    case bb => exact pBl
    case rr =>
      simp (maxDischargeDepth := 9) [results, Try.results88, go_sem, *]
      refine ⟨?_, ?_⟩
      all_goals (simp only [val, w2, hi, lo, W64] at *; omega))
end Go.Proofs.Ytdphhkbbphfjlaa
