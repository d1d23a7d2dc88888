/- The walks of vec.Add, Sub, Scale, Dot, Neg, drift.over, drift.Speed. -/
import Derived.Test.YtdphhkbbphfjlaaCVecA
namespace Go.Proofs.Ytdphhkbbphfjlaa
set_option linter.unusedVariables false
set_option linter.unusedSimpArgs false
open Go.RowKit
attribute [local go_sem] uwrap_lo lo_lo hi_lo val_hl val_00 nOf_ok nOf_err eOf_ok eOf_err vecX_err vecX_ok_err vecX_ok xOf_err yOf_err xOf_ok yOf_ok
attribute [local go_sem ↓] Go.wp_at_zero Go.wp_at_succ

set_option maxRecDepth 100000 in
set_option maxHeartbeats 8000000 in
theorem vec_Add (axh axl ayh ayl bxh bxl byh byl : Int) (w : World) (h1 : MayF axh axl) (h2 : MayF ayh ayl) (h3 : MayF bxh bxl) (h4 : MayF byh byl) :
    Calls Try.prog 79 #[.agg #[.int .i64 axh, .int .u64 axl, .int .i64 ayh, .int .u64 ayl], .agg #[.int .i64 bxh, .int .u64 bxl, .int .i64 byh, .int .u64 byl]] w fun e w' => e = .returned (.tuple #[.agg #[.int .i64 (hi (xOf (addV (val axh axl) (val ayh ayl) (val bxh bxl) (val byh byl)))), .int .u64 (lo (xOf (addV (val axh axl) (val ayh ayl) (val bxh bxl) (val byh byl)))), .int .i64 (hi (yOf (addV (val axh axl) (val ayh ayl) (val bxh bxl) (val byh byl)))), .int .u64 (lo (yOf (addV (val axh axl) (val ayh ayl) (val bxh bxl) (val byh byl))))], .int .i64 (eOf (addV (val axh axl) (val ayh ayl) (val bxh bxl) (val byh byl)))]) ∧ Below w.heap.size w w' := by
  unfold addV
  go_enter Try.func79, Try.ntmps79
  go_wp2_with (go_at_call 92; refine (vec_each_Add _ _ _ _ _ _ _ _ _ (by assumption) (by assumption) (by assumption) (by assumption)).mono ?_; rintro e u1 ⟨rfl, hbu1⟩; have hzu1 := hbu1.size; (try simp at hzu1); have hsu1_w : w.heap.size ≤ u1.heap.size := (by omega); obtain ⟨hcu1_w_0, hfu1_w_0⟩ := pBc hbu1 (b := w.heap.size) pSd; have hsu1_w_0 : w.heap.size < u1.heap.size := (by omega); obtain ⟨hcu1_w_1, hfu1_w_1⟩ := pBc hbu1 (b := w.heap.size + 1) pSd; have hsu1_w_1 : w.heap.size + 1 < u1.heap.size := (by omega); obtain ⟨hcu1_w_2, hfu1_w_2⟩ := pBc hbu1 (b := w.heap.size + 1 + 1) pSd; have hsu1_w_2 : w.heap.size + 1 + 1 < u1.heap.size := (by omega); have Hu1 := Lib.hid hbu1; clear hbu1)
  all_goals refine bodyPost_ret ?rr rfl ⟨rfl, ?bb⟩
  case rr => (simp (maxDischargeDepth := 9) [results, Try.results79, go_sem, *, hi_z, lo_z])
  case bb => exact pBl

set_option maxRecDepth 100000 in
set_option maxHeartbeats 8000000 in
theorem vec_Sub (axh axl ayh ayl bxh bxl byh byl : Int) (w : World) (h1 : MayF axh axl) (h2 : MayF ayh ayl) (h3 : MayF bxh bxl) (h4 : MayF byh byl) :
    Calls Try.prog 48 #[.agg #[.int .i64 axh, .int .u64 axl, .int .i64 ayh, .int .u64 ayl], .agg #[.int .i64 bxh, .int .u64 bxl, .int .i64 byh, .int .u64 byl]] w fun e w' => e = .returned (.tuple #[.agg #[.int .i64 (hi (xOf (subV (val axh axl) (val ayh ayl) (val bxh bxl) (val byh byl)))), .int .u64 (lo (xOf (subV (val axh axl) (val ayh ayl) (val bxh bxl) (val byh byl)))), .int .i64 (hi (yOf (subV (val axh axl) (val ayh ayl) (val bxh bxl) (val byh byl)))), .int .u64 (lo (yOf (subV (val axh axl) (val ayh ayl) (val bxh bxl) (val byh byl))))], .int .i64 (eOf (subV (val axh axl) (val ayh ayl) (val bxh bxl) (val byh byl)))]) ∧ Below w.heap.size w w' := by
  unfold subV
  go_enter Try.func48, Try.ntmps48
  go_wp2_with (go_at_call 92; refine (vec_each_Sub _ _ _ _ _ _ _ _ _ (by assumption) (by assumption) (by assumption) (by assumption)).mono ?_; rintro e u1 ⟨rfl, hbu1⟩; have hzu1 := hbu1.size; (try simp at hzu1); have hsu1_w : w.heap.size ≤ u1.heap.size := (by omega); obtain ⟨hcu1_w_0, hfu1_w_0⟩ := pBc hbu1 (b := w.heap.size) pSd; have hsu1_w_0 : w.heap.size < u1.heap.size := (by omega); obtain ⟨hcu1_w_1, hfu1_w_1⟩ := pBc hbu1 (b := w.heap.size + 1) pSd; have hsu1_w_1 : w.heap.size + 1 < u1.heap.size := (by omega); obtain ⟨hcu1_w_2, hfu1_w_2⟩ := pBc hbu1 (b := w.heap.size + 1 + 1) pSd; have hsu1_w_2 : w.heap.size + 1 + 1 < u1.heap.size := (by omega); have Hu1 := Lib.hid hbu1; clear hbu1)
  all_goals refine bodyPost_ret ?rr rfl ⟨rfl, ?bb⟩
  case rr => (simp (maxDischargeDepth := 9) [results, Try.results48, go_sem, *, hi_z, lo_z])
  case bb => exact pBl

set_option maxRecDepth 100000 in
set_option maxHeartbeats 8000000 in
theorem vec_Scale (axh axl ayh ayl kh kl : Int) (w : World) (h1 : MayF axh axl) (h2 : MayF ayh ayl) (h3 : MayF kh kl) :
    Calls Try.prog 114 #[.agg #[.int .i64 axh, .int .u64 axl, .int .i64 ayh, .int .u64 ayl], .agg #[.int .i64 kh, .int .u64 kl]] w fun e w' => e = .returned (.tuple #[.agg #[.int .i64 (hi (xOf (scaleV (val axh axl) (val ayh ayl) (val kh kl)))), .int .u64 (lo (xOf (scaleV (val axh axl) (val ayh ayl) (val kh kl)))), .int .i64 (hi (yOf (scaleV (val axh axl) (val ayh ayl) (val kh kl)))), .int .u64 (lo (yOf (scaleV (val axh axl) (val ayh ayl) (val kh kl))))], .int .i64 (eOf (scaleV (val axh axl) (val ayh ayl) (val kh kl)))]) ∧ Below w.heap.size w w' := by
  unfold scaleV
  go_enter Try.func114, Try.ntmps114
  go_wp2_with (go_at_call 92; refine (vec_each_Mul _ _ _ _ _ _ _ _ _ (by assumption) (by assumption) (by assumption) (by assumption)).mono ?_; rintro e u1 ⟨rfl, hbu1⟩; have hzu1 := hbu1.size; (try simp at hzu1); have hsu1_w : w.heap.size ≤ u1.heap.size := (by omega); obtain ⟨hcu1_w_0, hfu1_w_0⟩ := pBc hbu1 (b := w.heap.size) pSd; have hsu1_w_0 : w.heap.size < u1.heap.size := (by omega); obtain ⟨hcu1_w_1, hfu1_w_1⟩ := pBc hbu1 (b := w.heap.size + 1) pSd; have hsu1_w_1 : w.heap.size + 1 < u1.heap.size := (by omega); obtain ⟨hcu1_w_2, hfu1_w_2⟩ := pBc hbu1 (b := w.heap.size + 1 + 1) pSd; have hsu1_w_2 : w.heap.size + 1 + 1 < u1.heap.size := (by omega); have Hu1 := Lib.hid hbu1; clear hbu1)
  all_goals refine bodyPost_ret ?rr rfl ⟨rfl, ?bb⟩
  case rr => (simp (maxDischargeDepth := 9) [results, Try.results114, go_sem, *, hi_z, lo_z])
  case bb => exact pBl

set_option maxRecDepth 100000 in
set_option maxHeartbeats 8000000 in
theorem vec_Dot (axh axl ayh ayl bxh bxl byh byl : Int) (w : World) (h1 : MayF axh axl) (h2 : MayF ayh ayl) (h3 : MayF bxh bxl) (h4 : MayF byh byl) :
    Calls Try.prog 97 #[.agg #[.int .i64 axh, .int .u64 axl, .int .i64 ayh, .int .u64 ayl], .agg #[.int .i64 bxh, .int .u64 bxl, .int .i64 byh, .int .u64 byl]] w fun e w' => e = .returned (.tuple #[.agg #[.int .i64 (hi (nOf (dotX (val axh axl) (val ayh ayl) (val bxh bxl) (val byh byl)))), .int .u64 (lo (nOf (dotX (val axh axl) (val ayh ayl) (val bxh bxl) (val byh byl))))], .int .i64 (eOf (dotX (val axh axl) (val ayh ayl) (val bxh bxl) (val byh byl)))]) ∧ Below w.heap.size w w' := by
  rcases (GoodV.mul (val axh axl) (val ayh ayl) (val bxh bxl) (val byh byl)).cases with ⟨p, e1, r1, r2⟩ | ⟨n, e1, ne1⟩
  · have f1 := MayF.of r1
    have f2 := MayF.of r2
    unfold dotX
    rw [e1]
    unfold mulV at e1
    go_enter Try.func97, Try.ntmps97
    go_wp2_with (first | (go_at_call 92; refine (vec_each_Mul _ _ _ _ _ _ _ _ _ (by assumption) (by assumption) (by assumption) (by assumption)).mono ?_; rintro e u1 ⟨rfl, hbu1⟩; have hzu1 := hbu1.size; (try simp at hzu1); have hsu1_w : w.heap.size ≤ u1.heap.size := (by omega); obtain ⟨hcu1_w_0, hfu1_w_0⟩ := pBc hbu1 (b := w.heap.size) pSd; have hsu1_w_0 : w.heap.size < u1.heap.size := (by omega); obtain ⟨hcu1_w_1, hfu1_w_1⟩ := pBc hbu1 (b := w.heap.size + 1) pSd; have hsu1_w_1 : w.heap.size + 1 < u1.heap.size := (by omega); obtain ⟨hcu1_w_2, hfu1_w_2⟩ := pBc hbu1 (b := w.heap.size + 1 + 1) pSd; have hsu1_w_2 : w.heap.size + 1 + 1 < u1.heap.size := (by omega); have Hu1 := Lib.hid hbu1; clear hbu1) | (go_at_call 59; refine (num_Add _ _ _ _ _ (by assumption) (by assumption)).mono ?_; rintro e u2 ⟨rfl, hbu2⟩; have hzu2 := hbu2.size; (try simp at hzu2); have hsu2_w : w.heap.size ≤ u2.heap.size := (by omega); obtain ⟨hcu2_w_0, hfu2_w_0⟩ := pBc hbu2 (b := w.heap.size) pSd; have hsu2_w_0 : w.heap.size < u2.heap.size := (by omega); obtain ⟨hcu2_w_1, hfu2_w_1⟩ := pBc hbu2 (b := w.heap.size + 1) pSd; have hsu2_w_1 : w.heap.size + 1 < u2.heap.size := (by omega); obtain ⟨hcu2_w_2, hfu2_w_2⟩ := pBc hbu2 (b := w.heap.size + 1 + 1) pSd; have hsu2_w_2 : w.heap.size + 1 + 1 < u2.heap.size := (by omega); have hsu2_u1 : u1.heap.size ≤ u2.heap.size := (by omega); obtain ⟨hcu2_u1_0, hfu2_u1_0⟩ := pBc hbu2 (b := u1.heap.size) pSd; have hsu2_u1_0 : u1.heap.size < u2.heap.size := (by omega); have Hu2 := Lib.hid hbu2; clear hbu2))
    all_goals refine bodyPost_ret ?rr rfl ⟨rfl, ?bb⟩
    case rr => (simp (maxDischargeDepth := 9) [results, Try.results97, go_sem, *, hi_z, lo_z])
    case bb => exact pBl
  · unfold dotX
    rw [e1]
    unfold mulV at e1
    go_enter Try.func97, Try.ntmps97
    go_wp2_with (first | (go_at_call 92; refine (vec_each_Mul _ _ _ _ _ _ _ _ _ (by assumption) (by assumption) (by assumption) (by assumption)).mono ?_; rintro e u1 ⟨rfl, hbu1⟩; have hzu1 := hbu1.size; (try simp at hzu1); have hsu1_w : w.heap.size ≤ u1.heap.size := (by omega); obtain ⟨hcu1_w_0, hfu1_w_0⟩ := pBc hbu1 (b := w.heap.size) pSd; have hsu1_w_0 : w.heap.size < u1.heap.size := (by omega); obtain ⟨hcu1_w_1, hfu1_w_1⟩ := pBc hbu1 (b := w.heap.size + 1) pSd; have hsu1_w_1 : w.heap.size + 1 < u1.heap.size := (by omega); obtain ⟨hcu1_w_2, hfu1_w_2⟩ := pBc hbu1 (b := w.heap.size + 1 + 1) pSd; have hsu1_w_2 : w.heap.size + 1 + 1 < u1.heap.size := (by omega); have Hu1 := Lib.hid hbu1; clear hbu1))
    all_goals refine bodyPost_ret ?rr rfl ⟨rfl, ?bb⟩
    case rr => (simp (maxDischargeDepth := 9) [results, Try.results97, go_sem, *, hi_z, lo_z])
    case bb => exact pBl

set_option maxRecDepth 100000 in
set_option maxHeartbeats 8000000 in
theorem vec_Neg (axh axl ayh ayl : Int) (w : World) (h1 : MayF axh axl) (h2 : MayF ayh ayl) :
    Calls Try.prog 62 #[.agg #[.int .i64 axh, .int .u64 axl, .int .i64 ayh, .int .u64 ayl]] w fun e w' => e = .returned (.agg #[.int .i64 (hi (-(val axh axl))), .int .u64 (lo (-(val axh axl))), .int .i64 (hi (-(val ayh ayl))), .int .u64 (lo (-(val ayh ayl)))]) ∧ Below w.heap.size w w' := by
  have k1 := h1.w; have k2 := h1.i; have k3 := h1.r; have k4 := h2.w; have k5 := h2.i; have k6 := h2.r
  go_enter Try.func62, Try.ntmps62
  go_wp2_with fail
  go_region_held3 (fun w' => w'.cell? ⟨w.heap.size, 0, none⟩ = some (.int .i64 axh) ∧ w'.cell? ⟨w.heap.size, 1, none⟩ = some (.int .u64 axl) ∧ w'.cell? ⟨w.heap.size, 2, none⟩ = some (.int .i64 ayh) ∧ w'.cell? ⟨w.heap.size, 3, none⟩ = some (.int .u64 ayl)) (refine ⟨?_, ?_, ?_, ?_⟩ <;> (simp (maxDischargeDepth := 9) [go_sem, *]; done))
    ((first | (go_at_call_of 115 (Value.agg #[.int .i64 axh, .int .u64 axl]); refine (fix_Neg _ _ _ (by assumption) (by assumption) (by assumption)).mono ?_; rintro e u1 ⟨rfl, hbu1⟩; have hzu1 := hbu1.size; (try simp at hzu1); have hsu1_w : w.heap.size ≤ u1.heap.size := (by omega); obtain ⟨hcu1_w_0, hfu1_w_0⟩ := pBc hbu1 (b := w.heap.size) pSd; have hsu1_w_0 : w.heap.size < u1.heap.size := (by omega); obtain ⟨hcu1_w_1, hfu1_w_1⟩ := pBc hbu1 (b := w.heap.size + 1) pSd; have hsu1_w_1 : w.heap.size + 1 < u1.heap.size := (by omega); have Hu1 := Lib.hid hbu1; clear hbu1) | (go_at_call 115; refine (fix_Neg _ _ _ (by assumption) (by assumption) (by assumption)).mono ?_; rintro e u2 ⟨rfl, hbu2⟩; have hzu2 := hbu2.size; (try simp at hzu2); have hsu2_w : w.heap.size ≤ u2.heap.size := (by omega); obtain ⟨hcu2_w_0, hfu2_w_0⟩ := pBc hbu2 (b := w.heap.size) pSd; have hsu2_w_0 : w.heap.size < u2.heap.size := (by omega); obtain ⟨hcu2_w_1, hfu2_w_1⟩ := pBc hbu2 (b := w.heap.size + 1) pSd; have hsu2_w_1 : w.heap.size + 1 < u2.heap.size := (by omega); have Hu2 := Lib.hid hbu2; clear hbu2)))
  all_goals go_wp2
  all_goals refine bodyPost_ret ?rr rfl ⟨rfl, ?bb⟩
  case rr => (simp (maxDischargeDepth := 9) [results, Try.results62, go_sem, *, hi_z, lo_z])
  case bb => exact pBl

set_option maxRecDepth 100000 in
set_option maxHeartbeats 8000000 in
theorem drift_over (axh axl ayh ayl mh ml : Int) (w : World) (h1 : MayF axh axl) (h2 : MayF ayh ayl) (h3 : MayF mh ml) :
    Calls Try.prog 125 #[.agg #[.int .i64 axh, .int .u64 axl, .int .i64 ayh, .int .u64 ayl], .agg #[.int .i64 mh, .int .u64 ml]] w fun e w' => e = .returned (.tuple #[.agg #[.int .i64 (hi (xOf (overV (val axh axl) (val ayh ayl) (val mh ml)))), .int .u64 (lo (xOf (overV (val axh axl) (val ayh ayl) (val mh ml)))), .int .i64 (hi (yOf (overV (val axh axl) (val ayh ayl) (val mh ml)))), .int .u64 (lo (yOf (overV (val axh axl) (val ayh ayl) (val mh ml))))], .int .i64 (eOf (overV (val axh axl) (val ayh ayl) (val mh ml)))]) ∧ Below w.heap.size w w' := by
  unfold overV
  rcases (Good.div (val axh axl) (val mh ml)).cases with ⟨n, e1, _⟩ | ⟨n, e1, ne1⟩
  · rcases (Good.div (val ayh ayl) (val mh ml)).cases with ⟨m, e2, _⟩ | ⟨m, e2, ne2⟩
    · rw [e1, e2]
      go_enter Try.func125, Try.ntmps125
      go_wp2_with (first | (go_at_call_of 58 (Value.agg #[.int .i64 axh, .int .u64 axl]); refine (num_Div _ _ _ _ _ (by assumption) (by assumption)).mono ?_; rintro e u1 ⟨rfl, hbu1⟩; have hzu1 := hbu1.size; (try simp at hzu1); have hsu1_w : w.heap.size ≤ u1.heap.size := (by omega); obtain ⟨hcu1_w_0, hfu1_w_0⟩ := pBc hbu1 (b := w.heap.size) pSd; have hsu1_w_0 : w.heap.size < u1.heap.size := (by omega); obtain ⟨hcu1_w_1, hfu1_w_1⟩ := pBc hbu1 (b := w.heap.size + 1) pSd; have hsu1_w_1 : w.heap.size + 1 < u1.heap.size := (by omega); obtain ⟨hcu1_w_2, hfu1_w_2⟩ := pBc hbu1 (b := w.heap.size + 1 + 1) pSd; have hsu1_w_2 : w.heap.size + 1 + 1 < u1.heap.size := (by omega); have Hu1 := Lib.hid hbu1; clear hbu1) | (go_at_call 58; refine (num_Div _ _ _ _ _ (by assumption) (by assumption)).mono ?_; rintro e u2 ⟨rfl, hbu2⟩; have hzu2 := hbu2.size; (try simp at hzu2); have hsu2_w : w.heap.size ≤ u2.heap.size := (by omega); obtain ⟨hcu2_w_0, hfu2_w_0⟩ := pBc hbu2 (b := w.heap.size) pSd; have hsu2_w_0 : w.heap.size < u2.heap.size := (by omega); obtain ⟨hcu2_w_1, hfu2_w_1⟩ := pBc hbu2 (b := w.heap.size + 1) pSd; have hsu2_w_1 : w.heap.size + 1 < u2.heap.size := (by omega); obtain ⟨hcu2_w_2, hfu2_w_2⟩ := pBc hbu2 (b := w.heap.size + 1 + 1) pSd; have hsu2_w_2 : w.heap.size + 1 + 1 < u2.heap.size := (by omega); have hsu2_u1 : u1.heap.size ≤ u2.heap.size := (by omega); obtain ⟨hcu2_u1_0, hfu2_u1_0⟩ := pBc hbu2 (b := u1.heap.size) pSd; have hsu2_u1_0 : u1.heap.size < u2.heap.size := (by omega); have Hu2 := Lib.hid hbu2; clear hbu2))
      all_goals refine bodyPost_ret ?rr rfl ⟨rfl, ?bb⟩
      case rr => (simp (maxDischargeDepth := 9) [results, Try.results125, go_sem, *, hi_z, lo_z])
      case bb => exact pBl
    · rw [e1, e2]
      go_enter Try.func125, Try.ntmps125
      go_wp2_with (first | (go_at_call_of 58 (Value.agg #[.int .i64 axh, .int .u64 axl]); refine (num_Div _ _ _ _ _ (by assumption) (by assumption)).mono ?_; rintro e u1 ⟨rfl, hbu1⟩; have hzu1 := hbu1.size; (try simp at hzu1); have hsu1_w : w.heap.size ≤ u1.heap.size := (by omega); obtain ⟨hcu1_w_0, hfu1_w_0⟩ := pBc hbu1 (b := w.heap.size) pSd; have hsu1_w_0 : w.heap.size < u1.heap.size := (by omega); obtain ⟨hcu1_w_1, hfu1_w_1⟩ := pBc hbu1 (b := w.heap.size + 1) pSd; have hsu1_w_1 : w.heap.size + 1 < u1.heap.size := (by omega); obtain ⟨hcu1_w_2, hfu1_w_2⟩ := pBc hbu1 (b := w.heap.size + 1 + 1) pSd; have hsu1_w_2 : w.heap.size + 1 + 1 < u1.heap.size := (by omega); have Hu1 := Lib.hid hbu1; clear hbu1) | (go_at_call 58; refine (num_Div _ _ _ _ _ (by assumption) (by assumption)).mono ?_; rintro e u2 ⟨rfl, hbu2⟩; have hzu2 := hbu2.size; (try simp at hzu2); have hsu2_w : w.heap.size ≤ u2.heap.size := (by omega); obtain ⟨hcu2_w_0, hfu2_w_0⟩ := pBc hbu2 (b := w.heap.size) pSd; have hsu2_w_0 : w.heap.size < u2.heap.size := (by omega); obtain ⟨hcu2_w_1, hfu2_w_1⟩ := pBc hbu2 (b := w.heap.size + 1) pSd; have hsu2_w_1 : w.heap.size + 1 < u2.heap.size := (by omega); obtain ⟨hcu2_w_2, hfu2_w_2⟩ := pBc hbu2 (b := w.heap.size + 1 + 1) pSd; have hsu2_w_2 : w.heap.size + 1 + 1 < u2.heap.size := (by omega); have hsu2_u1 : u1.heap.size ≤ u2.heap.size := (by omega); obtain ⟨hcu2_u1_0, hfu2_u1_0⟩ := pBc hbu2 (b := u1.heap.size) pSd; have hsu2_u1_0 : u1.heap.size < u2.heap.size := (by omega); have Hu2 := Lib.hid hbu2; clear hbu2))
      all_goals refine bodyPost_ret ?rr rfl ⟨rfl, ?bb⟩
      case rr => (simp (maxDischargeDepth := 9) [results, Try.results125, go_sem, *, hi_z, lo_z])
      case bb => exact pBl
  · rw [e1]
    go_enter Try.func125, Try.ntmps125
    go_wp2_with (go_at_call_of 58 (Value.agg #[.int .i64 axh, .int .u64 axl]); refine (num_Div _ _ _ _ _ (by assumption) (by assumption)).mono ?_; rintro e u1 ⟨rfl, hbu1⟩; have hzu1 := hbu1.size; (try simp at hzu1); have hsu1_w : w.heap.size ≤ u1.heap.size := (by omega); obtain ⟨hcu1_w_0, hfu1_w_0⟩ := pBc hbu1 (b := w.heap.size) pSd; have hsu1_w_0 : w.heap.size < u1.heap.size := (by omega); obtain ⟨hcu1_w_1, hfu1_w_1⟩ := pBc hbu1 (b := w.heap.size + 1) pSd; have hsu1_w_1 : w.heap.size + 1 < u1.heap.size := (by omega); obtain ⟨hcu1_w_2, hfu1_w_2⟩ := pBc hbu1 (b := w.heap.size + 1 + 1) pSd; have hsu1_w_2 : w.heap.size + 1 + 1 < u1.heap.size := (by omega); have Hu1 := Lib.hid hbu1; clear hbu1)
    all_goals refine bodyPost_ret ?rr rfl ⟨rfl, ?bb⟩
    case rr => (simp (maxDischargeDepth := 9) [results, Try.results125, go_sem, *, hi_z, lo_z])
    case bb => exact pBl

end Go.Proofs.Ytdphhkbbphfjlaa
