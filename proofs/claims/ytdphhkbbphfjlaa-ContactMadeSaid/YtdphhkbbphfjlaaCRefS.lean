/- The walk of r10.Speed. -/
import Derived.Test.YtdphhkbbphfjlaaCRefJ
import Derived.Test.YtdphhkbbphfjlaaCBoB
namespace Go.Proofs.Ytdphhkbbphfjlaa
set_option linter.unusedVariables false
set_option linter.unusedSimpArgs false
open Go.RowKit
attribute [local go_sem] uwrap_lo lo_lo hi_lo val_hl val_00 v4_q
attribute [local go_sem ↓] Go.wp_at_zero Go.wp_at_succ
attribute [local go_sem] fld_sum0 fld_sum1
attribute [local go_sem] nOf_ok nOf_err eOf_ok eOf_err xOf_ok yOf_ok xOf_err yOf_err vecX_ok vecX_err vecX_ok_err hi_z lo_z
attribute [local go_sem ↓] loadRow_body
attribute [local go_sem] rowAt_at rowAt_past rowAt_drew rowAt_far run_load_body
theorem cmpI_gt' (a b : Int) : decide (0 < cmpI a b) = decide (b < a) := by
  rw [decide_eq_decide]; unfold cmpI; split
  · omega
  · split <;> omega
theorem cmpI_lt' (a b : Int) : decide (cmpI a b < 0) = decide (a < b) := by
  rw [decide_eq_decide]; unfold cmpI; split
  · omega
  · split <;> omega
theorem cmpI_ge' (a b : Int) : decide (0 ≤ cmpI a b) = decide (b ≤ a) := by
  rw [decide_eq_decide]; unfold cmpI; split
  · omega
  · split <;> omega
theorem cmpI_le' (a b : Int) : decide (cmpI a b ≤ 0) = decide (a ≤ b) := by
  rw [decide_eq_decide]; unfold cmpI; split
  · omega
  · split <;> omega
attribute [local go_sem] cmpI_gt' cmpI_lt' cmpI_ge' cmpI_le'
set_option maxRecDepth 100000 in
set_option maxHeartbeats 2000000 in
theorem r10_Speed (b : BodyI) (w : World) (h1 : R b.px) (h2 : R b.py) (h3 : R b.mass) :
    Calls Try.prog 90 #[.agg #[.int .i64 (hi b.mass), .int .u64 (lo b.mass), .int .i64 (hi b.radius), .int .u64 (lo b.radius), .int .i64 (hi b.x), .int .u64 (lo b.x), .int .i64 (hi b.y), .int .u64 (lo b.y), .int .i64 (hi b.px), .int .u64 (lo b.px), .int .i64 (hi b.py), .int .u64 (lo b.py), .int .i64 (hi b.fuel), .int .u64 (lo b.fuel), .int .i64 (hi b.rate), .int .u64 (lo b.rate), .int .i64 (hi b.exh), .int .u64 (lo b.exh), .int .i64 b.thr, .int .i64 b.head]] w fun e w' => e = .returned (.agg #[.int .i64 (hi (xOf (speedX b))), .int .u64 (lo (xOf (speedX b))), .int .i64 (hi (yOf (speedX b))), .int .u64 (lo (yOf (speedX b))), .int .i64 (eOf (speedX b))]) ∧ Below w.heap.size w w' := by
  have m1 := MayF.of h1
  have m2 := MayF.of h2
  have m3 := MayF.of h3
  have hGx := Good.div b.px b.mass
  have hGy := Good.div b.py b.mass
  have hS : speedX b = vecX (divX b.px b.mass) (divX b.py b.mass) := rfl
  rw [hS]
  clear hS
  rcases hGx.cases with ⟨x, hx, hx1⟩ | ⟨ex, hx, hex⟩
  · rcases hGy.cases with ⟨y, hy, hy1⟩ | ⟨ey, hy, hey⟩
    · rw [hx, hy]
      go_enter Try.func90, Try.ntmps90
      go_wp2_with (first | (go_at_call_of 23 (Value.agg #[.int .i64 (hi b.px), .int .u64 (lo b.px)]); refine (r1_DivF _ _ _ _ _ (by assumption) (by assumption)).mono ?_; rintro e u1 ⟨rfl, ho⟩; have hzu1 := Below.size ho; (try simp at hzu1); have HB2 : Hid (Below w.heap.size w u1) := Lib.hid (Below.trans (by exact pBl) (Below.mono ho pSd)); (try clear HB); have HB := HB2; clear HB2; have B2 := blk_below (g := w.heap.size) ho pSd; (try simp (disch := first | omega | (simp; done) | (simp; omega)) only [pBk] at B2); (try rw [Hid.out B_b] at B2); (try simp only [pBk] at B2); (try clear c_b f_b r_b B_b); obtain ⟨c_b, f_b, l_u1_b, r_b, B_b⟩ := blk_all B2; clear B2; have B2 := blk_below (g := w.heap.size + 1) ho pSd; (try simp (disch := first | omega | (simp; done) | (simp; omega)) only [pBk] at B2); (try rw [Hid.out B_r] at B2); (try simp only [pBk] at B2); (try clear c_r f_r r_r B_r); obtain ⟨c_r, f_r, l_u1_r, r_r, B_r⟩ := blk_all B2; clear B2; clear ho) | (go_at_call 23; refine (r1_DivF _ _ _ _ _ (by assumption) (by assumption)).mono ?_; rintro e u2 ⟨rfl, ho⟩; have hzu2 := Below.size ho; (try simp at hzu2); have HB2 : Hid (Below w.heap.size w u2) := Lib.hid (Below.trans (by exact pBl) (Below.mono ho pSd)); (try clear HB); have HB := HB2; clear HB2; have B2 := blk_below (g := w.heap.size) ho pSd; (try simp (disch := first | omega | (simp; done) | (simp; omega)) only [pBk] at B2); (try rw [Hid.out B_b] at B2); (try simp only [pBk] at B2); (try clear c_b f_b r_b B_b); obtain ⟨c_b, f_b, l_u2_b, r_b, B_b⟩ := blk_all B2; clear B2; have B2 := blk_below (g := w.heap.size + 1) ho pSd; (try simp (disch := first | omega | (simp; done) | (simp; omega)) only [pBk] at B2); (try rw [Hid.out B_r] at B2); (try simp only [pBk] at B2); (try clear c_r f_r r_r B_r); obtain ⟨c_r, f_r, l_u2_r, r_r, B_r⟩ := blk_all B2; clear B2; have B2 := blk_below (g := u1.heap.size) ho pSd; (try simp (disch := first | omega | (simp; done) | (simp; omega)) only [pBk] at B2); (try rw [Hid.out B_x] at B2); (try simp only [pBk] at B2); (try clear c_x f_x r_x B_x); obtain ⟨c_x, f_x, l_u2_x, r_x, B_x⟩ := blk_all B2; clear B2; clear ho))
      all_goals refine bodyPost_ret ?r rfl ⟨rfl, ?b⟩
      case r => simp (maxDischargeDepth := 9) [results, Try.results90, go_sem, *]
      case b => exact pBl
    · rw [hx, hy]
      go_enter Try.func90, Try.ntmps90
      go_wp2_with (first | (go_at_call_of 23 (Value.agg #[.int .i64 (hi b.px), .int .u64 (lo b.px)]); refine (r1_DivF _ _ _ _ _ (by assumption) (by assumption)).mono ?_; rintro e u1 ⟨rfl, ho⟩; have hzu1 := Below.size ho; (try simp at hzu1); have HB2 : Hid (Below w.heap.size w u1) := Lib.hid (Below.trans (by exact pBl) (Below.mono ho pSd)); (try clear HB); have HB := HB2; clear HB2; have B2 := blk_below (g := w.heap.size) ho pSd; (try simp (disch := first | omega | (simp; done) | (simp; omega)) only [pBk] at B2); (try rw [Hid.out B_b] at B2); (try simp only [pBk] at B2); (try clear c_b f_b r_b B_b); obtain ⟨c_b, f_b, l_u1_b, r_b, B_b⟩ := blk_all B2; clear B2; have B2 := blk_below (g := w.heap.size + 1) ho pSd; (try simp (disch := first | omega | (simp; done) | (simp; omega)) only [pBk] at B2); (try rw [Hid.out B_r] at B2); (try simp only [pBk] at B2); (try clear c_r f_r r_r B_r); obtain ⟨c_r, f_r, l_u1_r, r_r, B_r⟩ := blk_all B2; clear B2; clear ho) | (go_at_call 23; refine (r1_DivF _ _ _ _ _ (by assumption) (by assumption)).mono ?_; rintro e u2 ⟨rfl, ho⟩; have hzu2 := Below.size ho; (try simp at hzu2); have HB2 : Hid (Below w.heap.size w u2) := Lib.hid (Below.trans (by exact pBl) (Below.mono ho pSd)); (try clear HB); have HB := HB2; clear HB2; have B2 := blk_below (g := w.heap.size) ho pSd; (try simp (disch := first | omega | (simp; done) | (simp; omega)) only [pBk] at B2); (try rw [Hid.out B_b] at B2); (try simp only [pBk] at B2); (try clear c_b f_b r_b B_b); obtain ⟨c_b, f_b, l_u2_b, r_b, B_b⟩ := blk_all B2; clear B2; have B2 := blk_below (g := w.heap.size + 1) ho pSd; (try simp (disch := first | omega | (simp; done) | (simp; omega)) only [pBk] at B2); (try rw [Hid.out B_r] at B2); (try simp only [pBk] at B2); (try clear c_r f_r r_r B_r); obtain ⟨c_r, f_r, l_u2_r, r_r, B_r⟩ := blk_all B2; clear B2; have B2 := blk_below (g := u1.heap.size) ho pSd; (try simp (disch := first | omega | (simp; done) | (simp; omega)) only [pBk] at B2); (try rw [Hid.out B_x] at B2); (try simp only [pBk] at B2); (try clear c_x f_x r_x B_x); obtain ⟨c_x, f_x, l_u2_x, r_x, B_x⟩ := blk_all B2; clear B2; clear ho))
      all_goals refine bodyPost_ret ?r rfl ⟨rfl, ?b⟩
      case r => simp (maxDischargeDepth := 9) [results, Try.results90, go_sem, *]
      case b => exact pBl
  · rw [hx]
    go_enter Try.func90, Try.ntmps90
    go_wp2_with (go_at_call_of 23 (Value.agg #[.int .i64 (hi b.px), .int .u64 (lo b.px)]); refine (r1_DivF _ _ _ _ _ (by assumption) (by assumption)).mono ?_; rintro e u1 ⟨rfl, ho⟩; have hzu1 := Below.size ho; (try simp at hzu1); have HB2 : Hid (Below w.heap.size w u1) := Lib.hid (Below.trans (by exact pBl) (Below.mono ho pSd)); (try clear HB); have HB := HB2; clear HB2; have B2 := blk_below (g := w.heap.size) ho pSd; (try simp (disch := first | omega | (simp; done) | (simp; omega)) only [pBk] at B2); (try rw [Hid.out B_b] at B2); (try simp only [pBk] at B2); (try clear c_b f_b r_b B_b); obtain ⟨c_b, f_b, l_u1_b, r_b, B_b⟩ := blk_all B2; clear B2; have B2 := blk_below (g := w.heap.size + 1) ho pSd; (try simp (disch := first | omega | (simp; done) | (simp; omega)) only [pBk] at B2); (try rw [Hid.out B_r] at B2); (try simp only [pBk] at B2); (try clear c_r f_r r_r B_r); obtain ⟨c_r, f_r, l_u1_r, r_r, B_r⟩ := blk_all B2; clear B2; clear ho)
    all_goals refine bodyPost_ret ?r rfl ⟨rfl, ?b⟩
    case r => simp (maxDischargeDepth := 9) [results, Try.results90, go_sem, *]
    case b => exact pBl

end Go.Proofs.Ytdphhkbbphfjlaa
