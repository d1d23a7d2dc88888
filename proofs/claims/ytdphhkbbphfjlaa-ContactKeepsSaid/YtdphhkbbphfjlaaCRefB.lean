/- The walks of the reference's r1.Neg, Mag, plus, MulTwo. -/
import Derived.Test.YtdphhkbbphfjlaaCRefA
import Derived.Test.YtdphhkbbphfjlaaCMem
namespace Go.Proofs.Ytdphhkbbphfjlaa
set_option linter.unusedVariables false
set_option linter.unusedSimpArgs false
open Go.RowKit
attribute [local go_sem] uwrap_lo lo_lo hi_lo val_hl val_00
attribute [local go_sem ↓] Go.wp_at_zero Go.wp_at_succ

theorem fld_sum0 (a b c : Value) (w : World) : (Instr.field 122 (.agg #[a, b, c]) 0).run Try.prog w = .ok (.agg #[a, b]) w := by kernel_rfl
theorem fld_sum1 (a b : Value) (c : Bool) (w : World) : (Instr.field 122 (.agg #[a, b, .bool c]) 1).run Try.prog w = .ok (.bool c) w := by kernel_rfl
attribute [local go_sem] fld_sum0 fld_sum1
theorem neg_words {h l : Int} (hl : W64 l) (hh : I64 h) (hR : R (val h l)) :
    wrap64 (hi (w2 (-val (lo h) l))) = hi (-val h l) ∧ lo (w2 (-val (lo h) l)) = lo (-val h l) := by
  unfold wrap64
  unfold W64 I64 R val hi lo w2 at *
  constructor <;> omega
set_option maxRecDepth 100000 in
set_option maxHeartbeats 2000000 in
theorem r1_Neg (h l : Int) (w : World) (hl : W64 l) (hh : I64 h) (hR : R (val h l)) :
    Calls Try.prog 71 #[.agg #[.int .i64 h, .int .u64 l]] w fun e w' => e = .returned (.agg #[.int .i64 (hi (-val h l)), .int .u64 (lo (-val h l))]) ∧ Below w.heap.size w w' := by
  obtain ⟨h1, h2⟩ := neg_words hl hh hR
  go_enter Try.func71, Try.ntmps71
  go_wp2_with (first | (go_at_call 88; refine (r1_SubTwo _ _ _ _ _ W64_0 W64_0 (W64_lo _) (by assumption)).mono ?_; rintro e u1 ⟨rfl, hbu1⟩; have hzu1 := hbu1.size; (try simp at hzu1); have hsu1_w : w.heap.size ≤ u1.heap.size := (by omega); obtain ⟨hcu1_w_0, hfu1_w_0⟩ := pBc hbu1 (b := w.heap.size) pSd; have hsu1_w_0 : w.heap.size < u1.heap.size := (by omega); obtain ⟨hcu1_w_1, hfu1_w_1⟩ := pBc hbu1 (b := w.heap.size + 1) pSd; have hsu1_w_1 : w.heap.size + 1 < u1.heap.size := (by omega); have Hu1 := Lib.hid hbu1; clear hbu1))
  refine bodyPost_ret ?r rfl ⟨rfl, ?b⟩
  case r => simp (maxDischargeDepth := 9) [results, Try.results71, go_sem, *]
  case b => exact pBl

theorem mag_pos {h l : Int} (hl : W64 l) (hh : I64 h) (hR : R (val h l)) (h0 : ¬ h < 0) : lo h = hi (ab (val h l)) ∧ l = lo (ab (val h l)) := by
  unfold W64 I64 R ab val hi lo at *; split <;> omega
theorem mag_neg {h l : Int} (hl : W64 l) (hh : I64 h) (hR : R (val h l)) (h0 : h < 0) : lo (hi (-val h l)) = hi (ab (val h l)) ∧ lo (-val h l) = lo (ab (val h l)) := by
  unfold W64 I64 R ab val hi lo at *; split <;> omega
set_option maxRecDepth 100000 in
set_option maxHeartbeats 2000000 in
theorem r1_Mag (h l : Int) (w : World) (hl : W64 l) (hh : I64 h) (hR : R (val h l)) :
    Calls Try.prog 26 #[.agg #[.int .i64 h, .int .u64 l]] w fun e w' => e = .returned (.agg #[.int .u64 (hi (ab (val h l))), .int .u64 (lo (ab (val h l)))]) ∧ Below w.heap.size w w' := by
  by_cases h0 : h < 0
  · obtain ⟨h1, h2⟩ := mag_neg hl hh hR h0
    have hd := decide_eq_true h0
    go_enter Try.func26, Try.ntmps26
    go_wp2_with (first | (go_at_call 71; refine (r1_Neg _ _ _ (by assumption) (by assumption) (by assumption)).mono ?_; rintro e u1 ⟨rfl, hbu1⟩; have hzu1 := hbu1.size; (try simp at hzu1); have hsu1_w : w.heap.size ≤ u1.heap.size := (by omega); obtain ⟨hcu1_w_0, hfu1_w_0⟩ := pBc hbu1 (b := w.heap.size) pSd; have hsu1_w_0 : w.heap.size < u1.heap.size := (by omega); obtain ⟨hcu1_w_1, hfu1_w_1⟩ := pBc hbu1 (b := w.heap.size + 1) pSd; have hsu1_w_1 : w.heap.size + 1 < u1.heap.size := (by omega); have Hu1 := Lib.hid hbu1; clear hbu1))
    all_goals refine bodyPost_ret ?r rfl ⟨rfl, ?b⟩
    case r => simp (maxDischargeDepth := 9) [results, Try.results26, go_sem, *]
    case b => exact pBl
  · obtain ⟨h1, h2⟩ := mag_pos hl hh hR h0
    have hd := decide_eq_false h0
    rw [← h1, ← h2]
    clear h1 h2
    go_enter Try.func26, Try.ntmps26
    go_wp2_with fail
    refine bodyPost_ret ?r rfl ⟨rfl, ?b⟩
    case r => simp (maxDischargeDepth := 9) [results, Try.results26, go_sem, *]
    case b => exact pBl

theorem plus_up {a b c d bh bl : Int} (ha : W64 a) (hb : W64 b) (hc : W64 c) (hd : W64 d) (hh : W64 bh) (hl : W64 bl) :
    hi (w2 (val a b + val bh bl)) = q3 (v4 a b c d + val bh bl * 340282366920938463463374607431768211456) ∧ lo (w2 (val a b + val bh bl)) = q2 (v4 a b c d + val bh bl * 340282366920938463463374607431768211456) ∧ c = q1 (v4 a b c d + val bh bl * 340282366920938463463374607431768211456) ∧ d = q0 (v4 a b c d + val bh bl * 340282366920938463463374607431768211456) := by
  unfold W64 at *; unfold w2 q3 q2 q1 q0 v4 val hi lo; refine ⟨?_, ?_, ?_, ?_⟩ <;> omega
set_option maxRecDepth 100000 in
set_option maxHeartbeats 2000000 in
theorem r1_plusU (a b c d bh bl : Int) (w : World) (ha : W64 a) (hb : W64 b) (hc : W64 c) (hd : W64 d) (hh : W64 bh) (hl : W64 bl) :
    Calls Try.prog 124 #[.agg #[.int .u64 a, .int .u64 b, .int .u64 c, .int .u64 d], .agg #[.int .u64 bh, .int .u64 bl], .bool false] w fun e w' => e = .returned (.agg #[.int .u64 (q3 (v4 a b c d + val bh bl * 340282366920938463463374607431768211456)), .int .u64 (q2 (v4 a b c d + val bh bl * 340282366920938463463374607431768211456)), .int .u64 (q1 (v4 a b c d + val bh bl * 340282366920938463463374607431768211456)), .int .u64 (q0 (v4 a b c d + val bh bl * 340282366920938463463374607431768211456))]) ∧ Below w.heap.size w w' := by
  obtain ⟨h1, h2, h3, h4⟩ := plus_up ha hb hc hd hh hl
  rw [← h1, ← h2, ← h3, ← h4]
  clear h1 h2 h3 h4
  go_enter Try.func124, Try.ntmps124
  go_wp2_with (first | (go_at_call 68; refine (r1_AddTwo _ _ _ _ _ (by assumption) (by assumption) (by assumption) (by assumption)).mono ?_; rintro e u1 ⟨rfl, ho⟩; have hzu1 := Below.size ho; (try simp at hzu1); have HB2 : Hid (Below w.heap.size w u1) := Lib.hid (Below.trans (by exact pBl) (Below.mono ho pSd)); (try clear HB); have HB := HB2; clear HB2; have B2 := blk_below (g := w.heap.size) ho pSd; (try simp (disch := first | omega | (simp; done) | (simp; omega)) only [pBk] at B2); (try rw [Hid.out B_a] at B2); (try simp only [pBk] at B2); (try clear c_a f_a r_a B_a); obtain ⟨c_a, f_a, l_u1_a, r_a, B_a⟩ := blk_all B2; clear B2; have B2 := blk_below (g := w.heap.size + 1) ho pSd; (try simp (disch := first | omega | (simp; done) | (simp; omega)) only [pBk] at B2); (try rw [Hid.out B_b] at B2); (try simp only [pBk] at B2); (try clear c_b f_b r_b B_b); obtain ⟨c_b, f_b, l_u1_b, r_b, B_b⟩ := blk_all B2; clear B2; have B2 := blk_below (g := w.heap.size + 1 + 1) ho pSd; (try simp (disch := first | omega | (simp; done) | (simp; omega)) only [pBk] at B2); (try rw [Hid.out B_r] at B2); (try simp only [pBk] at B2); (try clear c_r f_r r_r B_r); obtain ⟨c_r, f_r, l_u1_r, r_r, B_r⟩ := blk_all B2; clear B2; clear ho))
  refine bodyPost_ret ?r rfl ⟨rfl, ?b⟩
  case r => simp (maxDischargeDepth := 9) [results, Try.results124, go_sem, *]
  case b => exact pBl

theorem plus_mid0 {a b c d bh bl : Int} (ha : W64 a) (hb : W64 b) (hc : W64 c) (hd : W64 d) (hh : W64 bh) (hl : W64 bl) (h : ov2 (val c d + val bl 0) = false) :
    hi (w2 (val a b + val 0 bh)) = q3 (v4 a b c d + val bh bl * 18446744073709551616) ∧ lo (w2 (val a b + val 0 bh)) = q2 (v4 a b c d + val bh bl * 18446744073709551616) ∧ hi (w2 (val c d + val bl 0)) = q1 (v4 a b c d + val bh bl * 18446744073709551616) ∧ lo (w2 (val c d + val bl 0)) = q0 (v4 a b c d + val bh bl * 18446744073709551616) := by
  unfold ov2 at h; rw [decide_eq_false_iff_not] at h; unfold W64 at *; unfold w2 q3 q2 q1 q0 v4; unfold val hi lo at *; refine ⟨?_, ?_, ?_, ?_⟩ <;> omega
theorem plus_mid1 {a b c d bh bl : Int} (ha : W64 a) (hb : W64 b) (hc : W64 c) (hd : W64 d) (hh : W64 bh) (hl : W64 bl) (h : ov2 (val c d + val bl 0) = true) :
    hi (w2 (val a b + w2 (val 0 bh + val 0 1))) = q3 (v4 a b c d + val bh bl * 18446744073709551616) ∧ lo (w2 (val a b + w2 (val 0 bh + val 0 1))) = q2 (v4 a b c d + val bh bl * 18446744073709551616) ∧ hi (w2 (val c d + val bl 0)) = q1 (v4 a b c d + val bh bl * 18446744073709551616) ∧ lo (w2 (val c d + val bl 0)) = q0 (v4 a b c d + val bh bl * 18446744073709551616) := by
  unfold ov2 at h; rw [decide_eq_true_eq] at h; unfold W64 at *; unfold w2 q3 q2 q1 q0 v4; unfold val hi lo at *; refine ⟨?_, ?_, ?_, ?_⟩ <;> omega
set_option maxRecDepth 100000 in
set_option maxHeartbeats 2000000 in
theorem r1_plusM (a b c d bh bl : Int) (w : World) (ha : W64 a) (hb : W64 b) (hc : W64 c) (hd : W64 d) (hh : W64 bh) (hl : W64 bl) :
    Calls Try.prog 124 #[.agg #[.int .u64 a, .int .u64 b, .int .u64 c, .int .u64 d], .agg #[.int .u64 bh, .int .u64 bl], .bool true] w fun e w' => e = .returned (.agg #[.int .u64 (q3 (v4 a b c d + val bh bl * 18446744073709551616)), .int .u64 (q2 (v4 a b c d + val bh bl * 18446744073709551616)), .int .u64 (q1 (v4 a b c d + val bh bl * 18446744073709551616)), .int .u64 (q0 (v4 a b c d + val bh bl * 18446744073709551616))]) ∧ Below w.heap.size w w' := by
  cases hv : ov2 (val c d + val bl 0)
  · obtain ⟨h1, h2, h3, h4⟩ := plus_mid0 ha hb hc hd hh hl hv
    rw [← h1, ← h2, ← h3, ← h4]
    clear h1 h2 h3 h4
    go_enter Try.func124, Try.ntmps124
    go_wp2_with (go_at_call 68; refine (r1_AddTwo _ _ _ _ _ (by exact hc) (by exact hd) (by exact hl) (by exact W64_0)).mono ?_; rintro e u1 ⟨rfl, ho⟩; have hzu1 := Below.size ho; (try simp at hzu1); have HB2 : Hid (Below w.heap.size w u1) := Lib.hid (Below.trans (by exact pBl) (Below.mono ho pSd)); (try clear HB); have HB := HB2; clear HB2; have B2 := blk_below (g := w.heap.size) ho pSd; (try simp (disch := first | omega | (simp; done) | (simp; omega)) only [pBk] at B2); (try rw [Hid.out B_a] at B2); (try simp only [pBk] at B2); (try clear c_a f_a r_a B_a); obtain ⟨c_a, f_a, l_u1_a, r_a, B_a⟩ := blk_all B2; clear B2; have B2 := blk_below (g := w.heap.size + 1) ho pSd; (try simp (disch := first | omega | (simp; done) | (simp; omega)) only [pBk] at B2); (try rw [Hid.out B_b] at B2); (try simp only [pBk] at B2); (try clear c_b f_b r_b B_b); obtain ⟨c_b, f_b, l_u1_b, r_b, B_b⟩ := blk_all B2; clear B2; have B2 := blk_below (g := w.heap.size + 1 + 1) ho pSd; (try simp (disch := first | omega | (simp; done) | (simp; omega)) only [pBk] at B2); (try rw [Hid.out B_r] at B2); (try simp only [pBk] at B2); (try clear c_r f_r r_r B_r); obtain ⟨c_r, f_r, l_u1_r, r_r, B_r⟩ := blk_all B2; clear B2; clear ho)
    go_wp2_with (go_at_call 68; refine (r1_AddTwo _ _ _ _ _ (by exact ha) (by exact hb) (by exact W64_0) (by exact hh)).mono ?_; rintro e u2 ⟨rfl, ho⟩; have hzu2 := Below.size ho; (try simp at hzu2); have HB2 : Hid (Below w.heap.size w u2) := Lib.hid (Below.trans (by exact pBl) (Below.mono ho pSd)); (try clear HB); have HB := HB2; clear HB2; have B2 := blk_below (g := w.heap.size) ho pSd; (try simp (disch := first | omega | (simp; done) | (simp; omega)) only [pBk] at B2); (try rw [Hid.out B_a] at B2); (try simp only [pBk] at B2); (try clear c_a f_a r_a B_a); obtain ⟨c_a, f_a, l_u2_a, r_a, B_a⟩ := blk_all B2; clear B2; have B2 := blk_below (g := w.heap.size + 1) ho pSd; (try simp (disch := first | omega | (simp; done) | (simp; omega)) only [pBk] at B2); (try rw [Hid.out B_b] at B2); (try simp only [pBk] at B2); (try clear c_b f_b r_b B_b); obtain ⟨c_b, f_b, l_u2_b, r_b, B_b⟩ := blk_all B2; clear B2; have B2 := blk_below (g := w.heap.size + 1 + 1) ho pSd; (try simp (disch := first | omega | (simp; done) | (simp; omega)) only [pBk] at B2); (try rw [Hid.out B_r] at B2); (try simp only [pBk] at B2); (try clear c_r f_r r_r B_r); obtain ⟨c_r, f_r, l_u2_r, r_r, B_r⟩ := blk_all B2; clear B2; have B2 := blk_below (g := u1.heap.size) ho pSd; (try simp (disch := first | omega | (simp; done) | (simp; omega)) only [pBk] at B2); (try rw [Hid.out B_s] at B2); (try simp only [pBk] at B2); (try clear c_s f_s r_s B_s); obtain ⟨c_s, f_s, l_u2_s, r_s, B_s⟩ := blk_all B2; clear B2; have B2 := blk_below (g := u1.heap.size + 1) ho pSd; (try simp (disch := first | omega | (simp; done) | (simp; omega)) only [pBk] at B2); (try rw [Hid.out B_x] at B2); (try simp only [pBk] at B2); (try clear c_x f_x r_x B_x); obtain ⟨c_x, f_x, l_u2_x, r_x, B_x⟩ := blk_all B2; clear B2; clear ho)
    refine bodyPost_ret ?r rfl ⟨rfl, ?b⟩
    case r => simp (maxDischargeDepth := 9) [results, Try.results124, go_sem, *]
    case b => exact pBl
  · obtain ⟨h1, h2, h3, h4⟩ := plus_mid1 ha hb hc hd hh hl hv
    rw [← h1, ← h2, ← h3, ← h4]
    clear h1 h2 h3 h4
    go_enter Try.func124, Try.ntmps124
    go_wp2_with (go_at_call 68; refine (r1_AddTwo _ _ _ _ _ (by exact hc) (by exact hd) (by exact hl) (by exact W64_0)).mono ?_; rintro e u1 ⟨rfl, ho⟩; have hzu1 := Below.size ho; (try simp at hzu1); have HB2 : Hid (Below w.heap.size w u1) := Lib.hid (Below.trans (by exact pBl) (Below.mono ho pSd)); (try clear HB); have HB := HB2; clear HB2; have B2 := blk_below (g := w.heap.size) ho pSd; (try simp (disch := first | omega | (simp; done) | (simp; omega)) only [pBk] at B2); (try rw [Hid.out B_a] at B2); (try simp only [pBk] at B2); (try clear c_a f_a r_a B_a); obtain ⟨c_a, f_a, l_u1_a, r_a, B_a⟩ := blk_all B2; clear B2; have B2 := blk_below (g := w.heap.size + 1) ho pSd; (try simp (disch := first | omega | (simp; done) | (simp; omega)) only [pBk] at B2); (try rw [Hid.out B_b] at B2); (try simp only [pBk] at B2); (try clear c_b f_b r_b B_b); obtain ⟨c_b, f_b, l_u1_b, r_b, B_b⟩ := blk_all B2; clear B2; have B2 := blk_below (g := w.heap.size + 1 + 1) ho pSd; (try simp (disch := first | omega | (simp; done) | (simp; omega)) only [pBk] at B2); (try rw [Hid.out B_r] at B2); (try simp only [pBk] at B2); (try clear c_r f_r r_r B_r); obtain ⟨c_r, f_r, l_u1_r, r_r, B_r⟩ := blk_all B2; clear B2; clear ho)
    go_wp2_with (go_at_call 68; refine (r1_AddTwo _ _ _ _ _ (by exact W64_0) (by exact hh) (by exact W64_0) (by exact W64_1)).mono ?_; rintro e u2 ⟨rfl, ho⟩; have hzu2 := Below.size ho; (try simp at hzu2); have HB2 : Hid (Below w.heap.size w u2) := Lib.hid (Below.trans (by exact pBl) (Below.mono ho pSd)); (try clear HB); have HB := HB2; clear HB2; have B2 := blk_below (g := w.heap.size) ho pSd; (try simp (disch := first | omega | (simp; done) | (simp; omega)) only [pBk] at B2); (try rw [Hid.out B_a] at B2); (try simp only [pBk] at B2); (try clear c_a f_a r_a B_a); obtain ⟨c_a, f_a, l_u2_a, r_a, B_a⟩ := blk_all B2; clear B2; have B2 := blk_below (g := w.heap.size + 1) ho pSd; (try simp (disch := first | omega | (simp; done) | (simp; omega)) only [pBk] at B2); (try rw [Hid.out B_b] at B2); (try simp only [pBk] at B2); (try clear c_b f_b r_b B_b); obtain ⟨c_b, f_b, l_u2_b, r_b, B_b⟩ := blk_all B2; clear B2; have B2 := blk_below (g := w.heap.size + 1 + 1) ho pSd; (try simp (disch := first | omega | (simp; done) | (simp; omega)) only [pBk] at B2); (try rw [Hid.out B_r] at B2); (try simp only [pBk] at B2); (try clear c_r f_r r_r B_r); obtain ⟨c_r, f_r, l_u2_r, r_r, B_r⟩ := blk_all B2; clear B2; have B2 := blk_below (g := u1.heap.size) ho pSd; (try simp (disch := first | omega | (simp; done) | (simp; omega)) only [pBk] at B2); (try rw [Hid.out B_s] at B2); (try simp only [pBk] at B2); (try clear c_s f_s r_s B_s); obtain ⟨c_s, f_s, l_u2_s, r_s, B_s⟩ := blk_all B2; clear B2; have B2 := blk_below (g := u1.heap.size + 1) ho pSd; (try simp (disch := first | omega | (simp; done) | (simp; omega)) only [pBk] at B2); (try rw [Hid.out B_x] at B2); (try simp only [pBk] at B2); (try clear c_x f_x r_x B_x); obtain ⟨c_x, f_x, l_u2_x, r_x, B_x⟩ := blk_all B2; clear B2; clear ho)
    go_wp2_with (go_at_call 68; refine (r1_AddTwo _ _ _ _ _ (by exact ha) (by exact hb) (by exact (W64_hw2 _)) (by exact (W64_lo _))).mono ?_; rintro e u3 ⟨rfl, ho⟩; have hzu3 := Below.size ho; (try simp at hzu3); have HB2 : Hid (Below w.heap.size w u3) := Lib.hid (Below.trans (by exact pBl) (Below.mono ho pSd)); (try clear HB); have HB := HB2; clear HB2; have B2 := blk_below (g := w.heap.size) ho pSd; (try simp (disch := first | omega | (simp; done) | (simp; omega)) only [pBk] at B2); (try rw [Hid.out B_a] at B2); (try simp only [pBk] at B2); (try clear c_a f_a r_a B_a); obtain ⟨c_a, f_a, l_u3_a, r_a, B_a⟩ := blk_all B2; clear B2; have B2 := blk_below (g := w.heap.size + 1) ho pSd; (try simp (disch := first | omega | (simp; done) | (simp; omega)) only [pBk] at B2); (try rw [Hid.out B_b] at B2); (try simp only [pBk] at B2); (try clear c_b f_b r_b B_b); obtain ⟨c_b, f_b, l_u3_b, r_b, B_b⟩ := blk_all B2; clear B2; have B2 := blk_below (g := w.heap.size + 1 + 1) ho pSd; (try simp (disch := first | omega | (simp; done) | (simp; omega)) only [pBk] at B2); (try rw [Hid.out B_r] at B2); (try simp only [pBk] at B2); (try clear c_r f_r r_r B_r); obtain ⟨c_r, f_r, l_u3_r, r_r, B_r⟩ := blk_all B2; clear B2; have B2 := blk_below (g := u1.heap.size) ho pSd; (try simp (disch := first | omega | (simp; done) | (simp; omega)) only [pBk] at B2); (try rw [Hid.out B_s] at B2); (try simp only [pBk] at B2); (try clear c_s f_s r_s B_s); obtain ⟨c_s, f_s, l_u3_s, r_s, B_s⟩ := blk_all B2; clear B2; have B2 := blk_below (g := u1.heap.size + 1) ho pSd; (try simp (disch := first | omega | (simp; done) | (simp; omega)) only [pBk] at B2); (try rw [Hid.out B_x] at B2); (try simp only [pBk] at B2); (try clear c_x f_x r_x B_x); obtain ⟨c_x, f_x, l_u3_x, r_x, B_x⟩ := blk_all B2; clear B2; clear ho)
    refine bodyPost_ret ?r rfl ⟨rfl, ?b⟩
    case r => simp (maxDischargeDepth := 9) [results, Try.results124, go_sem, *]
    case b => exact pBl
end Go.Proofs.Ytdphhkbbphfjlaa
