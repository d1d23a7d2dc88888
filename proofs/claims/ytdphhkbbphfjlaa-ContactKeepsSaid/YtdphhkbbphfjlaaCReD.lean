/- The walks of the reference's r1.signed, Add, Sub. The walks of the reference's r1.Shr by 64, r1.Shl by 65. -/
import Derived.Test.YtdphhkbbphfjlaaCRefC
import Derived.Test.YtdphhkbbphfjlaaCFixD
import Derived.Deep.RegionHeld3
import Derived.Deep.DeepCutAuto
namespace Go.Proofs.Ytdphhkbbphfjlaa
set_option linter.unusedVariables false
set_option linter.unusedSimpArgs false
open Go.RowKit
attribute [local go_sem] uwrap_lo lo_lo hi_lo val_hl val_00 v4_q
attribute [local go_sem ↓] Go.wp_at_zero Go.wp_at_succ
attribute [local go_sem] fld_sum0 fld_sum1

/-- '!=' of two pairs -/
theorem Try.two_neq (a b c d : Int) (w : World) : (binOp .neq 53 (.agg #[.int .u64 a, .int .u64 b]) (.agg #[.int .u64 c, .int .u64 d])).run Try.prog w = .ok (.bool (!eq2 a b c d)) w := by
  unfold eq2
  by_cases h1 : a = c <;> by_cases h2 : b = d <;> go_simp <;> simp [h1, h2]
attribute [local go_sem ↓] Try.two_eql Try.two_neq
theorem eq2_00 : eq2 0 0 0 0 = true := rfl
theorem eq2_n {a b c d : Int} (h : ¬ (a = c ∧ b = d)) : eq2 a b c d = false := by unfold eq2; by_cases h1 : a = c <;> by_cases h2 : b = d <;> simp_all
theorem signed_words {p q h l : Int} (hp : W64 p) (hq : W64 q) (hh : W64 h) (hl : W64 l) (hN : N127 (v4 p q h l)) :
    p = 0 ∧ q = 0 ∧ h < 9223372036854775808 ∧ wrap64 h = h ∧ I64 h ∧ v4 p q h l = val h l ∧ R (val h l) ∧ hi (val h l) = h ∧ lo (val h l) = l := by
  unfold N127 at hN; unfold W64 at *; unfold v4 val at *; unfold wrap64 I64 R hi lo; omega
theorem signed_over {p q h l : Int} (hp : W64 p) (hq : W64 q) (hh : W64 h) (hl : W64 l) (hN : ¬ N127 (v4 p q h l)) : (p ≠ 0 ∨ q ≠ 0) ∨ p = 0 ∧ q = 0 ∧ 9223372036854775808 ≤ h := by
  unfold N127 at hN; unfold W64 at *; unfold v4 val at *; omega
set_option maxRecDepth 100000 in
set_option maxHeartbeats 2000000 in
theorem r1_signed_ok (p q h l : Int) (b : Bool) (w : World) (hp : W64 p) (hq : W64 q) (hh : W64 h) (hl : W64 l) (hN : N127 (v4 p q h l)) :
    Calls Try.prog 70 #[.bool b, .agg #[.int .u64 p, .int .u64 q, .int .u64 h, .int .u64 l]] w fun e w' => e = .returned (.agg #[.int .i64 (hi (sg b (v4 p q h l))), .int .u64 (lo (sg b (v4 p q h l))), .int .i64 0]) ∧ Below w.heap.size w w' := by
  obtain ⟨rfl, rfl, h3, h4, h5, h6, h7, h8, h9⟩ := signed_words hp hq hh hl hN
  rw [h6]
  have hg : decide (9223372036854775808 ≤ h) = false := by simp; omega
  clear h3 h6 hN
  have e2 := eq2_00
  cases b
  · show Calls _ _ _ _ fun e w' => e = .returned (.agg #[.int .i64 (hi (val h l)), .int .u64 (lo (val h l)), .int .i64 0]) ∧ Below w.heap.size w w'
    rw [h8, h9]
    clear h8 h9
    go_enter Try.func70, Try.ntmps70
    go_wp2_with fail
    all_goals refine bodyPost_ret ?r rfl ⟨rfl, ?b⟩
    case r => simp (maxDischargeDepth := 9) [results, Try.results70, go_sem, *]
    case b => exact pBl
  · show Calls _ _ _ _ fun e w' => e = .returned (.agg #[.int .i64 (hi (-val h l)), .int .u64 (lo (-val h l)), .int .i64 0]) ∧ Below w.heap.size w w'
    clear h8 h9
    go_enter Try.func70, Try.ntmps70
    go_wp2_with (go_at_call 71; refine (r1_Neg _ _ _ (by assumption) (by assumption) (by assumption)).mono ?_; rintro e u1 ⟨rfl, ho⟩; have hzu1 := Below.size ho; (try simp at hzu1); have HB2 : Hid (Below w.heap.size w u1) := Lib.hid (Below.trans (by exact pBl) (Below.mono ho pSd)); (try clear HB); have HB := HB2; clear HB2; have B2 := blk_below (g := w.heap.size) ho pSd; (try simp (disch := first | omega | (simp; done) | (simp; omega)) only [pBk] at B2); (try rw [Hid.out B_a] at B2); (try simp only [pBk] at B2); (try clear c_a f_a r_a B_a); obtain ⟨c_a, f_a, l_u1_a, r_a, B_a⟩ := blk_all B2; clear B2; have B2 := blk_below (g := w.heap.size + 1) ho pSd; (try simp (disch := first | omega | (simp; done) | (simp; omega)) only [pBk] at B2); (try rw [Hid.out B_r] at B2); (try simp only [pBk] at B2); (try clear c_r f_r r_r B_r); obtain ⟨c_r, f_r, l_u1_r, r_r, B_r⟩ := blk_all B2; clear B2; have B2 := blk_below (g := w.heap.size + 1 + 1) ho pSd; (try simp (disch := first | omega | (simp; done) | (simp; omega)) only [pBk] at B2); (try rw [Hid.out B_n] at B2); (try simp only [pBk] at B2); (try clear c_n f_n r_n B_n); obtain ⟨c_n, f_n, l_u1_n, r_n, B_n⟩ := blk_all B2; clear B2; clear ho)
    all_goals refine bodyPost_ret ?r rfl ⟨rfl, ?b⟩
    case r => simp (maxDischargeDepth := 9) [results, Try.results70, go_sem, *]
    case b => exact pBl
set_option maxRecDepth 100000 in
set_option maxHeartbeats 2000000 in
theorem r1_signed_err (p q h l : Int) (b : Bool) (w : World) (hp : W64 p) (hq : W64 q) (hh : W64 h) (hl : W64 l) (hN : ¬ N127 (v4 p q h l)) :
    Calls Try.prog 70 #[.bool b, .agg #[.int .u64 p, .int .u64 q, .int .u64 h, .int .u64 l]] w fun e w' => e = .returned (.agg #[.int .i64 0, .int .u64 0, .int .i64 3]) ∧ Below w.heap.size w w' := by
  rcases signed_over hp hq hh hl hN with h1 | ⟨rfl, rfl, h1⟩
  · have e2 : eq2 p q 0 0 = false := eq2_n (by omega)
    clear hN h1
    go_enter Try.func70, Try.ntmps70
    go_wp2_with fail
    all_goals refine bodyPost_ret ?r rfl ⟨rfl, ?b⟩
    case r => simp (maxDischargeDepth := 9) [results, Try.results70, go_sem, *]
    case b => exact pBl
  · have hg : decide (9223372036854775808 ≤ h) = true := by simp; omega
    have e2 := eq2_00
    clear hN
    go_enter Try.func70, Try.ntmps70
    go_wp2_with fail
    all_goals refine bodyPost_ret ?r rfl ⟨rfl, ?b⟩
    case r => simp (maxDischargeDepth := 9) [results, Try.results70, go_sem, *]
    case b => exact pBl
theorem r1_signed (p q h l : Int) (b : Bool) (w : World) (hp : W64 p) (hq : W64 q) (hh : W64 h) (hl : W64 l) :
    Calls Try.prog 70 #[.bool b, .agg #[.int .u64 p, .int .u64 q, .int .u64 h, .int .u64 l]] w fun e w' => e = .returned (.agg #[.int .i64 (hi (nOf (toldX (v4 p q h l) b))), .int .u64 (lo (nOf (toldX (v4 p q h l) b))), .int .i64 (eOf (toldX (v4 p q h l) b))]) ∧ Below w.heap.size w w' := by
  unfold toldX
  by_cases hN : N127 (v4 p q h l)
  · rw [if_pos hN]; exact r1_signed_ok p q h l b w hp hq hh hl hN
  · rw [if_neg hN]; exact r1_signed_err p q h l b w hp hq hh hl hN
end Go.Proofs.Ytdphhkbbphfjlaa
namespace Go.Proofs.Ytdphhkbbphfjlaa
set_option linter.unusedVariables false
set_option linter.unusedSimpArgs false
open Go.RowKit
attribute [local go_sem] uwrap_lo lo_lo hi_lo val_00
attribute [local go_sem ↓] Go.wp_at_zero Go.wp_at_succ

theorem mk4 (w : World) : (Instr.makeSlice 172 (.int .i64 4) (.int .i64 4)).run Try.prog w = .ok (.slice (some ⟨w.heap.size, 0, none⟩) 4 4) (w.alloc (.cells #[.int .u64 0, .int .u64 0, .int .u64 0, .int .u64 0] 22)) := by kernel_rfl
attribute [local go_sem] mk4
set_option maxRecDepth 100000 in
set_option maxHeartbeats 2000000 in
theorem r1_Shr64 (a b c d : Int) (w : World) (ha : W64 a) (hb : W64 b) (hc : W64 c) (hd : W64 d) :
    Calls Try.prog 89 #[.agg #[.int .u64 a, .int .u64 b, .int .u64 c, .int .u64 d], .int .i64 64] w fun e w' => e = .returned (.agg #[.int .u64 0, .int .u64 a, .int .u64 b, .int .u64 c]) ∧ Below w.heap.size w w' := by
  go_enter Try.func89, Try.ntmps89
  go_wp2_with (go_at_call 116; refine (r1_words _ _ _ _ _).mono ?_; rintro e u1 ⟨rfl, e_s, ho⟩; (try simp at e_s); (try clear c_s); (try clear f_s r_s B_s); obtain ⟨c_s, f_s, l_s, r_s, B_s⟩ := blk_all e_s; clear e_s; have hzu1 := Below.size ho; (try simp at hzu1); have HB2 : Hid (Below w.heap.size w u1) := Lib.hid (Below.trans (by exact pBl) (Below.mono ho pSd)); (try clear HB); have HB := HB2; clear HB2; have B2 := blk_below (g := w.heap.size) ho pSd; (try simp (disch := first | omega | (simp; done) | (simp; omega)) only [pBk] at B2); (try rw [Hid.out B_a] at B2); (try simp only [pBk] at B2); (try clear c_a f_a r_a B_a); obtain ⟨c_a, f_a, l_u1_a, r_a, B_a⟩ := blk_all B2; clear B2; have B2 := blk_below (g := w.heap.size + 1) ho pSd; (try simp (disch := first | omega | (simp; done) | (simp; omega)) only [pBk] at B2); (try rw [Hid.out B_r] at B2); (try simp only [pBk] at B2); (try clear c_r f_r r_r B_r); obtain ⟨c_r, f_r, l_u1_r, r_r, B_r⟩ := blk_all B2; clear B2; clear ho)
  refine wp_loop_rounds 5 ?_
  rw [rounds_succ]
  go_wp2
  rw [rounds_succ]
  go_wp2
  rw [rounds_succ]
  go_wp2
  rw [rounds_succ]
  go_wp2
  rw [rounds_succ]
  go_wp2_with (go_at_call 117; refine (r1_four _ _ _ _ _ _ (by ((try simp (disch := first | omega | (simp; done) | (simp; omega)) only [pBk]); first | done | with_reducible rfl | with_reducible exact Hid.out (by assumption) | (with_reducible rw [Hid.out B_s]; (try simp only [pBk]); first | done | with_reducible rfl) | (with_reducible rw [Hid.out B_a]; (try simp only [pBk]); first | done | with_reducible rfl) | (with_reducible rw [Hid.out B_r]; (try simp only [pBk]); first | done | with_reducible rfl)))).mono ?_; rintro e u2 ⟨rfl, ho⟩; have hzu2 := Below.size ho; (try simp at hzu2); have HB2 : Hid (Below w.heap.size w u2) := Lib.hid (Below.trans (by exact pBl) (Below.mono ho pSd)); (try clear HB); have HB := HB2; clear HB2; have B2 := blk_below (g := w.heap.size) ho pSd; (try simp (disch := first | omega | (simp; done) | (simp; omega)) only [pBk] at B2); (try rw [Hid.out B_a] at B2); (try simp only [pBk] at B2); (try clear c_a f_a r_a B_a); obtain ⟨c_a, f_a, l_u2_a, r_a, B_a⟩ := blk_all B2; clear B2; have B2 := blk_below (g := w.heap.size + 1) ho pSd; (try simp (disch := first | omega | (simp; done) | (simp; omega)) only [pBk] at B2); (try rw [Hid.out B_r] at B2); (try simp only [pBk] at B2); (try clear c_r f_r r_r B_r); obtain ⟨c_r, f_r, l_u2_r, r_r, B_r⟩ := blk_all B2; clear B2; clear ho)
  refine bodyPost_ret ?r rfl ⟨rfl, ?b⟩
  case r =>
    simp (maxDischargeDepth := 9) [results, Try.results89, go_sem, *]
  case b => exact pBl

theorem shl65_words {c d : Int} (hc : W64 c) (hd : W64 d) (hN : val c d < 170141183460469231731687303715884105728) :
    q3 (val c d * 36893488147419103232) = c / 9223372036854775808 ∧ q2 (val c d * 36893488147419103232) = lo (c * 2) + d / 9223372036854775808 ∧ q1 (val c d * 36893488147419103232) = lo (d * 2) ∧ q0 (val c d * 36893488147419103232) = 0 := by
  unfold W64 at *; unfold val at *; unfold q3 q2 q1 q0 hi lo; refine ⟨?_, ?_, ?_, ?_⟩ <;> omega
theorem or_low {x y : Int} (hx : W64 x) (hy : W64 y) : bits .or .u64 (lo (x * 2)) (y / 9223372036854775808) = lo (x * 2) + y / 9223372036854775808 := by
  refine or_join (i := 1) (by decide) (W64_lo _).1 (W64_lo _).2 ?_ ?_ ?_
  · unfold lo; omega
  · unfold W64 at hy; omega
  · unfold W64 at hy; omega
set_option maxRecDepth 100000 in
set_option maxHeartbeats 2000000 in
theorem r1_Shl65 (c d : Int) (w : World) (hc : W64 c) (hd : W64 d) (hN : val c d < 170141183460469231731687303715884105728) :
    Calls Try.prog 67 #[.agg #[.int .u64 0, .int .u64 0, .int .u64 c, .int .u64 d], .int .i64 65] w fun e w' => e = .returned (.agg #[.int .u64 (q3 (val c d * 36893488147419103232)), .int .u64 (q2 (val c d * 36893488147419103232)), .int .u64 (q1 (val c d * 36893488147419103232)), .int .u64 (q0 (val c d * 36893488147419103232))]) ∧ Below w.heap.size w w' := by
  obtain ⟨h3, h2, h1, h0⟩ := shl65_words hc hd hN
  rw [h3, h2, h1, h0, ← or_low hc hd]
  clear h3 h2 h1 h0 hN
  go_enter Try.func67, Try.ntmps67
  go_wp2_with (go_at_call 116; refine (r1_words _ _ _ _ _).mono ?_; rintro e u1 ⟨rfl, e_s, ho⟩; (try simp at e_s); (try clear c_s); (try clear f_s r_s B_s); obtain ⟨c_s, f_s, l_s, r_s, B_s⟩ := blk_all e_s; clear e_s; have hzu1 := Below.size ho; (try simp at hzu1); have HB2 : Hid (Below w.heap.size w u1) := Lib.hid (Below.trans (by exact pBl) (Below.mono ho pSd)); (try clear HB); have HB := HB2; clear HB2; have B2 := blk_below (g := w.heap.size) ho pSd; (try simp (disch := first | omega | (simp; done) | (simp; omega)) only [pBk] at B2); (try rw [Hid.out B_a] at B2); (try simp only [pBk] at B2); (try clear c_a f_a r_a B_a); obtain ⟨c_a, f_a, l_u1_a, r_a, B_a⟩ := blk_all B2; clear B2; have B2 := blk_below (g := w.heap.size + 1) ho pSd; (try simp (disch := first | omega | (simp; done) | (simp; omega)) only [pBk] at B2); (try rw [Hid.out B_r] at B2); (try simp only [pBk] at B2); (try clear c_r f_r r_r B_r); obtain ⟨c_r, f_r, l_u1_r, r_r, B_r⟩ := blk_all B2; clear B2; clear ho)
  refine wp_loop_rounds 5 ?_
  rw [rounds_succ]
  go_wp2
  rw [rounds_succ]
  go_wp2
  rw [rounds_succ]
  go_wp2
  go_region
  go_wp2
  rw [rounds_succ]
  go_wp2
  go_region
  go_wp2
  rw [rounds_succ]
  go_wp2_with (go_at_call 117; refine (r1_four _ _ _ _ _ _ (by ((try simp (disch := first | omega | (simp; done) | (simp; omega)) only [pBk]); first | done | with_reducible rfl | with_reducible exact Hid.out (by assumption) | (with_reducible rw [Hid.out B_s]; (try simp only [pBk]); first | done | with_reducible rfl) | (with_reducible rw [Hid.out B_a]; (try simp only [pBk]); first | done | with_reducible rfl) | (with_reducible rw [Hid.out B_r]; (try simp only [pBk]); first | done | with_reducible rfl)))).mono ?_; rintro e u2 ⟨rfl, ho⟩; have hzu2 := Below.size ho; (try simp at hzu2); have HB2 : Hid (Below w.heap.size w u2) := Lib.hid (Below.trans (by exact pBl) (Below.mono ho pSd)); (try clear HB); have HB := HB2; clear HB2; have B2 := blk_below (g := w.heap.size) ho pSd; (try simp (disch := first | omega | (simp; done) | (simp; omega)) only [pBk] at B2); (try rw [Hid.out B_a] at B2); (try simp only [pBk] at B2); (try clear c_a f_a r_a B_a); obtain ⟨c_a, f_a, l_u2_a, r_a, B_a⟩ := blk_all B2; clear B2; have B2 := blk_below (g := w.heap.size + 1) ho pSd; (try simp (disch := first | omega | (simp; done) | (simp; omega)) only [pBk] at B2); (try rw [Hid.out B_r] at B2); (try simp only [pBk] at B2); (try clear c_r f_r r_r B_r); obtain ⟨c_r, f_r, l_u2_r, r_r, B_r⟩ := blk_all B2; clear B2; clear ho)
  refine bodyPost_ret ?r rfl ⟨rfl, ?b⟩
  case r =>
    simp (maxDischargeDepth := 9) [results, Try.results67, go_sem, *]
    show bits .or .u64 0 _ = _
    exact or_zero' (by unfold W64 at *; omega)
  case b => exact pBl
end Go.Proofs.Ytdphhkbbphfjlaa
