/- The walks of the reference's r1.signed, Add, Sub. -/
import Derived.Test.YtdphhkbbphfjlaaRefC
import Derived.Test.YtdphhkbbphfjlaaFixD
import Derived.Deep.RegionHeld3
import Derived.Deep.DeepCutAuto
set_option linter.unusedVariables false
set_option linter.unusedSimpArgs false
namespace Go.Proofs.Ytdphhkbbphfjlaa
open Go.RowKit
attribute [local go_sem] uwrap_lo lo_lo hi_lo val_hl val_00 v4_q
attribute [local go_sem ↓] Go.wp_at_zero Go.wp_at_succ
attribute [local go_sem] fld_sum0 fld_sum1

/-- '!=' of two pairs -/
theorem Try.two_neq (a b c d : Int) (w : World) : (binOp .neq 53 (.agg #[.int .u64 a, .int .u64 b]) (.agg #[.int .u64 c, .int .u64 d])).run Try.prog w = .ok (.bool (!eq2 a b c d)) w := by
  unfold eq2
  by_cases h1 : a = c <;> by_cases h2 : b = d <;> go_simp <;> simp [h1, h2]
attribute [local go_sem ↓] Try.two_eql Try.two_neq
theorem eq2_00 : eq2 0 0 0 0 = true := rfl
theorem eq2_n {a b c d : Int} (h : ¬ (a = c ∧ b = d)) : eq2 a b c d = false := by unfold eq2; by_cases h1 : a = c <;> by_cases h2 : b = d <;> simp_all
theorem signed_words {p q h l : Int} (hp : W64 p) (hq : W64 q) (hh : W64 h) (hl : W64 l) (hN : N127 (v4 p q h l)) :
    p = 0 ∧ q = 0 ∧ h < 9223372036854775808 ∧ wrap64 h = h ∧ I64 h ∧ v4 p q h l = val h l ∧ R (val h l) ∧ hi (val h l) = h ∧ lo (val h l) = l := by
  unfold N127 at hN; unfold W64 at *; unfold v4 val at *; unfold wrap64 I64 R hi lo; omega
theorem signed_over {p q h l : Int} (hp : W64 p) (hq : W64 q) (hh : W64 h) (hl : W64 l) (hN : ¬ N127 (v4 p q h l)) : (p ≠ 0 ∨ q ≠ 0) ∨ p = 0 ∧ q = 0 ∧ 9223372036854775808 ≤ h := by
  unfold N127 at hN; unfold W64 at *; unfold v4 val at *; omega
set_option maxRecDepth 100000 in
set_option maxHeartbeats 2000000 in
theorem r1_signed_ok (p q h l : Int) (b : Bool) (w : World) (hp : W64 p) (hq : W64 q) (hh : W64 h) (hl : W64 l) (hN : N127 (v4 p q h l)) :
    Calls Try.prog 70 #[.bool b, .agg #[.int .u64 p, .int .u64 q, .int .u64 h, .int .u64 l]] w fun e w' => e = .returned (.agg #[.int .i64 (hi (sg b (v4 p q h l))), .int .u64 (lo (sg b (v4 p q h l))), .int .i64 0]) ∧ Below w.heap.size w w' := by
  obtain ⟨rfl, rfl, h3, h4, h5, h6, h7, h8, h9⟩ := signed_words hp hq hh hl hN
  rw [h6]
  have hg : decide (9223372036854775808 ≤ h) = false := by simp; omega
  clear h3 h6 hN
  have e2 := eq2_00
  cases b
  · show Calls _ _ _ _ fun e w' => e = .returned (.agg #[.int .i64 (hi (val h l)), .int .u64 (lo (val h l)), .int .i64 0]) ∧ Below w.heap.size w w'
    rw [h8, h9]
    clear h8 h9
    go_enter Try.func70, Try.ntmps70
    go_wp2_with fail
    all_goals refine bodyPost_ret ?r rfl ⟨rfl, ?b⟩
    case r => simp (maxDischargeDepth := 9) [results, Try.results70, go_sem, *]
    case b => exact pBl
  · show Calls _ _ _ _ fun e w' => e = .returned (.agg #[.int .i64 (hi (-val h l)), .int .u64 (lo (-val h l)), .int .i64 0]) ∧ Below w.heap.size w w'
    clear h8 h9
    go_enter Try.func70, Try.ntmps70
    go_wp2_with (go_at_call 71; refine (r1_Neg _ _ _ (by assumption) (by assumption) (by assumption)).mono ?_; rintro e u1 ⟨rfl, ho⟩; have hzu1 := Below.size ho; (try simp at hzu1); have HB2 : Hid (Below w.heap.size w u1) := Lib.hid (Below.trans (by exact pBl) (Below.mono ho pSd)); (try clear HB); have HB := HB2; clear HB2; have B2 := blk_below (g := w.heap.size) ho pSd; (try simp (disch := first | omega | (simp; done) | (simp; omega)) only [pBk] at B2); (try rw [Hid.out B_a] at B2); (try simp only [pBk] at B2); (try clear c_a f_a r_a B_a); obtain ⟨c_a, f_a, l_u1_a, r_a, B_a⟩ := blk_all B2; clear B2; have B2 := blk_below (g := w.heap.size + 1) ho pSd; (try simp (disch := first | omega | (simp; done) | (simp; omega)) only [pBk] at B2); (try rw [Hid.out B_r] at B2); (try simp only [pBk] at B2); (try clear c_r f_r r_r B_r); obtain ⟨c_r, f_r, l_u1_r, r_r, B_r⟩ := blk_all B2; clear B2; have B2 := blk_below (g := w.heap.size + 1 + 1) ho pSd; (try simp (disch := first | omega | (simp; done) | (simp; omega)) only [pBk] at B2); (try rw [Hid.out B_n] at B2); (try simp only [pBk] at B2); (try clear c_n f_n r_n B_n); obtain ⟨c_n, f_n, l_u1_n, r_n, B_n⟩ := blk_all B2; clear B2; clear ho)
    all_goals refine bodyPost_ret ?r rfl ⟨rfl, ?b⟩
    case r => simp (maxDischargeDepth := 9) [results, Try.results70, go_sem, *]
    case b => exact pBl
set_option maxRecDepth 100000 in
set_option maxHeartbeats 2000000 in
theorem r1_signed_err (p q h l : Int) (b : Bool) (w : World) (hp : W64 p) (hq : W64 q) (hh : W64 h) (hl : W64 l) (hN : ¬ N127 (v4 p q h l)) :
    Calls Try.prog 70 #[.bool b, .agg #[.int .u64 p, .int .u64 q, .int .u64 h, .int .u64 l]] w fun e w' => e = .returned (.agg #[.int .i64 0, .int .u64 0, .int .i64 3]) ∧ Below w.heap.size w w' := by
  rcases signed_over hp hq hh hl hN with h1 | ⟨rfl, rfl, h1⟩
  · have e2 : eq2 p q 0 0 = false := eq2_n (by omega)
    clear hN h1
    go_enter Try.func70, Try.ntmps70
    go_wp2_with fail
    all_goals refine bodyPost_ret ?r rfl ⟨rfl, ?b⟩
    case r => simp (maxDischargeDepth := 9) [results, Try.results70, go_sem, *]
    case b => exact pBl
  · have hg : decide (9223372036854775808 ≤ h) = true := by simp; omega
    have e2 := eq2_00
    clear hN
    go_enter Try.func70, Try.ntmps70
    go_wp2_with fail
    all_goals refine bodyPost_ret ?r rfl ⟨rfl, ?b⟩
    case r => simp (maxDischargeDepth := 9) [results, Try.results70, go_sem, *]
    case b => exact pBl
theorem r1_signed (p q h l : Int) (b : Bool) (w : World) (hp : W64 p) (hq : W64 q) (hh : W64 h) (hl : W64 l) :
    Calls Try.prog 70 #[.bool b, .agg #[.int .u64 p, .int .u64 q, .int .u64 h, .int .u64 l]] w fun e w' => e = .returned (.agg #[.int .i64 (hi (nOf (toldX (v4 p q h l) b))), .int .u64 (lo (nOf (toldX (v4 p q h l) b))), .int .i64 (eOf (toldX (v4 p q h l) b))]) ∧ Below w.heap.size w w' := by
  unfold toldX
  by_cases hN : N127 (v4 p q h l)
  · rw [if_pos hN]; exact r1_signed_ok p q h l b w hp hq hh hl hN
  · rw [if_neg hN]; exact r1_signed_err p q h l b w hp hq hh hl hN
end Go.Proofs.Ytdphhkbbphfjlaa
