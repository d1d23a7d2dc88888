/- The walks of limb's small functions: sums, differences, words of a number. -/
import Derived.Test.YtdphhkbbphfjlaaBase
set_option linter.unusedVariables false
set_option linter.unusedSimpArgs false
namespace Go.Proofs.Ytdphhkbbphfjlaa
open Go.RowKit

theorem limb_Add_fin {ah al bh bl : Int} (ha : W64 ah) (hal : W64 al) (hb : W64 bh) (hbl : W64 bl) :
    lo (ah + bh + hi (al + bl)) = hi (w2 (val ah al + val bh bl)) ∧ lo (al + bl) = lo (w2 (val ah al + val bh bl)) ∧ decide (0 < hi (ah + bh + hi (al + bl))) = ov2 (val ah al + val bh bl) := by
  unfold W64 at *; unfold lo hi w2 val ov2
  refine ⟨by omega, by omega, ?_⟩
  rw [decide_eq_decide]; omega

set_option maxRecDepth 100000 in
set_option maxHeartbeats 2000000 in
theorem limb_Add (ah al bh bl : Int) (w : World) (ha : W64 ah) (hal : W64 al) (hb : W64 bh) (hbl : W64 bl) :
    Calls Try.prog 112 #[.agg #[.int .u64 ah, .int .u64 al], .agg #[.int .u64 bh, .int .u64 bl]] w fun e w' => e = .returned (.tuple #[.agg #[.int .u64 (hi (w2 (val ah al + val bh bl))), .int .u64 (lo (w2 (val ah al + val bh bl)))], .bool (ov2 (val ah al + val bh bl))]) ∧ Below w.heap.size w w' := by
  go_enter Try.func112, Try.ntmps112
  go_wp2_with (simp (disch := (first | assumption | exact C01_0 | exact C01_add0 (by assumption) (by assumption) | exact C01_add (by assumption) (by assumption) C01_0)) only [Try.run_add64])
  obtain ⟨h1, h2, h3⟩ := limb_Add_fin ha hal hb hbl
  refine bodyPost_ret ?r rfl ⟨rfl, ?b⟩
  case r => (simp [results, Try.results112, go_sem]; exact ⟨⟨h1, h2⟩, h3⟩)
  case b => exact pBl

theorem limb_Sub_fin {ah al bh bl : Int} (ha : W64 ah) (hal : W64 al) (hb : W64 bh) (hbl : W64 bl) :
    lo (ah - bh + hi (al - bl)) = hi (w2 (val ah al - val bh bl)) ∧ lo (al - bl) = lo (w2 (val ah al - val bh bl)) ∧ (hi (ah - bh + hi (al - bl)) < 0 ↔ val ah al < val bh bl) := by
  unfold W64 at *; unfold lo hi w2 val
  refine ⟨by omega, by omega, by omega⟩

set_option maxRecDepth 100000 in
set_option maxHeartbeats 2000000 in
theorem limb_Sub (ah al bh bl : Int) (w : World) (ha : W64 ah) (hal : W64 al) (hb : W64 bh) (hbl : W64 bl) :
    Calls Try.prog 110 #[.agg #[.int .u64 ah, .int .u64 al], .agg #[.int .u64 bh, .int .u64 bl]] w fun e w' => e = .returned (.tuple #[.agg #[.int .u64 (hi (w2 (val ah al - val bh bl))), .int .u64 (lo (w2 (val ah al - val bh bl)))], .bool (decide (val ah al < val bh bl))]) ∧ Below w.heap.size w w' := by
  go_enter Try.func110, Try.ntmps110
  go_wp2_with (simp (disch := (first | assumption | exact C01_0 | exact C01_sub0 (by assumption) (by assumption) | exact C01_sub (by assumption) (by assumption) C01_0)) only [Try.run_sub64])
  obtain ⟨h1, h2, h3⟩ := limb_Sub_fin ha hal hb hbl
  refine bodyPost_ret ?r rfl ⟨rfl, ?b⟩
  case r => (simp [results, Try.results110, go_sem]; exact ⟨⟨h1, h2⟩, h3⟩)
  case b => exact pBl

set_option maxRecDepth 100000 in
set_option maxHeartbeats 2000000 in
theorem limb_list (a b c d : Int) (w : World) :
    Calls Try.prog 129 #[.agg #[.int .u64 a, .int .u64 b, .int .u64 c, .int .u64 d]] w fun e w' => e = .returned (.agg #[.int .u64 d, .int .u64 c, .int .u64 b, .int .u64 a]) ∧ Below w.heap.size w w' := by
  go_enter Try.func129, Try.ntmps129
  go_wp2
  refine bodyPost_ret ?r rfl ⟨rfl, ?b⟩
  case r => simp [results, Try.results129, go_sem]
  case b => exact pBl

set_option maxRecDepth 100000 in
set_option maxHeartbeats 2000000 in
theorem limb_four (a b c d : Int) (w : World) :
    Calls Try.prog 130 #[.agg #[.int .u64 a, .int .u64 b, .int .u64 c, .int .u64 d]] w fun e w' => e = .returned (.agg #[.int .u64 d, .int .u64 c, .int .u64 b, .int .u64 a]) ∧ Below w.heap.size w w' := by
  go_enter Try.func130, Try.ntmps130
  go_wp2
  refine bodyPost_ret ?r rfl ⟨rfl, ?b⟩
  case r => simp [results, Try.results130, go_sem]
  case b => exact pBl

set_option maxRecDepth 100000 in
set_option maxHeartbeats 2000000 in
theorem fix_wide (h l : Int) (w : World) :
    Calls Try.prog 109 #[.agg #[.int .u64 h, .int .u64 l]] w fun e w' => e = .returned (.agg #[.int .u64 0, .int .u64 0, .int .u64 h, .int .u64 l]) ∧ Below w.heap.size w w' := by
  go_enter Try.func109, Try.ntmps109
  go_wp2
  refine bodyPost_ret ?r rfl ⟨rfl, ?b⟩
  case r => simp [results, Try.results109, go_sem]
  case b => exact pBl

end Go.Proofs.Ytdphhkbbphfjlaa
