/- Walks of package limb, on. -/
import Derived.Test.YtdphhkbbphfjlaaLimbD
import Derived.Test.YtdphhkbbphfjlaaNumB
set_option linter.unusedVariables false
set_option linter.unusedSimpArgs false
namespace Go.Proofs.Ytdphhkbbphfjlaa
open Go.RowKit
attribute [local go_sem] uwrap_lo lo_lo hi_lo

theorem shr_top {x : Int} (h : W64 x) : x / 2 / 9223372036854775808 = 0 := by unfold W64 at h; omega
theorem shl_top {x : Int} (h : W64 x) : lo (x * 18446744073709551616) = 0 := by unfold lo; omega
theorem shl_top2 (x : Int) : lo (lo (x * 2) * 9223372036854775808) = 0 := by unfold lo; omega
theorem lo_0 : lo 0 = 0 := by unfold lo; omega

set_option maxRecDepth 100000 in
set_option maxHeartbeats 2000000 in
theorem limb_Shl64 (c d : Int) (w : World) (hc : W64 c) (hd : W64 d) :
    Calls Try.prog 108 #[.agg #[.int .u64 0, .int .u64 0, .int .u64 c, .int .u64 d], .int .i64 64] w fun e w' => e = .returned (.agg #[.int .u64 0, .int .u64 c, .int .u64 d, .int .u64 0]) ∧ Below w.heap.size w w' := by
  go_enter Try.func108, Try.ntmps108
  go_wp2_with (first | (go_at_call 129; refine (limb_list _ _ _ _ _).mono ?_; rintro e w1 ⟨rfl, hbw1⟩; have hzw1 := hbw1.size; (try simp at hzw1); have hsw1_w : w.heap.size ≤ w1.heap.size := (by omega); obtain ⟨hcw1_w_0, hfw1_w_0⟩ := pBc hbw1 (b := w.heap.size) pSd; have hsw1_w_0 : w.heap.size < w1.heap.size := (by omega); obtain ⟨hcw1_w_1, hfw1_w_1⟩ := pBc hbw1 (b := w.heap.size + 1) pSd; have hsw1_w_1 : w.heap.size + 1 < w1.heap.size := (by omega); have Hw1 := Lib.hid hbw1; clear hbw1))
  refine wp_loop_rounds 4 ?_
  rw [rounds_succ]
  go_wp2
  rw [rounds_succ]
  go_wp2
  go_region
  go_wp2
  rw [rounds_succ]
  go_wp2
  go_region
  go_wp2
  rw [rounds_succ]
  go_wp2_with (go_at_call 130; refine (limb_four _ _ _ _ _).mono ?_; rintro e w2 ⟨rfl, hbw2⟩; have hzw2 := hbw2.size; (try simp at hzw2); have hsw2_w : w.heap.size ≤ w2.heap.size := (by omega); obtain ⟨hcw2_w_0, hfw2_w_0⟩ := pBc hbw2 (b := w.heap.size) pSd; have hsw2_w_0 : w.heap.size < w2.heap.size := (by omega); obtain ⟨hcw2_w_1, hfw2_w_1⟩ := pBc hbw2 (b := w.heap.size + 1) pSd; have hsw2_w_1 : w.heap.size + 1 < w2.heap.size := (by omega); have Hw2 := Lib.hid hbw2; clear hbw2)
  refine bodyPost_ret ?r rfl ⟨rfl, ?b⟩
  case r =>
    simp [results, Try.results108, go_sem, *]
    rw [shr_top hc, shr_top hd, lo_0, lo_w hc, lo_w hd, or_zero W64_0, or_zero hc]
    exact ⟨rfl, rfl, rfl⟩
  case b => exact pBl

set_option maxRecDepth 100000 in
set_option maxHeartbeats 2000000 in
theorem limb_Shl_1_63 (w : World) :
    Calls Try.prog 108 #[.agg #[.int .u64 0, .int .u64 0, .int .u64 0, .int .u64 1], .int .i64 63] w fun e w' => e = .returned (.agg #[.int .u64 0, .int .u64 0, .int .u64 0, .int .u64 9223372036854775808]) ∧ Below w.heap.size w w' := by
  go_enter Try.func108, Try.ntmps108
  go_wp2_with (first | (go_at_call 129; refine (limb_list _ _ _ _ _).mono ?_; rintro e w1 ⟨rfl, hbw1⟩; have hzw1 := hbw1.size; (try simp at hzw1); have hsw1_w : w.heap.size ≤ w1.heap.size := (by omega); obtain ⟨hcw1_w_0, hfw1_w_0⟩ := pBc hbw1 (b := w.heap.size) pSd; have hsw1_w_0 : w.heap.size < w1.heap.size := (by omega); obtain ⟨hcw1_w_1, hfw1_w_1⟩ := pBc hbw1 (b := w.heap.size + 1) pSd; have hsw1_w_1 : w.heap.size + 1 < w1.heap.size := (by omega); have Hw1 := Lib.hid hbw1; clear hbw1))
  refine wp_loop_rounds 5 ?_
  rw [rounds_succ]
  go_wp2
  rw [rounds_succ]
  go_wp2
  go_region
  go_wp2
  rw [rounds_succ]
  go_wp2
  go_region
  go_wp2
  rw [rounds_succ]
  go_wp2
  go_region
  go_wp2
  rw [rounds_succ]
  go_wp2_with (go_at_call 130; refine (limb_four _ _ _ _ _).mono ?_; rintro e w2 ⟨rfl, hbw2⟩; have hzw2 := hbw2.size; (try simp at hzw2); have hsw2_w : w.heap.size ≤ w2.heap.size := (by omega); obtain ⟨hcw2_w_0, hfw2_w_0⟩ := pBc hbw2 (b := w.heap.size) pSd; have hsw2_w_0 : w.heap.size < w2.heap.size := (by omega); obtain ⟨hcw2_w_1, hfw2_w_1⟩ := pBc hbw2 (b := w.heap.size + 1) pSd; have hsw2_w_1 : w.heap.size + 1 < w2.heap.size := (by omega); have Hw2 := Lib.hid hbw2; clear hbw2)
  refine bodyPost_ret ?r rfl ⟨rfl, ?b⟩
  case r =>
    simp [results, Try.results108, go_sem, *]
    exact ⟨by rw [lo_0, or_zero W64_0], by unfold lo; omega⟩
  case b => exact pBl

set_option maxRecDepth 100000 in
set_option maxHeartbeats 2000000 in
theorem limb_Shl_1_0 (w : World) :
    Calls Try.prog 108 #[.agg #[.int .u64 0, .int .u64 0, .int .u64 0, .int .u64 1], .int .i64 0] w fun e w' => e = .returned (.agg #[.int .u64 0, .int .u64 0, .int .u64 0, .int .u64 1]) ∧ Below w.heap.size w w' := by
  go_enter Try.func108, Try.ntmps108
  go_wp2_with (first | (go_at_call 129; refine (limb_list _ _ _ _ _).mono ?_; rintro e w1 ⟨rfl, hbw1⟩; have hzw1 := hbw1.size; (try simp at hzw1); have hsw1_w : w.heap.size ≤ w1.heap.size := (by omega); obtain ⟨hcw1_w_0, hfw1_w_0⟩ := pBc hbw1 (b := w.heap.size) pSd; have hsw1_w_0 : w.heap.size < w1.heap.size := (by omega); obtain ⟨hcw1_w_1, hfw1_w_1⟩ := pBc hbw1 (b := w.heap.size + 1) pSd; have hsw1_w_1 : w.heap.size + 1 < w1.heap.size := (by omega); have Hw1 := Lib.hid hbw1; clear hbw1))
  refine wp_loop_rounds 5 ?_
  rw [rounds_succ]
  go_wp2
  rw [rounds_succ]
  go_wp2
  go_region
  go_wp2
  rw [rounds_succ]
  go_wp2
  go_region
  go_wp2
  rw [rounds_succ]
  go_wp2
  go_region
  go_wp2
  rw [rounds_succ]
  go_wp2_with (go_at_call 130; refine (limb_four _ _ _ _ _).mono ?_; rintro e w2 ⟨rfl, hbw2⟩; have hzw2 := hbw2.size; (try simp at hzw2); have hsw2_w : w.heap.size ≤ w2.heap.size := (by omega); obtain ⟨hcw2_w_0, hfw2_w_0⟩ := pBc hbw2 (b := w.heap.size) pSd; have hsw2_w_0 : w.heap.size < w2.heap.size := (by omega); obtain ⟨hcw2_w_1, hfw2_w_1⟩ := pBc hbw2 (b := w.heap.size + 1) pSd; have hsw2_w_1 : w.heap.size + 1 < w2.heap.size := (by omega); have Hw2 := Lib.hid hbw2; clear hbw2)
  refine bodyPost_ret ?r rfl ⟨rfl, ?b⟩
  case r =>
    simp [results, Try.results108, go_sem, *]
    exact ⟨by rw [lo_0, or_zero W64_0], by unfold lo; omega⟩
  case b => exact pBl

set_option maxRecDepth 100000 in
set_option maxHeartbeats 2000000 in
theorem limb_Shr64 (a b c d : Int) (w : World) (ha : W64 a) (hb : W64 b) (hc : W64 c) (hd : W64 d) :
    Calls Try.prog 104 #[.agg #[.int .u64 a, .int .u64 b, .int .u64 c, .int .u64 d], .int .i64 64] w fun e w' => e = .returned (.agg #[.int .u64 0, .int .u64 a, .int .u64 b, .int .u64 c]) ∧ Below w.heap.size w w' := by
  go_enter Try.func104, Try.ntmps104
  go_wp2_with (first | (go_at_call 129; refine (limb_list _ _ _ _ _).mono ?_; rintro e w1 ⟨rfl, hbw1⟩; have hzw1 := hbw1.size; (try simp at hzw1); have hsw1_w : w.heap.size ≤ w1.heap.size := (by omega); obtain ⟨hcw1_w_0, hfw1_w_0⟩ := pBc hbw1 (b := w.heap.size) pSd; have hsw1_w_0 : w.heap.size < w1.heap.size := (by omega); obtain ⟨hcw1_w_1, hfw1_w_1⟩ := pBc hbw1 (b := w.heap.size + 1) pSd; have hsw1_w_1 : w.heap.size + 1 < w1.heap.size := (by omega); have Hw1 := Lib.hid hbw1; clear hbw1))
  refine wp_loop_rounds 4 ?_
  rw [rounds_succ]
  go_wp2
  go_region
  go_wp2
  rw [rounds_succ]
  go_wp2
  go_region
  go_wp2
  rw [rounds_succ]
  go_wp2
  rw [rounds_succ]
  go_wp2_with (go_at_call 130; refine (limb_four _ _ _ _ _).mono ?_; rintro e w2 ⟨rfl, hbw2⟩; have hzw2 := hbw2.size; (try simp at hzw2); have hsw2_w : w.heap.size ≤ w2.heap.size := (by omega); obtain ⟨hcw2_w_0, hfw2_w_0⟩ := pBc hbw2 (b := w.heap.size) pSd; have hsw2_w_0 : w.heap.size < w2.heap.size := (by omega); obtain ⟨hcw2_w_1, hfw2_w_1⟩ := pBc hbw2 (b := w.heap.size + 1) pSd; have hsw2_w_1 : w.heap.size + 1 < w2.heap.size := (by omega); have Hw2 := Lib.hid hbw2; clear hbw2)
  refine bodyPost_ret ?r rfl ⟨rfl, ?b⟩
  case r =>
    simp [results, Try.results104, go_sem, *]
    rw [shl_top2, shl_top2, or_zero hb, or_zero hc]
    exact ⟨rfl, rfl⟩
  case b => exact pBl

end Go.Proofs.Ytdphhkbbphfjlaa

namespace Go.Proofs.Ytdphhkbbphfjlaa
open Go.RowKit

theorem ret_u64 {a b : Int} (h : a = b) : Ending.returned (.int .u64 a) = .returned (.int .u64 b) := by rw [h]
set_option maxRecDepth 100000 in
set_option maxHeartbeats 2000000 in
theorem limb_bit (X n : Int) (w : World) (h0 : 0 ≤ n) (h1 : n < 256) :
    Calls Try.prog 133 #[.agg #[.int .u64 (q0 X), .int .u64 (q1 X), .int .u64 (q2 X), .int .u64 (q3 X)], .int .i64 n] w fun e w' => e = .returned (.int .u64 (bitAt X n)) ∧ Below w.heap.size w w' := by
  have hk : n / 64 = 0 ∨ n / 64 = 1 ∨ n / 64 = 2 ∨ n / 64 = 3 := by omega
  rcases hk with hk | hk | hk | hk
  · go_enter Try.func133, Try.ntmps133
    go_wp2
    go_ret
    refine ⟨ret_u64 ?_, ?_⟩
    · rw [bitAt_0 h0 hk, and_one (W64_shr (W64_q0 X) _)]
    · exact pBl
  · go_enter Try.func133, Try.ntmps133
    go_wp2
    go_ret
    refine ⟨ret_u64 ?_, ?_⟩
    · rw [bitAt_1 h0 hk, and_one (W64_shr (W64_q1 X) _)]
    · exact pBl
  · go_enter Try.func133, Try.ntmps133
    go_wp2
    go_ret
    refine ⟨ret_u64 ?_, ?_⟩
    · rw [bitAt_2 h0 hk, and_one (W64_shr (W64_q2 X) _)]
    · exact pBl
  · go_enter Try.func133, Try.ntmps133
    go_wp2
    go_ret
    refine ⟨ret_u64 ?_, ?_⟩
    · rw [bitAt_3 h0 hk, and_one (W64_shr (W64_q3 X) _)]
    · exact pBl
end Go.Proofs.Ytdphhkbbphfjlaa
