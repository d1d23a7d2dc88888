/- The walks of products: math/bits.Mul64, limb.Mul; the reference's product, plus, MulTwo. -/
import Derived.Test.YtdphhkbbphfjlaaLimbB
import Derived.Test.YtdphhkbbphfjlaaNum
set_option linter.unusedVariables false
set_option linter.unusedSimpArgs false
namespace Go.Proofs.Ytdphhkbbphfjlaa
open Go.RowKit

theorem ret_uu {a b c d : Int} (h1 : a = c) (h2 : b = d) : Ending.returned (.tuple #[.int .u64 a, .int .u64 b]) = .returned (.tuple #[.int .u64 c, .int .u64 d]) := by rw [h1, h2]

theorem mul64_fin {x y : Int} (hx : W64 x) (hy : W64 y) :
    IntKind.u64.wrap (IntKind.u64.wrap (IntKind.u64.wrap (x / 4294967296 * (y / 4294967296)) + IntKind.u64.wrap (IntKind.u64.wrap (x / 4294967296 * bits .and .u64 y 4294967295) + IntKind.u64.wrap (bits .and .u64 x 4294967295 * bits .and .u64 y 4294967295) / 4294967296) / 4294967296)
      + IntKind.u64.wrap (bits .and .u64 (IntKind.u64.wrap (IntKind.u64.wrap (x / 4294967296 * bits .and .u64 y 4294967295) + IntKind.u64.wrap (bits .and .u64 x 4294967295 * bits .and .u64 y 4294967295) / 4294967296)) 4294967295 + IntKind.u64.wrap (bits .and .u64 x 4294967295 * (y / 4294967296))) / 4294967296) = hi (x * y) := by
  rw [and_mask32 hx, and_mask32 hy]
  obtain ⟨h1, h2, h3, h4, h5, h6, h7, h8, h9, k6, k7, k8, k9, h10⟩ := mul_words hx hy
  simp only [IntKind.wrap_u64]
  have e1 : x / 4294967296 * (y / 4294967296) % 18446744073709551616 = x / 4294967296 * (y / 4294967296) := by omega
  have e2 : x / 4294967296 * (y % 4294967296) % 18446744073709551616 = x / 4294967296 * (y % 4294967296) := by omega
  have e3 : x % 4294967296 * (y / 4294967296) % 18446744073709551616 = x % 4294967296 * (y / 4294967296) := by omega
  have e4 : x % 4294967296 * (y % 4294967296) % 18446744073709551616 = x % 4294967296 * (y % 4294967296) := by omega
  rw [e1, e2, e3, e4]
  have e5 : (x / 4294967296 * (y % 4294967296) + x % 4294967296 * (y % 4294967296) / 4294967296) % 18446744073709551616 = x / 4294967296 * (y % 4294967296) + x % 4294967296 * (y % 4294967296) / 4294967296 := by omega
  rw [e5, and_mask32 (x := x / 4294967296 * (y % 4294967296) + x % 4294967296 * (y % 4294967296) / 4294967296) ⟨by omega, by omega⟩]
  omega

set_option maxRecDepth 100000 in
set_option maxHeartbeats 2000000 in
theorem mul64 (x y : Int) (w : World) (hx : W64 x) (hy : W64 y) :
    Calls Try.prog 131 #[.int .u64 x, .int .u64 y] w fun e w' => e = .returned (.tuple #[.int .u64 (hi (x * y)), .int .u64 (lo (x * y))]) ∧ w = w' := by
  go_enter Try.func131, Try.ntmps131
  go_wp2
  go_ret2
  exact ⟨ret_uu (mul64_fin hx hy) (uwrap_lo _), rfl⟩

theorem prod_lo {x y : Int} (hx : W64 x) (hy : W64 y) :
    bits .or .u64 (IntKind.u64.wrap (IntKind.u64.wrap (IntKind.u64.wrap (bits .and .u64 x 4294967295 * (y / 4294967296)) + bits .and .u64 (IntKind.u64.wrap (IntKind.u64.wrap (x / 4294967296 * bits .and .u64 y 4294967295) + IntKind.u64.wrap (bits .and .u64 x 4294967295 * bits .and .u64 y 4294967295) / 4294967296)) 4294967295) * 4294967296))
      (bits .and .u64 (IntKind.u64.wrap (bits .and .u64 x 4294967295 * bits .and .u64 y 4294967295)) 4294967295) = lo (x * y) := by
  rw [and_mask32 hx, and_mask32 hy]
  obtain ⟨h1, h2, h3, h4, h5, h6, h7, h8, h9, k6, k7, k8, k9, h10⟩ := mul_words hx hy
  rw [h10]
  clear h1 h4 h5 h6 k6 h10
  rw [uwrap_lo, uwrap_lo, uwrap_lo, uwrap_lo, uwrap_lo, uwrap_lo, and_mask32 (W64_lo _), and_mask32 (W64_lo _)]
  generalize x / 4294967296 * (y % 4294967296) = t2 at *
  generalize x % 4294967296 * (y / 4294967296) = t3 at *
  generalize x % 4294967296 * (y % 4294967296) = t4 at *
  have e : ∀ z r : Int, 0 ≤ r → r < 4294967296 → bits .or .u64 (lo (z * 4294967296)) r = lo (z * 4294967296) + r := fun z r h0 h1 => by
    refine or_join (i := 32) (by decide) (W64_lo _).1 (W64_lo _).2 ?_ h0 h1
    unfold lo; omega
  rw [e _ _ (by omega) (by omega)]
  unfold lo
  omega

set_option maxRecDepth 100000 in
set_option maxHeartbeats 2000000 in
theorem r1_product (x y : Int) (w : World) (hx : W64 x) (hy : W64 y) :
    Calls Try.prog 123 #[.int .u64 x, .int .u64 y] w fun e w' => e = .returned (.agg #[.int .u64 (hi (x * y)), .int .u64 (lo (x * y))]) ∧ Below w.heap.size w w' := by
  go_enter Try.func123, Try.ntmps123
  go_wp2
  refine bodyPost_ret ?r rfl ⟨rfl, ?b⟩
  case r => (simp [results, Try.results123, go_sem]; exact ⟨by rw [← mul64_fin hx hy]; simp only [Int.add_comm], prod_lo hx hy⟩)
  case b => exact pBl

theorem idx2_0 (x0 x1 : Int) (w : World) : (Instr.index 193 (.agg #[.int .u64 x0, .int .u64 x1]) (.int .i64 0)).run Try.prog w = .ok (.int .u64 x0) w := by kernel_rfl
theorem idx2_1 (x0 x1 : Int) (w : World) : (Instr.index 193 (.agg #[.int .u64 x0, .int .u64 x1]) (.int .i64 1)).run Try.prog w = .ok (.int .u64 x1) w := by kernel_rfl
attribute [local go_sem] uwrap_lo lo_lo hi_lo idx2_0 idx2_1
set_option maxRecDepth 100000 in
set_option maxHeartbeats 2000000 in
theorem limb_Mul (ah al bh bl : Int) (w : World) (ha : W64 ah) (hal : W64 al) (hb : W64 bh) (hbl : W64 bl) :
    Calls Try.prog 106 #[.agg #[.int .u64 ah, .int .u64 al], .agg #[.int .u64 bh, .int .u64 bl]] w fun e w' => e = .returned (.agg #[.int .u64 (q3 (val ah al * val bh bl)), .int .u64 (q2 (val ah al * val bh bl)), .int .u64 (q1 (val ah al * val bh bl)), .int .u64 (q0 (val ah al * val bh bl))]) ∧ Below w.heap.size w w' := by
  go_enter Try.func106, Try.ntmps106
  go_wp2
  refine wp_loop_rounds 3 ?_
  rw [rounds_succ]
  go_wp2_with (first | (simp (disch := (first | assumption | exact W64_lo _ | exact C01_0 | exact W64_0 | exact W64_hmul (by assumption) (by assumption))) only [Try.run_add64]) | (go_at_call 131; refine (mul64 _ _ _ (by assumption) (by assumption)).mono ?_; rintro e w' ⟨rfl, rfl⟩) | (go_at_call 130; refine (limb_four _ _ _ _ _).mono ?_; rintro e w1 ⟨rfl, hbw1⟩; have hzw1 := hbw1.size; (try simp at hzw1); obtain ⟨hcw1, hfw1⟩ := bcell hbw1; have Hw1 := Lib.hid hbw1; clear hbw1))
  refine wp_loop_rounds 3 ?_
  rw [rounds_succ]
  go_wp2_with (first | (simp (disch := (first | assumption | exact W64_lo _ | exact C01_0 | exact W64_0 | exact W64_hmul (by assumption) (by assumption))) only [Try.run_add64]) | (go_at_call 131; refine (mul64 _ _ _ (by assumption) (by assumption)).mono ?_; rintro e w' ⟨rfl, rfl⟩) | (go_at_call 130; refine (limb_four _ _ _ _ _).mono ?_; rintro e w1 ⟨rfl, hbw1⟩; have hzw1 := hbw1.size; (try simp at hzw1); obtain ⟨hcw1, hfw1⟩ := bcell hbw1; have Hw1 := Lib.hid hbw1; clear hbw1))
  rw [rounds_succ]
  go_wp2_with (first | (simp (disch := (first | assumption | exact W64_lo _ | exact C01_0 | exact W64_0 | exact W64_hmul (by assumption) (by assumption))) only [Try.run_add64]) | (go_at_call 131; refine (mul64 _ _ _ (by assumption) (by assumption)).mono ?_; rintro e w' ⟨rfl, rfl⟩) | (go_at_call 130; refine (limb_four _ _ _ _ _).mono ?_; rintro e w1 ⟨rfl, hbw1⟩; have hzw1 := hbw1.size; (try simp at hzw1); obtain ⟨hcw1, hfw1⟩ := bcell hbw1; have Hw1 := Lib.hid hbw1; clear hbw1))
  rw [rounds_succ]
  go_wp2_with (first | (simp (disch := (first | assumption | exact W64_lo _ | exact C01_0 | exact W64_0 | exact W64_hmul (by assumption) (by assumption))) only [Try.run_add64]) | (go_at_call 131; refine (mul64 _ _ _ (by assumption) (by assumption)).mono ?_; rintro e w' ⟨rfl, rfl⟩) | (go_at_call 130; refine (limb_four _ _ _ _ _).mono ?_; rintro e w1 ⟨rfl, hbw1⟩; have hzw1 := hbw1.size; (try simp at hzw1); obtain ⟨hcw1, hfw1⟩ := bcell hbw1; have Hw1 := Lib.hid hbw1; clear hbw1))
  rw [rounds_succ]
  go_wp2_with (first | (simp (disch := (first | assumption | exact W64_lo _ | exact C01_0 | exact W64_0 | exact W64_hmul (by assumption) (by assumption))) only [Try.run_add64]) | (go_at_call 131; refine (mul64 _ _ _ (by assumption) (by assumption)).mono ?_; rintro e w' ⟨rfl, rfl⟩) | (go_at_call 130; refine (limb_four _ _ _ _ _).mono ?_; rintro e w1 ⟨rfl, hbw1⟩; have hzw1 := hbw1.size; (try simp at hzw1); obtain ⟨hcw1, hfw1⟩ := bcell hbw1; have Hw1 := Lib.hid hbw1; clear hbw1))
  refine wp_loop_rounds 3 ?_
  rw [rounds_succ]
  go_wp2_with (first | (simp (disch := (first | assumption | exact W64_lo _ | exact C01_0 | exact W64_0 | exact W64_hmul (by assumption) (by assumption))) only [Try.run_add64]) | (go_at_call 131; refine (mul64 _ _ _ (by assumption) (by assumption)).mono ?_; rintro e w' ⟨rfl, rfl⟩) | (go_at_call 130; refine (limb_four _ _ _ _ _).mono ?_; rintro e w1 ⟨rfl, hbw1⟩; have hzw1 := hbw1.size; (try simp at hzw1); obtain ⟨hcw1, hfw1⟩ := bcell hbw1; have Hw1 := Lib.hid hbw1; clear hbw1))
  rw [rounds_succ]
  go_wp2_with (first | (simp (disch := (first | assumption | exact W64_lo _ | exact C01_0 | exact W64_0 | exact W64_hmul (by assumption) (by assumption))) only [Try.run_add64]) | (go_at_call 131; refine (mul64 _ _ _ (by assumption) (by assumption)).mono ?_; rintro e w' ⟨rfl, rfl⟩) | (go_at_call 130; refine (limb_four _ _ _ _ _).mono ?_; rintro e w1 ⟨rfl, hbw1⟩; have hzw1 := hbw1.size; (try simp at hzw1); obtain ⟨hcw1, hfw1⟩ := bcell hbw1; have Hw1 := Lib.hid hbw1; clear hbw1))
  rw [rounds_succ]
  go_wp2_with (first | (simp (disch := (first | assumption | exact W64_lo _ | exact C01_0 | exact W64_0 | exact W64_hmul (by assumption) (by assumption))) only [Try.run_add64]) | (go_at_call 131; refine (mul64 _ _ _ (by assumption) (by assumption)).mono ?_; rintro e w' ⟨rfl, rfl⟩) | (go_at_call 130; refine (limb_four _ _ _ _ _).mono ?_; rintro e w1 ⟨rfl, hbw1⟩; have hzw1 := hbw1.size; (try simp at hzw1); obtain ⟨hcw1, hfw1⟩ := bcell hbw1; have Hw1 := Lib.hid hbw1; clear hbw1))
  rw [rounds_succ]
  go_wp2_with (first | (simp (disch := (first | assumption | exact W64_lo _ | exact C01_0 | exact W64_0 | exact W64_hmul (by assumption) (by assumption))) only [Try.run_add64]) | (go_at_call 131; refine (mul64 _ _ _ (by assumption) (by assumption)).mono ?_; rintro e w' ⟨rfl, rfl⟩) | (go_at_call 130; refine (limb_four _ _ _ _ _).mono ?_; rintro e w1 ⟨rfl, hbw1⟩; have hzw1 := hbw1.size; (try simp at hzw1); obtain ⟨hcw1, hfw1⟩ := bcell hbw1; have Hw1 := Lib.hid hbw1; clear hbw1))
  obtain ⟨h0, h1, h2, h3⟩ := mul4_sum ha hal hb hbl
  refine bodyPost_ret ?r rfl ⟨rfl, ?b⟩
  case r => (simp [results, Try.results106, go_sem, hcw1]; exact ⟨h3, h2, h1, h0⟩)
  case b => exact pBl

end Go.Proofs.Ytdphhkbbphfjlaa
