/- The walks of products: math/bits.Mul64, limb.Mul; the reference's product, plus, MulTwo. The length of a word (the shelf's contract, laid by its tool), the length of a number of four words. Walks of package limb, on. -/
import Derived.Test.YtdphhkbbphfjlaaCLiA
import Derived.Test.YtdphhkbbphfjlaaCNu
import Derived.Shelf.Strconv.Itoa0
namespace Go.Proofs.Ytdphhkbbphfjlaa
set_option linter.unusedVariables false
set_option linter.unusedSimpArgs false
open Go.RowKit

theorem ret_uu {a b c d : Int} (h1 : a = c) (h2 : b = d) : Ending.returned (.tuple #[.int .u64 a, .int .u64 b]) = .returned (.tuple #[.int .u64 c, .int .u64 d]) := by rw [h1, h2]

theorem mul64_fin {x y : Int} (hx : W64 x) (hy : W64 y) :
    IntKind.u64.wrap (IntKind.u64.wrap (IntKind.u64.wrap (x / 4294967296 * (y / 4294967296)) + IntKind.u64.wrap (IntKind.u64.wrap (x / 4294967296 * bits .and .u64 y 4294967295) + IntKind.u64.wrap (bits .and .u64 x 4294967295 * bits .and .u64 y 4294967295) / 4294967296) / 4294967296)
      + IntKind.u64.wrap (bits .and .u64 (IntKind.u64.wrap (IntKind.u64.wrap (x / 4294967296 * bits .and .u64 y 4294967295) + IntKind.u64.wrap (bits .and .u64 x 4294967295 * bits .and .u64 y 4294967295) / 4294967296)) 4294967295 + IntKind.u64.wrap (bits .and .u64 x 4294967295 * (y / 4294967296))) / 4294967296) = hi (x * y) := by
  rw [and_mask32 hx, and_mask32 hy]
  obtain ⟨h1, h2, h3, h4, h5, h6, h7, h8, h9, k6, k7, k8, k9, h10⟩ := mul_words hx hy
  simp only [IntKind.wrap_u64]
  have e1 : x / 4294967296 * (y / 4294967296) % 18446744073709551616 = x / 4294967296 * (y / 4294967296) := by omega
  have e2 : x / 4294967296 * (y % 4294967296) % 18446744073709551616 = x / 4294967296 * (y % 4294967296) := by omega
  have e3 : x % 4294967296 * (y / 4294967296) % 18446744073709551616 = x % 4294967296 * (y / 4294967296) := by omega
  have e4 : x % 4294967296 * (y % 4294967296) % 18446744073709551616 = x % 4294967296 * (y % 4294967296) := by omega
  rw [e1, e2, e3, e4]
  have e5 : (x / 4294967296 * (y % 4294967296) + x % 4294967296 * (y % 4294967296) / 4294967296) % 18446744073709551616 = x / 4294967296 * (y % 4294967296) + x % 4294967296 * (y % 4294967296) / 4294967296 := by omega
  rw [e5, and_mask32 (x := x / 4294967296 * (y % 4294967296) + x % 4294967296 * (y % 4294967296) / 4294967296) ⟨by omega, by omega⟩]
  omega

set_option maxRecDepth 100000 in
set_option maxHeartbeats 2000000 in
theorem mul64 (x y : Int) (w : World) (hx : W64 x) (hy : W64 y) :
    Calls Try.prog 131 #[.int .u64 x, .int .u64 y] w fun e w' => e = .returned (.tuple #[.int .u64 (hi (x * y)), .int .u64 (lo (x * y))]) ∧ w = w' := by
  go_enter Try.func131, Try.ntmps131
  go_wp2
  go_ret2
  exact ⟨ret_uu (mul64_fin hx hy) (uwrap_lo _), rfl⟩

theorem prod_lo {x y : Int} (hx : W64 x) (hy : W64 y) :
    bits .or .u64 (IntKind.u64.wrap (IntKind.u64.wrap (IntKind.u64.wrap (bits .and .u64 x 4294967295 * (y / 4294967296)) + bits .and .u64 (IntKind.u64.wrap (IntKind.u64.wrap (x / 4294967296 * bits .and .u64 y 4294967295) + IntKind.u64.wrap (bits .and .u64 x 4294967295 * bits .and .u64 y 4294967295) / 4294967296)) 4294967295) * 4294967296))
      (bits .and .u64 (IntKind.u64.wrap (bits .and .u64 x 4294967295 * bits .and .u64 y 4294967295)) 4294967295) = lo (x * y) := by
  rw [and_mask32 hx, and_mask32 hy]
  obtain ⟨h1, h2, h3, h4, h5, h6, h7, h8, h9, k6, k7, k8, k9, h10⟩ := mul_words hx hy
  rw [h10]
  clear h1 h4 h5 h6 k6 h10
  rw [uwrap_lo, uwrap_lo, uwrap_lo, uwrap_lo, uwrap_lo, uwrap_lo, and_mask32 (W64_lo _), and_mask32 (W64_lo _)]
  generalize x / 4294967296 * (y % 4294967296) = t2 at *
  generalize x % 4294967296 * (y / 4294967296) = t3 at *
  generalize x % 4294967296 * (y % 4294967296) = t4 at *
  have e : ∀ z r : Int, 0 ≤ r → r < 4294967296 → bits .or .u64 (lo (z * 4294967296)) r = lo (z * 4294967296) + r := fun z r h0 h1 => by
    refine or_join (i := 32) (by decide) (W64_lo _).1 (W64_lo _).2 ?_ h0 h1
    unfold lo; omega
  rw [e _ _ (by omega) (by omega)]
  unfold lo
  omega

set_option maxRecDepth 100000 in
set_option maxHeartbeats 2000000 in
theorem r1_product (x y : Int) (w : World) (hx : W64 x) (hy : W64 y) :
    Calls Try.prog 123 #[.int .u64 x, .int .u64 y] w fun e w' => e = .returned (.agg #[.int .u64 (hi (x * y)), .int .u64 (lo (x * y))]) ∧ Below w.heap.size w w' := by
  go_enter Try.func123, Try.ntmps123
  go_wp2
  refine bodyPost_ret ?r rfl ⟨rfl, ?b⟩
  case r => (simp [results, Try.results123, go_sem]; exact ⟨by rw [← mul64_fin hx hy]; simp only [Int.add_comm], prod_lo hx hy⟩)
  case b => exact pBl

theorem idx2_0 (x0 x1 : Int) (w : World) : (Instr.index 193 (.agg #[.int .u64 x0, .int .u64 x1]) (.int .i64 0)).run Try.prog w = .ok (.int .u64 x0) w := by kernel_rfl
theorem idx2_1 (x0 x1 : Int) (w : World) : (Instr.index 193 (.agg #[.int .u64 x0, .int .u64 x1]) (.int .i64 1)).run Try.prog w = .ok (.int .u64 x1) w := by kernel_rfl
attribute [local go_sem] uwrap_lo lo_lo hi_lo idx2_0 idx2_1
set_option maxRecDepth 100000 in
set_option maxHeartbeats 2000000 in
theorem limb_Mul (ah al bh bl : Int) (w : World) (ha : W64 ah) (hal : W64 al) (hb : W64 bh) (hbl : W64 bl) :
    Calls Try.prog 106 #[.agg #[.int .u64 ah, .int .u64 al], .agg #[.int .u64 bh, .int .u64 bl]] w fun e w' => e = .returned (.agg #[.int .u64 (q3 (val ah al * val bh bl)), .int .u64 (q2 (val ah al * val bh bl)), .int .u64 (q1 (val ah al * val bh bl)), .int .u64 (q0 (val ah al * val bh bl))]) ∧ Below w.heap.size w w' := by
  go_enter Try.func106, Try.ntmps106
  go_wp2
  refine wp_loop_rounds 3 ?_
  rw [rounds_succ]
  go_wp2_with (first | (simp (disch := (first | assumption | exact W64_lo _ | exact C01_0 | exact W64_0 | exact W64_hmul (by assumption) (by assumption))) only [Try.run_add64]) | (go_at_call 131; refine (mul64 _ _ _ (by assumption) (by assumption)).mono ?_; rintro e w' ⟨rfl, rfl⟩) | (go_at_call 130; refine (limb_four _ _ _ _ _).mono ?_; rintro e w1 ⟨rfl, hbw1⟩; have hzw1 := hbw1.size; (try simp at hzw1); obtain ⟨hcw1, hfw1⟩ := bcell hbw1; have Hw1 := Lib.hid hbw1; clear hbw1))
  refine wp_loop_rounds 3 ?_
  rw [rounds_succ]
  go_wp2_with (first | (simp (disch := (first | assumption | exact W64_lo _ | exact C01_0 | exact W64_0 | exact W64_hmul (by assumption) (by assumption))) only [Try.run_add64]) | (go_at_call 131; refine (mul64 _ _ _ (by assumption) (by assumption)).mono ?_; rintro e w' ⟨rfl, rfl⟩) | (go_at_call 130; refine (limb_four _ _ _ _ _).mono ?_; rintro e w1 ⟨rfl, hbw1⟩; have hzw1 := hbw1.size; (try simp at hzw1); obtain ⟨hcw1, hfw1⟩ := bcell hbw1; have Hw1 := Lib.hid hbw1; clear hbw1))
  rw [rounds_succ]
  go_wp2_with (first | (simp (disch := (first | assumption | exact W64_lo _ | exact C01_0 | exact W64_0 | exact W64_hmul (by assumption) (by assumption))) only [Try.run_add64]) | (go_at_call 131; refine (mul64 _ _ _ (by assumption) (by assumption)).mono ?_; rintro e w' ⟨rfl, rfl⟩) | (go_at_call 130; refine (limb_four _ _ _ _ _).mono ?_; rintro e w1 ⟨rfl, hbw1⟩; have hzw1 := hbw1.size; (try simp at hzw1); obtain ⟨hcw1, hfw1⟩ := bcell hbw1; have Hw1 := Lib.hid hbw1; clear hbw1))
  rw [rounds_succ]
  go_wp2_with (first | (simp (disch := (first | assumption | exact W64_lo _ | exact C01_0 | exact W64_0 | exact W64_hmul (by assumption) (by assumption))) only [Try.run_add64]) | (go_at_call 131; refine (mul64 _ _ _ (by assumption) (by assumption)).mono ?_; rintro e w' ⟨rfl, rfl⟩) | (go_at_call 130; refine (limb_four _ _ _ _ _).mono ?_; rintro e w1 ⟨rfl, hbw1⟩; have hzw1 := hbw1.size; (try simp at hzw1); obtain ⟨hcw1, hfw1⟩ := bcell hbw1; have Hw1 := Lib.hid hbw1; clear hbw1))
  rw [rounds_succ]
  go_wp2_with (first | (simp (disch := (first | assumption | exact W64_lo _ | exact C01_0 | exact W64_0 | exact W64_hmul (by assumption) (by assumption))) only [Try.run_add64]) | (go_at_call 131; refine (mul64 _ _ _ (by assumption) (by assumption)).mono ?_; rintro e w' ⟨rfl, rfl⟩) | (go_at_call 130; refine (limb_four _ _ _ _ _).mono ?_; rintro e w1 ⟨rfl, hbw1⟩; have hzw1 := hbw1.size; (try simp at hzw1); obtain ⟨hcw1, hfw1⟩ := bcell hbw1; have Hw1 := Lib.hid hbw1; clear hbw1))
  refine wp_loop_rounds 3 ?_
  rw [rounds_succ]
  go_wp2_with (first | (simp (disch := (first | assumption | exact W64_lo _ | exact C01_0 | exact W64_0 | exact W64_hmul (by assumption) (by assumption))) only [Try.run_add64]) | (go_at_call 131; refine (mul64 _ _ _ (by assumption) (by assumption)).mono ?_; rintro e w' ⟨rfl, rfl⟩) | (go_at_call 130; refine (limb_four _ _ _ _ _).mono ?_; rintro e w1 ⟨rfl, hbw1⟩; have hzw1 := hbw1.size; (try simp at hzw1); obtain ⟨hcw1, hfw1⟩ := bcell hbw1; have Hw1 := Lib.hid hbw1; clear hbw1))
  rw [rounds_succ]
  go_wp2_with (first | (simp (disch := (first | assumption | exact W64_lo _ | exact C01_0 | exact W64_0 | exact W64_hmul (by assumption) (by assumption))) only [Try.run_add64]) | (go_at_call 131; refine (mul64 _ _ _ (by assumption) (by assumption)).mono ?_; rintro e w' ⟨rfl, rfl⟩) | (go_at_call 130; refine (limb_four _ _ _ _ _).mono ?_; rintro e w1 ⟨rfl, hbw1⟩; have hzw1 := hbw1.size; (try simp at hzw1); obtain ⟨hcw1, hfw1⟩ := bcell hbw1; have Hw1 := Lib.hid hbw1; clear hbw1))
  rw [rounds_succ]
  go_wp2_with (first | (simp (disch := (first | assumption | exact W64_lo _ | exact C01_0 | exact W64_0 | exact W64_hmul (by assumption) (by assumption))) only [Try.run_add64]) | (go_at_call 131; refine (mul64 _ _ _ (by assumption) (by assumption)).mono ?_; rintro e w' ⟨rfl, rfl⟩) | (go_at_call 130; refine (limb_four _ _ _ _ _).mono ?_; rintro e w1 ⟨rfl, hbw1⟩; have hzw1 := hbw1.size; (try simp at hzw1); obtain ⟨hcw1, hfw1⟩ := bcell hbw1; have Hw1 := Lib.hid hbw1; clear hbw1))
  rw [rounds_succ]
  go_wp2_with (first | (simp (disch := (first | assumption | exact W64_lo _ | exact C01_0 | exact W64_0 | exact W64_hmul (by assumption) (by assumption))) only [Try.run_add64]) | (go_at_call 131; refine (mul64 _ _ _ (by assumption) (by assumption)).mono ?_; rintro e w' ⟨rfl, rfl⟩) | (go_at_call 130; refine (limb_four _ _ _ _ _).mono ?_; rintro e w1 ⟨rfl, hbw1⟩; have hzw1 := hbw1.size; (try simp at hzw1); obtain ⟨hcw1, hfw1⟩ := bcell hbw1; have Hw1 := Lib.hid hbw1; clear hbw1))
  obtain ⟨h0, h1, h2, h3⟩ := mul4_sum ha hal hb hbl
  refine bodyPost_ret ?r rfl ⟨rfl, ?b⟩
  case r => (simp [results, Try.results106, go_sem, hcw1]; exact ⟨h3, h2, h1, h0⟩)
  case b => exact pBl

end Go.Proofs.Ytdphhkbbphfjlaa
namespace Go.Proofs
set_option linter.unusedVariables false
set_option linter.unusedSimpArgs false
open Go.Shelf
def Try.lays129_ren : Go.Shelf.Ren := ⟨fun | 129 => 141 | n => n, fun | 53 => 22 | 3 => 3 | 4 => 4 | 46 => 175 | 5 => 5 | 9 => 9 | n => n, fun | n => n⟩
theorem Try.lays129 : Go.Proofs.Lays.n129 Try.prog Try.lays129_ren := {
  mixed := by kernel_rfl
  f129 := Try.func141.trans (congrArg some (by kernel_rfl))
  t3 := Try.underlying3
  a3 := Try.isAgg3
  z3 := Try.sizeOf3
  v3 := Try.zeroValue3
  t4 := Try.underlying4
  a4 := Try.isAgg4
  z4 := Try.sizeOf4
  v4 := Try.zeroValue4
  t5 := Try.underlying5
  a5 := Try.isAgg5
  z5 := Try.sizeOf5
  v5 := Try.zeroValue5
  t9 := Try.underlying9
  a9 := Try.isAgg9
  z9 := Try.sizeOf9
  v9 := Try.zeroValue9
  t46 := Try.underlying175
  a46 := Try.isAgg175
  z46 := Try.sizeOf175
  v46 := Try.zeroValue175
  t53 := Try.underlying22
  a53 := Try.isAgg22
  z53 := Try.sizeOf22
  v53 := Try.zeroValue22 }
/-- bits.Len64: "Len64 returns the minimum number of bits required to represent x; the result is 0 for x == 0.": IT RETURNS 'Lib.bitLen x'; the world is as it was. ('h0', 'h1': x is a uint64.) (LAID: no walk: one application.) -/
theorem Try.bits_Len64 (x : Int) (w : World) (h0 : 0 ≤ x) (h1 : x ≤ 18446744073709551615) :
    Calls Try.prog 141 #[.int .u64 x] w fun e w' => e = .returned (.int .i64 (Lib.bitLen x.toNat)) ∧ w' = w := Any.bits_Len64 Try.lays129 x w h0 h1
end Go.Proofs
namespace Go.Proofs.Ytdphhkbbphfjlaa
set_option linter.unusedVariables false
set_option linter.unusedSimpArgs false
open Go.RowKit

/-- how many bits a word has -/
def bl (x : Int) : Int := (Lib.bitLen x.toNat : Int)

set_option maxRecDepth 100000 in
set_option maxHeartbeats 2000000 in
theorem len64 (x : Int) (w : World) (hx : W64 x) : Calls Try.prog 141 #[.int .u64 x] w fun e w' => e = .returned (.int .i64 (bl x)) ∧ w = w' :=
  (Go.Proofs.Try.bits_Len64 x w hx.1 (by have := hx.2; omega)).mono fun e w' ⟨h1, h2⟩ => ⟨h1, h2.symm⟩

theorem idx4_0 (a b c d : Int) (w : World) : (Instr.index 190 (.agg #[.int .u64 a, .int .u64 b, .int .u64 c, .int .u64 d]) (.int .i64 0)).run Try.prog w = .ok (.int .u64 a) w := by kernel_rfl
theorem idx4_1 (a b c d : Int) (w : World) : (Instr.index 190 (.agg #[.int .u64 a, .int .u64 b, .int .u64 c, .int .u64 d]) (.int .i64 1)).run Try.prog w = .ok (.int .u64 b) w := by kernel_rfl
theorem idx4_2 (a b c d : Int) (w : World) : (Instr.index 190 (.agg #[.int .u64 a, .int .u64 b, .int .u64 c, .int .u64 d]) (.int .i64 2)).run Try.prog w = .ok (.int .u64 c) w := by kernel_rfl
theorem idx4_3 (a b c d : Int) (w : World) : (Instr.index 190 (.agg #[.int .u64 a, .int .u64 b, .int .u64 c, .int .u64 d]) (.int .i64 3)).run Try.prog w = .ok (.int .u64 d) w := by kernel_rfl

/-- how many bits a number of four words has -/
def bl4 (a b c d : Int) : Int := if a = 0 then (if b = 0 then (if c = 0 then (if d = 0 then 0 else bl d) else 64 + bl c) else 128 + bl b) else 192 + bl a

theorem bl_le (x : Int) (hx : W64 x) : 0 ≤ bl x ∧ bl x ≤ 64 := by
  unfold W64 at hx; unfold bl
  have := Lib.bitLen_le x.toNat 64 (by omega) (by omega)
  omega
theorem bl_pos {x : Int} (hx : W64 x) (h : x ≠ 0) : 1 ≤ bl x := by
  unfold W64 at hx; unfold bl
  have := Lib.bitLen_half x.toNat (by omega) (by omega)
  omega
theorem bitLen_lt (x : Nat) (hx : x < 2 ^ 64) : x < 2 ^ Lib.bitLen x := by
  rcases Nat.lt_or_ge x (2 ^ Lib.bitLen x) with h | h
  · exact h
  · have h1 := Lib.bitLen_shift _ x h hx
    have hp : 0 < 2 ^ Lib.bitLen x := Nat.two_pow_pos _
    have h2 : x / 2 ^ Lib.bitLen x ≠ 0 := by
      have := Nat.div_pos h hp
      omega
    have h3 := Lib.bitLen_half (x / 2 ^ Lib.bitLen x) h2 (Nat.lt_of_le_of_lt (Nat.div_le_self _ _) hx)
    omega
theorem bl_lt {x : Int} (hx : W64 x) : x < 2 ^ (bl x).toNat := by
  unfold W64 at hx; unfold bl
  have := bitLen_lt x.toNat (by omega)
  rw [Int.toNat_natCast]
  have e : ((2 ^ Lib.bitLen x.toNat : Nat) : Int) = 2 ^ Lib.bitLen x.toNat := by simp
  omega
theorem bl_63 {x : Int} (hx : W64 x) : bl x ≤ 63 ↔ x < 9223372036854775808 := by
  have h := bl_lt hx
  have hl := bl_le x hx
  constructor
  · intro h1
    have e : (2 : Int) ^ (bl x).toNat ≤ 2 ^ 63 := by
      have : (2 : Nat) ^ (bl x).toNat ≤ 2 ^ 63 := Nat.pow_le_pow_right (by decide) (by omega)
      exact_mod_cast this
    omega
  · intro h1
    unfold W64 at hx; unfold bl
    have := Lib.bitLen_le x.toNat 63 (by omega) (by omega)
    omega
theorem bl4_le {a b c d : Int} (ha : W64 a) (hb : W64 b) (hc : W64 c) (hd : W64 d) : 0 ≤ bl4 a b c d ∧ bl4 a b c d ≤ 256 := by
  have la := bl_le a ha
  have lb := bl_le b hb
  have lc := bl_le c hc
  have ld := bl_le d hd
  unfold bl4
  repeat' split
  all_goals omega
theorem bl4_big {a b c d : Int} (ha : W64 a) (hb : W64 b) (hc : W64 c) (hd : W64 d) : 127 < bl4 a b c d ↔ 170141183460469231731687303715884105728 ≤ v4 a b c d := by
  have la := bl_le a ha
  have lb := bl_le b hb
  have lc := bl_63 hc
  have ld := bl_le d hd
  unfold bl4 v4 val
  by_cases h1 : a = 0
  · by_cases h2 : b = 0
    · by_cases h3 : c = 0
      · unfold W64 at *
        by_cases h4 : d = 0
        · simp only [h1, h2, h3, h4, if_true]; omega
        · simp only [h1, h2, h3, h4, if_true, if_false]; omega
      · unfold W64 at *
        simp only [h1, h2, h3, if_true, if_false]; omega
    · have := bl_pos hb h2
      unfold W64 at *
      simp only [h1, h2, if_true, if_false]; omega
  · have := bl_pos ha h1
    unfold W64 at *
    simp only [h1, if_false]; omega
theorem lt_pow_add {x y : Int} {n k : Nat} (hx0 : 0 ≤ x) (hx : x < 2 ^ n) (hy : y < 2 ^ k) : x * 2 ^ k + y < 2 ^ (k + n) := by
  have h : (x + 1) * 2 ^ k ≤ 2 ^ n * 2 ^ k := Int.mul_le_mul_of_nonneg_right (by omega) (Int.pow_nonneg (by decide))
  rw [Int.add_mul, Int.one_mul] at h
  have e : (2 : Int) ^ (k + n) = 2 ^ n * 2 ^ k := by rw [Int.pow_add, Int.mul_comm]
  omega
theorem bl4_lt {a b c d : Int} (ha : W64 a) (hb : W64 b) (hc : W64 c) (hd : W64 d) : v4 a b c d < 2 ^ (bl4 a b c d).toNat := by
  have la := bl_le a ha
  have lb := bl_le b hb
  have lc := bl_le c hc
  have ld := bl_le d hd
  have ka := bl_lt ha
  have kb := bl_lt hb
  have kc := bl_lt hc
  have kd := bl_lt hd
  have e : v4 a b c d = a * 2 ^ 192 + (b * 340282366920938463463374607431768211456 + c * 18446744073709551616 + d) := by unfold v4 val; omega
  have e1 : b * 340282366920938463463374607431768211456 + c * 18446744073709551616 + d = b * 2 ^ 128 + (c * 18446744073709551616 + d) := by omega
  have e2 : c * 18446744073709551616 + d = c * 2 ^ 64 + d := by omega
  have f2 : c * 2 ^ 64 + d < 2 ^ 128 := by unfold W64 at *; omega
  have f1 : b * 2 ^ 128 + (c * 18446744073709551616 + d) < 2 ^ 192 := by unfold W64 at *; omega
  rw [e]
  unfold bl4
  by_cases h1 : a = 0
  · rw [if_pos h1, h1, Int.zero_mul, Int.zero_add, e1]
    by_cases h2 : b = 0
    · rw [if_pos h2, h2, Int.zero_mul, Int.zero_add, e2]
      by_cases h3 : c = 0
      · rw [if_pos h3, h3, Int.zero_mul, Int.zero_add]
        by_cases h4 : d = 0
        · rw [if_pos h4, h4]; decide
        · rw [if_neg h4]; exact kd
      · rw [if_neg h3]
        have := lt_pow_add (k := 64) hc.1 kc (y := d) hd.2
        rw [show (64 + bl c).toNat = 64 + (bl c).toNat from by omega]
        exact this
    · rw [if_neg h2, e2]
      have := lt_pow_add (k := 128) hb.1 kb f2
      rw [show (128 + bl b).toNat = 128 + (bl b).toNat from by omega]
      exact this
  · rw [if_neg h1, e1]
    have := lt_pow_add (k := 192) ha.1 ka f1
    rw [show (192 + bl a).toNat = 192 + (bl a).toNat from by omega]
    exact this


attribute [local go_sem] idx4_0 idx4_1 idx4_2 idx4_3
set_option maxRecDepth 100000 in
set_option maxHeartbeats 2000000 in
theorem limb_Len (a b c d : Int) (w : World) (ha : W64 a) (hb : W64 b) (hc : W64 c) (hd : W64 d) :
    Calls Try.prog 128 #[.agg #[.int .u64 a, .int .u64 b, .int .u64 c, .int .u64 d]] w fun e w' => e = .returned (.int .i64 (bl4 a b c d)) ∧ Below w.heap.size w w' := by
  have la := bl_le a ha
  have lb := bl_le b hb
  have lc := bl_le c hc
  have ld := bl_le d hd
  go_enter Try.func128, Try.ntmps128
  go_wp2
  refine wp_loop_rounds 5 ?_
  repeat any_goals (rw [rounds_succ]; go_wp2_with (go_at_call 141; refine (len64 _ _ (by assumption)).mono ?_; rintro e w' ⟨rfl, rfl⟩))
  all_goals go_ret
  all_goals refine ⟨ret_i64 (by simp_all [bl4]), ?_⟩
  all_goals (exact pBl)
end Go.Proofs.Ytdphhkbbphfjlaa
namespace Go.Proofs.Ytdphhkbbphfjlaa
set_option linter.unusedVariables false
set_option linter.unusedSimpArgs false
open Go.RowKit
attribute [local go_sem] uwrap_lo lo_lo hi_lo

theorem shr_top {x : Int} (h : W64 x) : x / 2 / 9223372036854775808 = 0 := by unfold W64 at h; omega
theorem shl_top {x : Int} (h : W64 x) : lo (x * 18446744073709551616) = 0 := by unfold lo; omega
theorem shl_top2 (x : Int) : lo (lo (x * 2) * 9223372036854775808) = 0 := by unfold lo; omega
theorem lo_0 : lo 0 = 0 := by unfold lo; omega

set_option maxRecDepth 100000 in
set_option maxHeartbeats 2000000 in
theorem limb_Shl64 (c d : Int) (w : World) (hc : W64 c) (hd : W64 d) :
    Calls Try.prog 108 #[.agg #[.int .u64 0, .int .u64 0, .int .u64 c, .int .u64 d], .int .i64 64] w fun e w' => e = .returned (.agg #[.int .u64 0, .int .u64 c, .int .u64 d, .int .u64 0]) ∧ Below w.heap.size w w' := by
  go_enter Try.func108, Try.ntmps108
  go_wp2_with (first | (go_at_call 129; refine (limb_list _ _ _ _ _).mono ?_; rintro e w1 ⟨rfl, hbw1⟩; have hzw1 := hbw1.size; (try simp at hzw1); have hsw1_w : w.heap.size ≤ w1.heap.size := (by omega); obtain ⟨hcw1_w_0, hfw1_w_0⟩ := pBc hbw1 (b := w.heap.size) pSd; have hsw1_w_0 : w.heap.size < w1.heap.size := (by omega); obtain ⟨hcw1_w_1, hfw1_w_1⟩ := pBc hbw1 (b := w.heap.size + 1) pSd; have hsw1_w_1 : w.heap.size + 1 < w1.heap.size := (by omega); have Hw1 := Lib.hid hbw1; clear hbw1))
  refine wp_loop_rounds 4 ?_
  rw [rounds_succ]
  go_wp2
  rw [rounds_succ]
  go_wp2
  go_region
  go_wp2
  rw [rounds_succ]
  go_wp2
  go_region
  go_wp2
  rw [rounds_succ]
  go_wp2_with (go_at_call 130; refine (limb_four _ _ _ _ _).mono ?_; rintro e w2 ⟨rfl, hbw2⟩; have hzw2 := hbw2.size; (try simp at hzw2); have hsw2_w : w.heap.size ≤ w2.heap.size := (by omega); obtain ⟨hcw2_w_0, hfw2_w_0⟩ := pBc hbw2 (b := w.heap.size) pSd; have hsw2_w_0 : w.heap.size < w2.heap.size := (by omega); obtain ⟨hcw2_w_1, hfw2_w_1⟩ := pBc hbw2 (b := w.heap.size + 1) pSd; have hsw2_w_1 : w.heap.size + 1 < w2.heap.size := (by omega); have Hw2 := Lib.hid hbw2; clear hbw2)
  refine bodyPost_ret ?r rfl ⟨rfl, ?b⟩
  case r =>
    simp [results, Try.results108, go_sem, *]
    rw [shr_top hc, shr_top hd, lo_0, lo_w hc, lo_w hd, or_zero W64_0, or_zero hc]
    exact ⟨rfl, rfl, rfl⟩
  case b => exact pBl

set_option maxRecDepth 100000 in
set_option maxHeartbeats 2000000 in
theorem limb_Shl_1_63 (w : World) :
    Calls Try.prog 108 #[.agg #[.int .u64 0, .int .u64 0, .int .u64 0, .int .u64 1], .int .i64 63] w fun e w' => e = .returned (.agg #[.int .u64 0, .int .u64 0, .int .u64 0, .int .u64 9223372036854775808]) ∧ Below w.heap.size w w' := by
  go_enter Try.func108, Try.ntmps108
  go_wp2_with (first | (go_at_call 129; refine (limb_list _ _ _ _ _).mono ?_; rintro e w1 ⟨rfl, hbw1⟩; have hzw1 := hbw1.size; (try simp at hzw1); have hsw1_w : w.heap.size ≤ w1.heap.size := (by omega); obtain ⟨hcw1_w_0, hfw1_w_0⟩ := pBc hbw1 (b := w.heap.size) pSd; have hsw1_w_0 : w.heap.size < w1.heap.size := (by omega); obtain ⟨hcw1_w_1, hfw1_w_1⟩ := pBc hbw1 (b := w.heap.size + 1) pSd; have hsw1_w_1 : w.heap.size + 1 < w1.heap.size := (by omega); have Hw1 := Lib.hid hbw1; clear hbw1))
  refine wp_loop_rounds 5 ?_
  rw [rounds_succ]
  go_wp2
  rw [rounds_succ]
  go_wp2
  go_region
  go_wp2
  rw [rounds_succ]
  go_wp2
  go_region
  go_wp2
  rw [rounds_succ]
  go_wp2
  go_region
  go_wp2
  rw [rounds_succ]
  go_wp2_with (go_at_call 130; refine (limb_four _ _ _ _ _).mono ?_; rintro e w2 ⟨rfl, hbw2⟩; have hzw2 := hbw2.size; (try simp at hzw2); have hsw2_w : w.heap.size ≤ w2.heap.size := (by omega); obtain ⟨hcw2_w_0, hfw2_w_0⟩ := pBc hbw2 (b := w.heap.size) pSd; have hsw2_w_0 : w.heap.size < w2.heap.size := (by omega); obtain ⟨hcw2_w_1, hfw2_w_1⟩ := pBc hbw2 (b := w.heap.size + 1) pSd; have hsw2_w_1 : w.heap.size + 1 < w2.heap.size := (by omega); have Hw2 := Lib.hid hbw2; clear hbw2)
  refine bodyPost_ret ?r rfl ⟨rfl, ?b⟩
  case r =>
    simp [results, Try.results108, go_sem, *]
    exact ⟨by rw [lo_0, or_zero W64_0], by unfold lo; omega⟩
  case b => exact pBl

set_option maxRecDepth 100000 in
set_option maxHeartbeats 2000000 in
theorem limb_Shl_1_0 (w : World) :
    Calls Try.prog 108 #[.agg #[.int .u64 0, .int .u64 0, .int .u64 0, .int .u64 1], .int .i64 0] w fun e w' => e = .returned (.agg #[.int .u64 0, .int .u64 0, .int .u64 0, .int .u64 1]) ∧ Below w.heap.size w w' := by
  go_enter Try.func108, Try.ntmps108
  go_wp2_with (first | (go_at_call 129; refine (limb_list _ _ _ _ _).mono ?_; rintro e w1 ⟨rfl, hbw1⟩; have hzw1 := hbw1.size; (try simp at hzw1); have hsw1_w : w.heap.size ≤ w1.heap.size := (by omega); obtain ⟨hcw1_w_0, hfw1_w_0⟩ := pBc hbw1 (b := w.heap.size) pSd; have hsw1_w_0 : w.heap.size < w1.heap.size := (by omega); obtain ⟨hcw1_w_1, hfw1_w_1⟩ := pBc hbw1 (b := w.heap.size + 1) pSd; have hsw1_w_1 : w.heap.size + 1 < w1.heap.size := (by omega); have Hw1 := Lib.hid hbw1; clear hbw1))
  refine wp_loop_rounds 5 ?_
  rw [rounds_succ]
  go_wp2
  rw [rounds_succ]
  go_wp2
  go_region
  go_wp2
  rw [rounds_succ]
  go_wp2
  go_region
  go_wp2
  rw [rounds_succ]
  go_wp2
  go_region
  go_wp2
  rw [rounds_succ]
  go_wp2_with (go_at_call 130; refine (limb_four _ _ _ _ _).mono ?_; rintro e w2 ⟨rfl, hbw2⟩; have hzw2 := hbw2.size; (try simp at hzw2); have hsw2_w : w.heap.size ≤ w2.heap.size := (by omega); obtain ⟨hcw2_w_0, hfw2_w_0⟩ := pBc hbw2 (b := w.heap.size) pSd; have hsw2_w_0 : w.heap.size < w2.heap.size := (by omega); obtain ⟨hcw2_w_1, hfw2_w_1⟩ := pBc hbw2 (b := w.heap.size + 1) pSd; have hsw2_w_1 : w.heap.size + 1 < w2.heap.size := (by omega); have Hw2 := Lib.hid hbw2; clear hbw2)
  refine bodyPost_ret ?r rfl ⟨rfl, ?b⟩
  case r =>
    simp [results, Try.results108, go_sem, *]
    exact ⟨by rw [lo_0, or_zero W64_0], by unfold lo; omega⟩
  case b => exact pBl

set_option maxRecDepth 100000 in
set_option maxHeartbeats 2000000 in
theorem limb_Shr64 (a b c d : Int) (w : World) (ha : W64 a) (hb : W64 b) (hc : W64 c) (hd : W64 d) :
    Calls Try.prog 104 #[.agg #[.int .u64 a, .int .u64 b, .int .u64 c, .int .u64 d], .int .i64 64] w fun e w' => e = .returned (.agg #[.int .u64 0, .int .u64 a, .int .u64 b, .int .u64 c]) ∧ Below w.heap.size w w' := by
  go_enter Try.func104, Try.ntmps104
  go_wp2_with (first | (go_at_call 129; refine (limb_list _ _ _ _ _).mono ?_; rintro e w1 ⟨rfl, hbw1⟩; have hzw1 := hbw1.size; (try simp at hzw1); have hsw1_w : w.heap.size ≤ w1.heap.size := (by omega); obtain ⟨hcw1_w_0, hfw1_w_0⟩ := pBc hbw1 (b := w.heap.size) pSd; have hsw1_w_0 : w.heap.size < w1.heap.size := (by omega); obtain ⟨hcw1_w_1, hfw1_w_1⟩ := pBc hbw1 (b := w.heap.size + 1) pSd; have hsw1_w_1 : w.heap.size + 1 < w1.heap.size := (by omega); have Hw1 := Lib.hid hbw1; clear hbw1))
  refine wp_loop_rounds 4 ?_
  rw [rounds_succ]
  go_wp2
  go_region
  go_wp2
  rw [rounds_succ]
  go_wp2
  go_region
  go_wp2
  rw [rounds_succ]
  go_wp2
  rw [rounds_succ]
  go_wp2_with (go_at_call 130; refine (limb_four _ _ _ _ _).mono ?_; rintro e w2 ⟨rfl, hbw2⟩; have hzw2 := hbw2.size; (try simp at hzw2); have hsw2_w : w.heap.size ≤ w2.heap.size := (by omega); obtain ⟨hcw2_w_0, hfw2_w_0⟩ := pBc hbw2 (b := w.heap.size) pSd; have hsw2_w_0 : w.heap.size < w2.heap.size := (by omega); obtain ⟨hcw2_w_1, hfw2_w_1⟩ := pBc hbw2 (b := w.heap.size + 1) pSd; have hsw2_w_1 : w.heap.size + 1 < w2.heap.size := (by omega); have Hw2 := Lib.hid hbw2; clear hbw2)
  refine bodyPost_ret ?r rfl ⟨rfl, ?b⟩
  case r =>
    simp [results, Try.results104, go_sem, *]
    rw [shl_top2, shl_top2, or_zero hb, or_zero hc]
    exact ⟨rfl, rfl⟩
  case b => exact pBl

end Go.Proofs.Ytdphhkbbphfjlaa

namespace Go.Proofs.Ytdphhkbbphfjlaa
set_option linter.unusedVariables false
set_option linter.unusedSimpArgs false
open Go.RowKit

theorem ret_u64 {a b : Int} (h : a = b) : Ending.returned (.int .u64 a) = .returned (.int .u64 b) := by rw [h]
set_option maxRecDepth 100000 in
set_option maxHeartbeats 2000000 in
theorem limb_bit (X n : Int) (w : World) (h0 : 0 ≤ n) (h1 : n < 256) :
    Calls Try.prog 133 #[.agg #[.int .u64 (q0 X), .int .u64 (q1 X), .int .u64 (q2 X), .int .u64 (q3 X)], .int .i64 n] w fun e w' => e = .returned (.int .u64 (bitAt X n)) ∧ Below w.heap.size w w' := by
  have hk : n / 64 = 0 ∨ n / 64 = 1 ∨ n / 64 = 2 ∨ n / 64 = 3 := by omega
  rcases hk with hk | hk | hk | hk
  · go_enter Try.func133, Try.ntmps133
    go_wp2
    go_ret
    refine ⟨ret_u64 ?_, ?_⟩
    · rw [bitAt_0 h0 hk, and_one (W64_shr (W64_q0 X) _)]
    · exact pBl
  · go_enter Try.func133, Try.ntmps133
    go_wp2
    go_ret
    refine ⟨ret_u64 ?_, ?_⟩
    · rw [bitAt_1 h0 hk, and_one (W64_shr (W64_q1 X) _)]
    · exact pBl
  · go_enter Try.func133, Try.ntmps133
    go_wp2
    go_ret
    refine ⟨ret_u64 ?_, ?_⟩
    · rw [bitAt_2 h0 hk, and_one (W64_shr (W64_q2 X) _)]
    · exact pBl
  · go_enter Try.func133, Try.ntmps133
    go_wp2
    go_ret
    refine ⟨ret_u64 ?_, ?_⟩
    · rw [bitAt_3 h0 hk, and_one (W64_shr (W64_q3 X) _)]
    · exact pBl
end Go.Proofs.Ytdphhkbbphfjlaa
