/- Plain numbers: bits of words, products of words by halves. Plain numbers: bits of a number of four words; long division, a bit a step. -/
import Derived.Test.YtdphhkbbphfjlaaCBase
import Derived.Laws.BitsLemmas
import Derived.Laws.Bits64
namespace Go.Proofs.Ytdphhkbbphfjlaa
set_option linter.unusedVariables false
set_option linter.unusedSimpArgs false
open Go.RowKit

theorem wraps_u64 (n : Int) (h₀ : 0 ≤ n) (h₁ : n < 2 ^ 64) : IntKind.u64.wrap n = n := by rw [IntKind.wrap_u64]; omega
theorem uwrap_lo (n : Int) : IntKind.u64.wrap n = lo n := by rw [IntKind.wrap_u64]; rfl
theorem and_mask32 {x : Int} (h : W64 x) : bits .and .u64 x 4294967295 = x % 4294967296 :=
  bits_mask .u64 64 (by decide) wraps_u64 32 (by decide) x h.1 h.2
theorem and_one {x : Int} (h : W64 x) : bits .and .u64 x 1 = x % 2 :=
  bits_mask .u64 64 (by decide) wraps_u64 1 (by decide) x h.1 h.2
theorem or_join {i : Nat} {x y : Int} (hi : i ≤ 64) (hx0 : 0 ≤ x) (hx1 : x < 18446744073709551616) (hx : x % 2 ^ i = 0) (hy0 : 0 ≤ y) (hy : y < 2 ^ i) : bits .or .u64 x y = x + y := by
  refine bits_join .u64 64 (by decide) wraps_u64 i x y hx0 hx hx1 hy0 hy ?_
  have h1 : (2 : Nat) ^ i ≤ 2 ^ 64 := Nat.pow_le_pow_right (by decide) hi
  have h2 : (2 : Int) ^ i ≤ 2 ^ 64 := by exact_mod_cast h1
  omega
theorem or_zero {x : Int} (h : W64 x) : bits .or .u64 x 0 = x := by
  have := or_join (i := 0) (x := x) (y := 0) (by decide) h.1 h.2 (by omega) (by decide) (by decide)
  rw [this]; omega
theorem or_zero' {x : Int} (h : W64 x) : bits .or .u64 0 x = x := by
  have := or_join (i := 64) (x := 0) (y := x) (by decide) (by decide) (by decide) (by decide) h.1 h.2
  rw [this]; omega

/-- A product of two halves of words is small. -/
theorem half_mul {a b : Int} (ha0 : 0 ≤ a) (ha : a < 4294967296) (hb0 : 0 ≤ b) (hb : b < 4294967296) : 0 ≤ a * b ∧ a * b ≤ 18446744065119617025 := by
  refine ⟨Int.mul_nonneg ha0 hb0, ?_⟩
  have h := Int.mul_le_mul (a := a) (b := b) (c := 4294967295) (d := 4294967295) (by omega) (by omega) hb0 (by omega)
  omega
theorem split_mul (x y : Int) : x * y = (x / 4294967296 * (y / 4294967296)) * 18446744073709551616 + (x / 4294967296 * (y % 4294967296) + x % 4294967296 * (y / 4294967296)) * 4294967296 + x % 4294967296 * (y % 4294967296) := by
  have hx := Int.mul_ediv_add_emod x 4294967296
  have hy := Int.mul_ediv_add_emod y 4294967296
  generalize x / 4294967296 = A at *
  generalize x % 4294967296 = a at *
  generalize y / 4294967296 = B at *
  generalize y % 4294967296 = b at *
  subst hx hy
  grind

theorem mul_words {x y : Int} (hx : W64 x) (hy : W64 y) :
    hi (x * y) = x / 4294967296 * (y / 4294967296) + (x / 4294967296 * (y % 4294967296) + x % 4294967296 * (y % 4294967296) / 4294967296) / 4294967296 + ((x / 4294967296 * (y % 4294967296) + x % 4294967296 * (y % 4294967296) / 4294967296) % 4294967296 + x % 4294967296 * (y / 4294967296)) / 4294967296
    ∧ x / 4294967296 * (y % 4294967296) + x % 4294967296 * (y % 4294967296) / 4294967296 < 18446744073709551616
    ∧ (x / 4294967296 * (y % 4294967296) + x % 4294967296 * (y % 4294967296) / 4294967296) % 4294967296 + x % 4294967296 * (y / 4294967296) < 18446744073709551616
    ∧ x / 4294967296 * (y / 4294967296) + (x / 4294967296 * (y % 4294967296) + x % 4294967296 * (y % 4294967296) / 4294967296) / 4294967296 < 18446744073709551616
    ∧ hi (x * y) < 18446744073709551616
    ∧ x / 4294967296 * (y / 4294967296) < 18446744073709551616 ∧ x / 4294967296 * (y % 4294967296) < 18446744073709551616 ∧ x % 4294967296 * (y / 4294967296) < 18446744073709551616 ∧ x % 4294967296 * (y % 4294967296) < 18446744073709551616
    ∧ 0 ≤ x / 4294967296 * (y / 4294967296) ∧ 0 ≤ x / 4294967296 * (y % 4294967296) ∧ 0 ≤ x % 4294967296 * (y / 4294967296) ∧ 0 ≤ x % 4294967296 * (y % 4294967296)
    ∧ lo (x * y) = ((x / 4294967296 * (y % 4294967296) + x % 4294967296 * (y % 4294967296) / 4294967296) % 4294967296 + x % 4294967296 * (y / 4294967296)) % 4294967296 * 4294967296 + x % 4294967296 * (y % 4294967296) % 4294967296 := by
  unfold W64 at hx hy
  have e := split_mul x y
  have h1 := half_mul (a := x / 4294967296) (b := y / 4294967296) (by omega) (by omega) (by omega) (by omega)
  have h2 := half_mul (a := x / 4294967296) (b := y % 4294967296) (by omega) (by omega) (by omega) (by omega)
  have h3 := half_mul (a := x % 4294967296) (b := y / 4294967296) (by omega) (by omega) (by omega) (by omega)
  have h4 := half_mul (a := x % 4294967296) (b := y % 4294967296) (by omega) (by omega) (by omega) (by omega)
  unfold hi lo
  rw [e]
  generalize x / 4294967296 * (y / 4294967296) = t1 at *
  generalize x / 4294967296 * (y % 4294967296) = t2 at *
  generalize x % 4294967296 * (y / 4294967296) = t3 at *
  generalize x % 4294967296 * (y % 4294967296) = t4 at *
  clear e hx hy
  refine ⟨by omega, by omega, by omega, by omega, by omega, by omega, by omega, by omega, by omega, by omega, by omega, by omega, by omega, by omega⟩
theorem W64_hmul {x y : Int} (hx : W64 x) (hy : W64 y) : W64 (hi (x * y)) := by
  obtain ⟨h1, h2, h3, h4, h5, h6, h7, h8, h9, k6, k7, k8, k9, h10⟩ := mul_words hx hy
  refine ⟨?_, h5⟩
  have := Int.mul_nonneg hx.1 hy.1
  unfold hi; omega

theorem W64_hmul1 {x y : Int} (hx : W64 x) (hy : W64 y) : hi (x * y) < 18446744073709551615 := by
  have h := Int.mul_le_mul (a := x) (b := y) (c := 18446744073709551615) (d := 18446744073709551615) (by have := hx.2; omega) (by have := hy.2; omega) hy.1 (by omega)
  unfold hi; omega
theorem mul4_sum {ah al bh bl : Int} (ha : W64 ah) (hal : W64 al) (hb : W64 bh) (hbl : W64 bl) :
    let P := val ah al * val bh bl
    lo (al * bl) = q0 P
    ∧ lo (lo (lo (al * bh) + lo (hi (al * bl))) + lo (ah * bl)) = q1 P
    ∧ lo (lo (hi (al * bh) + hi (lo (al * bh) + lo (hi (al * bl)))) + lo (lo (ah * bh) + lo (lo (hi (ah * bl)) + hi (lo (lo (al * bh) + lo (hi (al * bl))) + lo (ah * bl))))) = q2 P
    ∧ lo (lo (hi (ah * bh) + hi (lo (ah * bh) + lo (lo (hi (ah * bl)) + hi (lo (lo (al * bh) + lo (hi (al * bl))) + lo (ah * bl))))) + hi (lo (hi (al * bh) + hi (lo (al * bh) + lo (hi (al * bl)))) + lo (lo (ah * bh) + lo (lo (hi (ah * bl)) + hi (lo (lo (al * bh) + lo (hi (al * bl))) + lo (ah * bl)))))) = q3 P := by
  intro P
  have hP : P = (ah * bh) * 340282366920938463463374607431768211456 + (al * bh + ah * bl) * 18446744073709551616 + al * bl := by
    show val ah al * val bh bl = _
    unfold val; grind
  have b0 := W64_hmul hal hbl
  have b1 := W64_hmul hal hb
  have b2 := W64_hmul ha hbl
  have b3 := W64_hmul ha hb
  have bP : P ≤ 115792089237316195423570985008687907852589419931798687112530834793049593217025 := by
    have h := Int.mul_le_mul (a := val ah al) (b := val bh bl) (c := 340282366920938463463374607431768211455) (d := 340282366920938463463374607431768211455) (by unfold val; unfold W64 at *; omega) (by unfold val; unfold W64 at *; omega) (by unfold val; unfold W64 at *; omega) (by omega)
    omega
  clear_value P
  rw [lo_w b0, lo_w b2]
  have m0 : al * bl = hi (al * bl) * 18446744073709551616 + lo (al * bl) := (val_hl _).symm
  have m1 : al * bh = hi (al * bh) * 18446744073709551616 + lo (al * bh) := (val_hl _).symm
  have m2 : ah * bl = hi (ah * bl) * 18446744073709551616 + lo (ah * bl) := (val_hl _).symm
  have m3 : ah * bh = hi (ah * bh) * 18446744073709551616 + lo (ah * bh) := (val_hl _).symm
  have n0 := W64_lo (al * bl)
  have n1 := W64_lo (al * bh)
  have n2 := W64_lo (ah * bl)
  have n3 := W64_lo (ah * bh)
  have t1 := W64_hmul1 hal hb
  have t2 := W64_hmul1 ha hbl
  have t3 := W64_hmul1 ha hb
  generalize hi (al * bl) = h0 at *
  generalize lo (al * bl) = l0 at *
  generalize hi (al * bh) = h1 at *
  generalize lo (al * bh) = l1 at *
  generalize hi (ah * bl) = h2 at *
  generalize lo (ah * bl) = l2 at *
  generalize hi (ah * bh) = h3 at *
  generalize lo (ah * bh) = l3 at *
  rw [m0, m1, m2, m3] at hP
  clear m0 m1 m2 m3 ha hal hb hbl
  have c1 := C01_add0 n1 b0
  have e1 : l1 + h0 = hi (l1 + h0) * 18446744073709551616 + lo (l1 + h0) := (val_hl _).symm
  have w1 := W64_lo (l1 + h0)
  generalize hi (l1 + h0) = k1 at *
  generalize lo (l1 + h0) = o1 at *
  have f1 : lo (h1 + k1) = h1 + k1 := lo_w ⟨by have := b1.1; have := c1.1; omega, by have := c1.2; omega⟩
  rw [f1]
  have c2 := C01_add0 w1 n2
  have e2 : o1 + l2 = hi (o1 + l2) * 18446744073709551616 + lo (o1 + l2) := (val_hl _).symm
  have w2 := W64_lo (o1 + l2)
  generalize hi (o1 + l2) = k2 at *
  generalize lo (o1 + l2) = o2 at *
  have f2 : lo (h2 + k2) = h2 + k2 := lo_w ⟨by have := b2.1; have := c2.1; omega, by have := c2.2; omega⟩
  rw [f2]
  have x2 : W64 (h2 + k2) := ⟨by have := b2.1; have := c2.1; omega, by have := c2.2; omega⟩
  have x1 : W64 (h1 + k1) := ⟨by have := b1.1; have := c1.1; omega, by have := c1.2; omega⟩
  have c3 := C01_add0 n3 x2
  have e3 : l3 + (h2 + k2) = hi (l3 + (h2 + k2)) * 18446744073709551616 + lo (l3 + (h2 + k2)) := (val_hl _).symm
  have w3 := W64_lo (l3 + (h2 + k2))
  generalize hi (l3 + (h2 + k2)) = k3 at *
  generalize lo (l3 + (h2 + k2)) = o3 at *
  have c4 := C01_add0 x1 w3
  have e4 : (h1 + k1) + o3 = hi ((h1 + k1) + o3) * 18446744073709551616 + lo ((h1 + k1) + o3) := (val_hl _).symm
  have w4 := W64_lo ((h1 + k1) + o3)
  generalize hi ((h1 + k1) + o3) = k4 at *
  generalize lo ((h1 + k1) + o3) = o4 at *
  have f3 : lo (h3 + k3) = h3 + k3 := lo_w ⟨by have := b3.1; have := c3.1; omega, by have := c3.2; omega⟩
  rw [f3]
  have x3 : W64 (h3 + k3 + k4) := by
    unfold W64 C01 at *
    refine ⟨by omega, by omega⟩
  rw [lo_w x3]
  have e : P = v4 (h3 + k3 + k4) o4 o2 l0 := by
    unfold v4 val
    omega
  obtain ⟨r3, r2, r1, r0⟩ := q_v4 x3 w4 w2 n0
  rw [e]
  exact ⟨r0.symm, r1.symm, r2.symm, r3.symm⟩
end Go.Proofs.Ytdphhkbbphfjlaa
namespace Go.Proofs.Ytdphhkbbphfjlaa
set_option linter.unusedVariables false
set_option linter.unusedSimpArgs false
open Go.RowKit

/-- the bit of a number at a place -/
def bitAt (x n : Int) : Int := x / 2 ^ n.toNat % 2

theorem p2_pos (r : Nat) : 0 < (2 : Int) ^ r := Int.pow_pos (by decide)
theorem div_pow_add (x : Int) (a b : Nat) : x / 2 ^ (a + b) = x / 2 ^ a / 2 ^ b := by
  rw [Int.pow_add, Int.ediv_ediv_of_nonneg (Int.le_of_lt (p2_pos a))]
theorem bit_mod {y : Int} {r : Nat} (h : r < 64) : y % 18446744073709551616 / 2 ^ r % 2 = y / 2 ^ r % 2 := by
  obtain ⟨s, hs⟩ : ∃ s, 64 = r + (s + 1) := ⟨63 - r, by omega⟩
  have e : (18446744073709551616 : Int) = 2 ^ r * (2 * 2 ^ s) := by
    have : (18446744073709551616 : Int) = 2 ^ 64 := by decide
    rw [this, hs, Int.pow_add, Int.pow_succ, Int.mul_comm (2 ^ s) 2]
  have h1 : y = y % 18446744073709551616 + 2 ^ r * (2 * 2 ^ s * (y / 18446744073709551616)) := by
    rw [← Int.mul_assoc, ← e]
    omega
  have hp := p2_pos r
  have h2 : y / 2 ^ r = y % 18446744073709551616 / 2 ^ r + 2 * 2 ^ s * (y / 18446744073709551616) := by
    conv => lhs; rw [h1]
    rw [Int.add_mul_ediv_left _ _ (by omega)]
  rw [h2, Int.mul_assoc]
  generalize 2 ^ s * (y / 18446744073709551616) = z
  omega
theorem bitAt_at {x n : Int} (k : Nat) (h0 : 0 ≤ n) (hk : n / 64 = k) : bitAt x n = x / 2 ^ (64 * k) % 18446744073709551616 / 2 ^ (n % 64).toNat % 2 := by
  unfold bitAt
  have e : n.toNat = 64 * k + (n % 64).toNat := by omega
  rw [e, div_pow_add, bit_mod (by omega)]
theorem bitAt_0 {x n : Int} (h0 : 0 ≤ n) (hk : n / 64 = 0) : bitAt x n = q0 x / 2 ^ (n % 64).toNat % 2 := by
  rw [bitAt_at 0 h0 hk]; unfold q0 lo; simp
theorem bitAt_1 {x n : Int} (h0 : 0 ≤ n) (hk : n / 64 = 1) : bitAt x n = q1 x / 2 ^ (n % 64).toNat % 2 := by
  rw [bitAt_at 1 h0 hk]; rfl
theorem bitAt_2 {x n : Int} (h0 : 0 ≤ n) (hk : n / 64 = 2) : bitAt x n = q2 x / 2 ^ (n % 64).toNat % 2 := by
  rw [bitAt_at 2 h0 hk]
  have e : x / 2 ^ (64 * 2) = hi (hi x) := by unfold hi; omega
  rw [e]; rfl
theorem bitAt_3 {x n : Int} (h0 : 0 ≤ n) (hk : n / 64 = 3) : bitAt x n = q3 x / 2 ^ (n % 64).toNat % 2 := by
  rw [bitAt_at 3 h0 hk]
  have e : x / 2 ^ (64 * 3) = hi (hi (hi x)) := by unfold hi; omega
  rw [e]; rfl
theorem bitAt_01 (x n : Int) : 0 ≤ bitAt x n ∧ bitAt x n ≤ 1 := by unfold bitAt; omega
theorem W64_shr {x : Int} (h : W64 x) (r : Nat) : W64 (x / 2 ^ r) := by
  have hp := p2_pos r
  refine ⟨Int.ediv_nonneg h.1 (by omega), ?_⟩
  have := Int.ediv_le_self (2 ^ r) h.1
  have := h.2
  omega

/-! long division -/
/-- the rest, the quotient, when the bits from place m on are done -/
def dr (A B : Int) (m : Nat) : Int := A / 2 ^ m % B
def dq (A B : Int) (m : Nat) : Int := A / 2 ^ m / B * 2 ^ m
theorem dr_range {A B : Int} (hB : 0 < B) (m : Nat) : 0 ≤ dr A B m ∧ dr A B m < B := ⟨Int.emod_nonneg _ (by omega), Int.emod_lt_of_pos _ hB⟩
theorem div_bit (A : Int) (m : Nat) : A / 2 ^ m = 2 * (A / 2 ^ (m + 1)) + bitAt A m := by
  unfold bitAt
  rw [Int.toNat_natCast, div_pow_add A m 1]
  omega
theorem dstep {A B : Int} (hB : 0 < B) (m : Nat) :
    (dr A B m = if B ≤ 2 * dr A B (m + 1) + bitAt A m then 2 * dr A B (m + 1) + bitAt A m - B else 2 * dr A B (m + 1) + bitAt A m)
    ∧ dq A B m = if B ≤ 2 * dr A B (m + 1) + bitAt A m then dq A B (m + 1) + 2 ^ m else dq A B (m + 1) := by
  have hr := dr_range (A := A) hB (m + 1)
  have hb := bitAt_01 A m
  have hx : A / 2 ^ (m + 1) = B * (A / 2 ^ (m + 1) / B) + dr A B (m + 1) := (Int.mul_ediv_add_emod _ _).symm
  have hy := div_bit A m
  unfold dr dq at *
  generalize bitAt A m = b at *
  generalize hq : A / 2 ^ (m + 1) / B = q at *
  generalize hrr : A / 2 ^ (m + 1) % B = r at *
  have hz : A / 2 ^ m = (2 * r + b) + B * (2 * q) := by
    rw [hy, hx, Int.mul_add, Int.mul_left_comm B 2 q]; omega
  have e1 : A / 2 ^ m % B = (2 * r + b) % B := by rw [hz, Int.add_mul_emod_self_left]
  have e2 : A / 2 ^ m / B = (2 * r + b) / B + 2 * q := by rw [hz, Int.add_mul_ediv_left _ _ (by omega)]
  rw [e1, e2]
  by_cases h : B ≤ 2 * r + b
  · rw [if_pos h, if_pos h]
    have f := (Int.ediv_emod_unique (a := 2 * r + b) (b := B) (r := 2 * r + b - B) (q := 1) hB).2 ⟨by omega, by omega, by omega⟩
    rw [f.1, f.2]
    refine ⟨rfl, ?_⟩
    rw [Int.add_mul, Int.pow_succ]; grind
  · rw [if_neg h, if_neg h]
    have f := (Int.ediv_emod_unique (a := 2 * r + b) (b := B) (r := 2 * r + b) (q := 0) hB).2 ⟨by omega, by omega, by omega⟩
    rw [f.1, f.2]
    refine ⟨rfl, ?_⟩
    rw [Int.pow_succ]; grind
theorem dr_top {A B : Int} {m : Nat} (h0 : 0 ≤ A) (h : A < 2 ^ m) : dr A B m = 0 ∧ dq A B m = 0 := by
  unfold dr dq
  rw [Int.ediv_eq_zero_of_lt h0 h]; simp
theorem dr_0 (A B : Int) : dr A B 0 = A % B ∧ dq A B 0 = A / B := by unfold dr dq; simp
/-- the quotient so far is a multiple of the next power, and it has room -/
theorem dq_mult (A B : Int) (m : Nat) : dq A B (m + 1) = 2 * 2 ^ m * (A / 2 ^ (m + 1) / B) := by
  unfold dq; rw [Int.pow_succ]; grind
theorem dq_le {A B : Int} (hA : 0 ≤ A) (hB : 0 < B) (m : Nat) : 0 ≤ dq A B m ∧ dq A B m ≤ A := by
  unfold dq
  have h1 : 0 ≤ A / 2 ^ m := Int.ediv_nonneg hA (Int.le_of_lt (p2_pos m))
  have h2 : 0 ≤ A / 2 ^ m / B := Int.ediv_nonneg h1 (by omega)
  refine ⟨Int.mul_nonneg h2 (Int.le_of_lt (p2_pos m)), ?_⟩
  have h3 : A / 2 ^ m / B ≤ A / 2 ^ m := Int.ediv_le_self _ h1
  have h4 : A / 2 ^ m * 2 ^ m ≤ A := Int.ediv_mul_le _ (by have := p2_pos m; omega)
  have h5 : A / 2 ^ m / B * 2 ^ m ≤ A / 2 ^ m * 2 ^ m := Int.mul_le_mul_of_nonneg_right h3 (Int.le_of_lt (p2_pos m))
  omega

/-- a number's word at a place with room for one bit more -/
theorem setword {O t : Int} (k r : Nat) (h : O = 2 * 2 ^ (64 * k + r) * t) (hr : r < 64) :
    bits .or .u64 (O / 2 ^ (64 * k) % 18446744073709551616) (2 ^ r) = O / 2 ^ (64 * k) % 18446744073709551616 + 2 ^ r ∧ W64 (O / 2 ^ (64 * k) % 18446744073709551616 + 2 ^ r) := by
  obtain ⟨s, hs⟩ : ∃ s, 64 = r + (s + 1) := ⟨63 - r, by omega⟩
  have e : (18446744073709551616 : Int) = (2 * 2 ^ r) * 2 ^ s := by
    have : (18446744073709551616 : Int) = 2 ^ 64 := by decide
    rw [this, hs, Int.pow_add, Int.pow_succ]; grind
  have h1 : O / 2 ^ (64 * k) = (2 * 2 ^ r) * t := by
    have : O = (2 * 2 ^ r) * t * 2 ^ (64 * k) := by rw [h, Int.pow_add]; grind
    rw [this, Int.mul_ediv_cancel _ (by have := p2_pos (64 * k); omega)]
  have hp := p2_pos r
  have h2 : O / 2 ^ (64 * k) % 18446744073709551616 = (2 * 2 ^ r) * (t % 2 ^ s) := by
    rw [h1, e, Int.mul_emod_mul_of_pos _ _ (by omega)]
  rw [h2]
  have h3 := Int.emod_nonneg t (b := 2 ^ s) (by have := p2_pos s; omega)
  have h4 := Int.emod_lt_of_pos t (p2_pos s)
  generalize t % 2 ^ s = v at *
  have h5 : (2 * 2 ^ r) * (v + 1) ≤ 18446744073709551616 := by
    rw [e]; exact Int.mul_le_mul_of_nonneg_left (by omega) (by omega)
  rw [Int.mul_add, Int.mul_one] at h5
  have h6 : 0 ≤ (2 * 2 ^ r) * v := Int.mul_nonneg (by omega) h3
  refine ⟨or_join (i := r + 1) (by omega) h6 (by omega) ?_ (by omega) ?_, ⟨by omega, by omega⟩⟩
  · have : (2 : Int) ^ (r + 1) = 2 * 2 ^ r := by rw [Int.pow_succ, Int.mul_comm]
    rw [this, Int.mul_emod_right]
  · rw [Int.pow_succ]; omega
theorem p2_add (k r : Nat) : (2 : Int) ^ (64 * k + r) = 2 ^ r * 2 ^ (64 * k) := by rw [Int.pow_add, Int.mul_comm]
theorem lo_p2 {r : Nat} (h : r < 64) : lo (2 ^ r) = 2 ^ r := by
  refine lo_w ⟨Int.le_of_lt (p2_pos r), ?_⟩
  have : (2 : Nat) ^ r < 2 ^ 64 := Nat.pow_lt_pow_right (by decide) h
  have h2 : ((2 ^ r : Nat) : Int) < ((2 ^ 64 : Nat) : Int) := by omega
  simpa using h2
theorem wordsplit {O : Int} (h : w4 O = O) : O = q3 O * 6277101735386680763835789423207666416102355444464034512896 + q2 O * 340282366920938463463374607431768211456 + q1 O * 18446744073709551616 + q0 O := by
  have := v4_q O
  rw [h] at this
  unfold v4 val at this
  omega
theorem words_of {O a b c d : Int} (ha : W64 a) (hb : W64 b) (hc : W64 c) (hd : W64 d) (h : O = a * 6277101735386680763835789423207666416102355444464034512896 + b * 340282366920938463463374607431768211456 + c * 18446744073709551616 + d) :
    q3 O = a ∧ q2 O = b ∧ q1 O = c ∧ q0 O = d := by
  have e : O = v4 a b c d := by unfold v4 val; omega
  rw [e]; exact q_v4 ha hb hc hd
theorem q_set_0 {O t : Int} {r : Nat} (h4 : w4 O = O) (h : O = 2 * 2 ^ r * t) (hr : r < 64) :
    q3 (O + 2 ^ r) = q3 O ∧ q2 (O + 2 ^ r) = q2 O ∧ q1 (O + 2 ^ r) = q1 O ∧ q0 (O + 2 ^ r) = bits .or .u64 (q0 O) (lo (2 ^ r)) := by
  have e : O / 2 ^ (64 * 0) % 18446744073709551616 = q0 O := by unfold q0 lo; simp
  have hs := setword 0 r (by simpa using h) hr
  rw [e] at hs
  rw [lo_p2 hr, hs.1]
  exact words_of (W64_q3 _) (W64_q2 _) (W64_q1 _) hs.2 (by have := wordsplit h4; omega)
theorem q_set_1 {O t : Int} {r : Nat} (h4 : w4 O = O) (h : O = 2 * 2 ^ (64 + r) * t) (hr : r < 64) :
    q3 (O + 2 ^ (64 + r)) = q3 O ∧ q2 (O + 2 ^ (64 + r)) = q2 O ∧ q1 (O + 2 ^ (64 + r)) = bits .or .u64 (q1 O) (lo (2 ^ r)) ∧ q0 (O + 2 ^ (64 + r)) = q0 O := by
  have e : O / 2 ^ (64 * 1) % 18446744073709551616 = q1 O := rfl
  have hs := setword 1 r h hr
  rw [e] at hs
  rw [lo_p2 hr, hs.1]
  refine words_of (W64_q3 _) (W64_q2 _) hs.2 (W64_q0 _) ?_
  have := wordsplit h4
  have e2 : (2 : Int) ^ (64 + r) = 2 ^ r * 18446744073709551616 := p2_add 1 r
  rw [e2]; omega
theorem q_set_2 {O t : Int} {r : Nat} (h4 : w4 O = O) (h : O = 2 * 2 ^ (128 + r) * t) (hr : r < 64) :
    q3 (O + 2 ^ (128 + r)) = q3 O ∧ q2 (O + 2 ^ (128 + r)) = bits .or .u64 (q2 O) (lo (2 ^ r)) ∧ q1 (O + 2 ^ (128 + r)) = q1 O ∧ q0 (O + 2 ^ (128 + r)) = q0 O := by
  have e : O / 2 ^ (64 * 2) % 18446744073709551616 = q2 O := by unfold q2 lo hi; omega
  have hs := setword 2 r h hr
  rw [e] at hs
  rw [lo_p2 hr, hs.1]
  refine words_of (W64_q3 _) hs.2 (W64_q1 _) (W64_q0 _) ?_
  have := wordsplit h4
  have e2 : (2 : Int) ^ (128 + r) = 2 ^ r * 340282366920938463463374607431768211456 := p2_add 2 r
  rw [e2]; omega
theorem q_set_3 {O t : Int} {r : Nat} (h4 : w4 O = O) (h : O = 2 * 2 ^ (192 + r) * t) (hr : r < 64) :
    q3 (O + 2 ^ (192 + r)) = bits .or .u64 (q3 O) (lo (2 ^ r)) ∧ q2 (O + 2 ^ (192 + r)) = q2 O ∧ q1 (O + 2 ^ (192 + r)) = q1 O ∧ q0 (O + 2 ^ (192 + r)) = q0 O := by
  have e : O / 2 ^ (64 * 3) % 18446744073709551616 = q3 O := by unfold q3 lo hi; omega
  have hs := setword 3 r h hr
  rw [e] at hs
  rw [lo_p2 hr, hs.1]
  refine words_of hs.2 (W64_q2 _) (W64_q1 _) (W64_q0 _) ?_
  have := wordsplit h4
  have e2 : (2 : Int) ^ (192 + r) = 2 ^ r * 6277101735386680763835789423207666416102355444464034512896 := p2_add 3 r
  rw [e2]; omega
/-- twice a number of two words, and a bit -/
theorem shl1 {h l b : Int} (hh : W64 h) (hl : W64 l) (h0 : 0 ≤ b) (h1 : b ≤ 1) :
    bits .or .u64 (lo (h * 2)) (l / 9223372036854775808) = hi (w2 (2 * val h l + b)) ∧ bits .or .u64 (lo (l * 2)) b = lo (w2 (2 * val h l + b)) := by
  have e1 : bits .or .u64 (lo (h * 2)) (l / 9223372036854775808) = lo (h * 2) + l / 9223372036854775808 := by
    refine or_join (i := 1) (by decide) (W64_lo _).1 (W64_lo _).2 ?_ ?_ ?_
    · unfold lo; omega
    · unfold W64 at hl; omega
    · unfold W64 at hl; omega
  have e2 : bits .or .u64 (lo (l * 2)) b = lo (l * 2) + b := by
    refine or_join (i := 1) (by decide) (W64_lo _).1 (W64_lo _).2 ?_ h0 ?_
    · unfold lo; omega
    · omega
  rw [e1, e2]
  unfold W64 at *
  unfold hi lo w2 val
  refine ⟨by omega, by omega⟩
/-- is it beyond two words? -/
theorem shl1_beyond {h l b : Int} (hh : W64 h) (hl : W64 l) (h0 : 0 ≤ b) (h1 : b ≤ 1) : 0 < h / 9223372036854775808 ↔ 340282366920938463463374607431768211456 ≤ 2 * val h l + b := by
  unfold W64 at *; unfold val; omega
theorem W64_hw2 (x : Int) : W64 (hi (w2 x)) := by unfold W64 hi w2; omega
end Go.Proofs.Ytdphhkbbphfjlaa
