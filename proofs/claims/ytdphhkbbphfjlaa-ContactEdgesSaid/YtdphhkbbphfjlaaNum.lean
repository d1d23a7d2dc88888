/- Plain numbers: bits of words, products of words by halves. -/
import Derived.Test.YtdphhkbbphfjlaaBase
import Derived.Laws.BitsLemmas
import Derived.Laws.Bits64
set_option linter.unusedVariables false
set_option linter.unusedSimpArgs false
namespace Go.Proofs.Ytdphhkbbphfjlaa
open Go.RowKit

theorem wraps_u64 (n : Int) (h₀ : 0 ≤ n) (h₁ : n < 2 ^ 64) : IntKind.u64.wrap n = n := by rw [IntKind.wrap_u64]; omega
theorem uwrap_lo (n : Int) : IntKind.u64.wrap n = lo n := by rw [IntKind.wrap_u64]; rfl
theorem and_mask32 {x : Int} (h : W64 x) : bits .and .u64 x 4294967295 = x % 4294967296 :=
  bits_mask .u64 64 (by decide) wraps_u64 32 (by decide) x h.1 h.2
theorem and_one {x : Int} (h : W64 x) : bits .and .u64 x 1 = x % 2 :=
  bits_mask .u64 64 (by decide) wraps_u64 1 (by decide) x h.1 h.2
theorem or_join {i : Nat} {x y : Int} (hi : i ≤ 64) (hx0 : 0 ≤ x) (hx1 : x < 18446744073709551616) (hx : x % 2 ^ i = 0) (hy0 : 0 ≤ y) (hy : y < 2 ^ i) : bits .or .u64 x y = x + y := by
  refine bits_join .u64 64 (by decide) wraps_u64 i x y hx0 hx hx1 hy0 hy ?_
  have h1 : (2 : Nat) ^ i ≤ 2 ^ 64 := Nat.pow_le_pow_right (by decide) hi
  have h2 : (2 : Int) ^ i ≤ 2 ^ 64 := by exact_mod_cast h1
  omega
theorem or_zero {x : Int} (h : W64 x) : bits .or .u64 x 0 = x := by
  have := or_join (i := 0) (x := x) (y := 0) (by decide) h.1 h.2 (by omega) (by decide) (by decide)
  rw [this]; omega
theorem or_zero' {x : Int} (h : W64 x) : bits .or .u64 0 x = x := by
  have := or_join (i := 64) (x := 0) (y := x) (by decide) (by decide) (by decide) (by decide) h.1 h.2
  rw [this]; omega

/-- A product of two halves of words is small. -/
theorem half_mul {a b : Int} (ha0 : 0 ≤ a) (ha : a < 4294967296) (hb0 : 0 ≤ b) (hb : b < 4294967296) : 0 ≤ a * b ∧ a * b ≤ 18446744065119617025 := by
  refine ⟨Int.mul_nonneg ha0 hb0, ?_⟩
  have h := Int.mul_le_mul (a := a) (b := b) (c := 4294967295) (d := 4294967295) (by omega) (by omega) hb0 (by omega)
  omega
theorem split_mul (x y : Int) : x * y = (x / 4294967296 * (y / 4294967296)) * 18446744073709551616 + (x / 4294967296 * (y % 4294967296) + x % 4294967296 * (y / 4294967296)) * 4294967296 + x % 4294967296 * (y % 4294967296) := by
  have hx := Int.mul_ediv_add_emod x 4294967296
  have hy := Int.mul_ediv_add_emod y 4294967296
  generalize x / 4294967296 = A at *
  generalize x % 4294967296 = a at *
  generalize y / 4294967296 = B at *
  generalize y % 4294967296 = b at *
  subst hx hy
  grind

theorem mul_words {x y : Int} (hx : W64 x) (hy : W64 y) :
    hi (x * y) = x / 4294967296 * (y / 4294967296) + (x / 4294967296 * (y % 4294967296) + x % 4294967296 * (y % 4294967296) / 4294967296) / 4294967296 + ((x / 4294967296 * (y % 4294967296) + x % 4294967296 * (y % 4294967296) / 4294967296) % 4294967296 + x % 4294967296 * (y / 4294967296)) / 4294967296
    ∧ x / 4294967296 * (y % 4294967296) + x % 4294967296 * (y % 4294967296) / 4294967296 < 18446744073709551616
    ∧ (x / 4294967296 * (y % 4294967296) + x % 4294967296 * (y % 4294967296) / 4294967296) % 4294967296 + x % 4294967296 * (y / 4294967296) < 18446744073709551616
    ∧ x / 4294967296 * (y / 4294967296) + (x / 4294967296 * (y % 4294967296) + x % 4294967296 * (y % 4294967296) / 4294967296) / 4294967296 < 18446744073709551616
    ∧ hi (x * y) < 18446744073709551616
    ∧ x / 4294967296 * (y / 4294967296) < 18446744073709551616 ∧ x / 4294967296 * (y % 4294967296) < 18446744073709551616 ∧ x % 4294967296 * (y / 4294967296) < 18446744073709551616 ∧ x % 4294967296 * (y % 4294967296) < 18446744073709551616
    ∧ 0 ≤ x / 4294967296 * (y / 4294967296) ∧ 0 ≤ x / 4294967296 * (y % 4294967296) ∧ 0 ≤ x % 4294967296 * (y / 4294967296) ∧ 0 ≤ x % 4294967296 * (y % 4294967296)
    ∧ lo (x * y) = ((x / 4294967296 * (y % 4294967296) + x % 4294967296 * (y % 4294967296) / 4294967296) % 4294967296 + x % 4294967296 * (y / 4294967296)) % 4294967296 * 4294967296 + x % 4294967296 * (y % 4294967296) % 4294967296 := by
  unfold W64 at hx hy
  have e := split_mul x y
  have h1 := half_mul (a := x / 4294967296) (b := y / 4294967296) (by omega) (by omega) (by omega) (by omega)
  have h2 := half_mul (a := x / 4294967296) (b := y % 4294967296) (by omega) (by omega) (by omega) (by omega)
  have h3 := half_mul (a := x % 4294967296) (b := y / 4294967296) (by omega) (by omega) (by omega) (by omega)
  have h4 := half_mul (a := x % 4294967296) (b := y % 4294967296) (by omega) (by omega) (by omega) (by omega)
  unfold hi lo
  rw [e]
  generalize x / 4294967296 * (y / 4294967296) = t1 at *
  generalize x / 4294967296 * (y % 4294967296) = t2 at *
  generalize x % 4294967296 * (y / 4294967296) = t3 at *
  generalize x % 4294967296 * (y % 4294967296) = t4 at *
  clear e hx hy
  refine ⟨by omega, by omega, by omega, by omega, by omega, by omega, by omega, by omega, by omega, by omega, by omega, by omega, by omega, by omega⟩
theorem W64_hmul {x y : Int} (hx : W64 x) (hy : W64 y) : W64 (hi (x * y)) := by
  obtain ⟨h1, h2, h3, h4, h5, h6, h7, h8, h9, k6, k7, k8, k9, h10⟩ := mul_words hx hy
  refine ⟨?_, h5⟩
  have := Int.mul_nonneg hx.1 hy.1
  unfold hi; omega

theorem W64_hmul1 {x y : Int} (hx : W64 x) (hy : W64 y) : hi (x * y) < 18446744073709551615 := by
  have h := Int.mul_le_mul (a := x) (b := y) (c := 18446744073709551615) (d := 18446744073709551615) (by have := hx.2; omega) (by have := hy.2; omega) hy.1 (by omega)
  unfold hi; omega
theorem mul4_sum {ah al bh bl : Int} (ha : W64 ah) (hal : W64 al) (hb : W64 bh) (hbl : W64 bl) :
    let P := val ah al * val bh bl
    lo (al * bl) = q0 P
    ∧ lo (lo (lo (al * bh) + lo (hi (al * bl))) + lo (ah * bl)) = q1 P
    ∧ lo (lo (hi (al * bh) + hi (lo (al * bh) + lo (hi (al * bl)))) + lo (lo (ah * bh) + lo (lo (hi (ah * bl)) + hi (lo (lo (al * bh) + lo (hi (al * bl))) + lo (ah * bl))))) = q2 P
    ∧ lo (lo (hi (ah * bh) + hi (lo (ah * bh) + lo (lo (hi (ah * bl)) + hi (lo (lo (al * bh) + lo (hi (al * bl))) + lo (ah * bl))))) + hi (lo (hi (al * bh) + hi (lo (al * bh) + lo (hi (al * bl)))) + lo (lo (ah * bh) + lo (lo (hi (ah * bl)) + hi (lo (lo (al * bh) + lo (hi (al * bl))) + lo (ah * bl)))))) = q3 P := by
  intro P
  have hP : P = (ah * bh) * 340282366920938463463374607431768211456 + (al * bh + ah * bl) * 18446744073709551616 + al * bl := by
    show val ah al * val bh bl = _
    unfold val; grind
  have b0 := W64_hmul hal hbl
  have b1 := W64_hmul hal hb
  have b2 := W64_hmul ha hbl
  have b3 := W64_hmul ha hb
  have bP : P ≤ 115792089237316195423570985008687907852589419931798687112530834793049593217025 := by
    have h := Int.mul_le_mul (a := val ah al) (b := val bh bl) (c := 340282366920938463463374607431768211455) (d := 340282366920938463463374607431768211455) (by unfold val; unfold W64 at *; omega) (by unfold val; unfold W64 at *; omega) (by unfold val; unfold W64 at *; omega) (by omega)
    omega
  clear_value P
  rw [lo_w b0, lo_w b2]
  have m0 : al * bl = hi (al * bl) * 18446744073709551616 + lo (al * bl) := (val_hl _).symm
  have m1 : al * bh = hi (al * bh) * 18446744073709551616 + lo (al * bh) := (val_hl _).symm
  have m2 : ah * bl = hi (ah * bl) * 18446744073709551616 + lo (ah * bl) := (val_hl _).symm
  have m3 : ah * bh = hi (ah * bh) * 18446744073709551616 + lo (ah * bh) := (val_hl _).symm
  have n0 := W64_lo (al * bl)
  have n1 := W64_lo (al * bh)
  have n2 := W64_lo (ah * bl)
  have n3 := W64_lo (ah * bh)
  have t1 := W64_hmul1 hal hb
  have t2 := W64_hmul1 ha hbl
  have t3 := W64_hmul1 ha hb
  generalize hi (al * bl) = h0 at *
  generalize lo (al * bl) = l0 at *
  generalize hi (al * bh) = h1 at *
  generalize lo (al * bh) = l1 at *
  generalize hi (ah * bl) = h2 at *
  generalize lo (ah * bl) = l2 at *
  generalize hi (ah * bh) = h3 at *
  generalize lo (ah * bh) = l3 at *
  rw [m0, m1, m2, m3] at hP
  clear m0 m1 m2 m3 ha hal hb hbl
  have c1 := C01_add0 n1 b0
  have e1 : l1 + h0 = hi (l1 + h0) * 18446744073709551616 + lo (l1 + h0) := (val_hl _).symm
  have w1 := W64_lo (l1 + h0)
  generalize hi (l1 + h0) = k1 at *
  generalize lo (l1 + h0) = o1 at *
  have f1 : lo (h1 + k1) = h1 + k1 := lo_w ⟨by have := b1.1; have := c1.1; omega, by have := c1.2; omega⟩
  rw [f1]
  have c2 := C01_add0 w1 n2
  have e2 : o1 + l2 = hi (o1 + l2) * 18446744073709551616 + lo (o1 + l2) := (val_hl _).symm
  have w2 := W64_lo (o1 + l2)
  generalize hi (o1 + l2) = k2 at *
  generalize lo (o1 + l2) = o2 at *
  have f2 : lo (h2 + k2) = h2 + k2 := lo_w ⟨by have := b2.1; have := c2.1; omega, by have := c2.2; omega⟩
  rw [f2]
  have x2 : W64 (h2 + k2) := ⟨by have := b2.1; have := c2.1; omega, by have := c2.2; omega⟩
  have x1 : W64 (h1 + k1) := ⟨by have := b1.1; have := c1.1; omega, by have := c1.2; omega⟩
  have c3 := C01_add0 n3 x2
  have e3 : l3 + (h2 + k2) = hi (l3 + (h2 + k2)) * 18446744073709551616 + lo (l3 + (h2 + k2)) := (val_hl _).symm
  have w3 := W64_lo (l3 + (h2 + k2))
  generalize hi (l3 + (h2 + k2)) = k3 at *
  generalize lo (l3 + (h2 + k2)) = o3 at *
  have c4 := C01_add0 x1 w3
  have e4 : (h1 + k1) + o3 = hi ((h1 + k1) + o3) * 18446744073709551616 + lo ((h1 + k1) + o3) := (val_hl _).symm
  have w4 := W64_lo ((h1 + k1) + o3)
  generalize hi ((h1 + k1) + o3) = k4 at *
  generalize lo ((h1 + k1) + o3) = o4 at *
  have f3 : lo (h3 + k3) = h3 + k3 := lo_w ⟨by have := b3.1; have := c3.1; omega, by have := c3.2; omega⟩
  rw [f3]
  have x3 : W64 (h3 + k3 + k4) := by
    unfold W64 C01 at *
    refine ⟨by omega, by omega⟩
  rw [lo_w x3]
  have e : P = v4 (h3 + k3 + k4) o4 o2 l0 := by
    unfold v4 val
    omega
  obtain ⟨r3, r2, r1, r0⟩ := q_v4 x3 w4 w2 n0
  rw [e]
  exact ⟨r0.symm, r1.symm, r2.symm, r3.symm⟩
end Go.Proofs.Ytdphhkbbphfjlaa
