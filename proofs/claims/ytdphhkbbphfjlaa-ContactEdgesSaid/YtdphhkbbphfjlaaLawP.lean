/- Two on a line: what a blow comes to, in plain numbers. -/
import Derived.Test.YtdphhkbbphfjlaaLawA
set_option linter.unusedVariables false
set_option linter.unusedSimpArgs false
namespace Go.Proofs.Ytdphhkbbphfjlaa
open Go.RowKit
theorem divX_ex {a b q : Int} (hb : 0 < b) (h : a * 18446744073709551616 = q * b) (hR : R q) : divX a b = .ok q := by
  unfold divX divM
  rw [if_neg (by omega)]
  have hnb : ng b = false := by unfold ng; simp; omega
  have hab : ab b = b := by unfold ab; rw [if_neg (by omega)]
  rw [hnb, hab]
  by_cases ha : a < 0
  · have hna : ng a = true := by unfold ng; simp; omega
    have haa : ab a = -a := by unfold ab; rw [if_pos ha]
    have e : 2 * (-a * 18446744073709551616) + b = b + 2 * b * (-q) := by
      have : 2 * b * (-q) = -(2 * (q * b)) := by rw [Int.mul_neg, Int.mul_assoc, Int.mul_comm b q]
      omega
    have e2 : b / (2 * b) = 0 := Int.ediv_eq_zero_of_lt (by omega) (by omega)
    rw [hna, haa, e, Int.add_mul_ediv_left _ _ (by omega), e2]
    show rng (-(0 + -q)) = _
    rw [show -(0 + -q) = q by omega]; exact rng_ok hR
  · have hna : ng a = false := by unfold ng; simp; omega
    have haa : ab a = a := by unfold ab; rw [if_neg ha]
    have e : 2 * (a * 18446744073709551616) + b = b + 2 * b * q := by
      have : 2 * b * q = 2 * (q * b) := by rw [Int.mul_assoc, Int.mul_comm b q]
      omega
    have e2 : b / (2 * b) = 0 := Int.ediv_eq_zero_of_lt (by omega) (by omega)
    rw [hna, haa, e, Int.add_mul_ediv_left _ _ (by omega), e2]
    show rng (0 + q) = _
    rw [show 0 + q = q by omega]; exact rng_ok hR
theorem mulX_ex {a b q : Int} (h : a * b = q * 18446744073709551616) (hR : R q) : mulX a b = .ok q := by
  unfold mulX mulM
  by_cases ha : a < 0 <;> by_cases hb : b < 0
  · have e : ng a = true := by unfold ng; simp; omega
    have f : ng b = true := by unfold ng; simp; omega
    rw [e, f, show ab a = -a by unfold ab; rw [if_pos ha], show ab b = -b by unfold ab; rw [if_pos hb], Int.neg_mul_neg, h]
    show rng ((q * 18446744073709551616 + 9223372036854775808) / 18446744073709551616) = _
    rw [show (q * 18446744073709551616 + 9223372036854775808) / 18446744073709551616 = q by omega]; exact rng_ok hR
  · have e : ng a = true := by unfold ng; simp; omega
    have f : ng b = false := by unfold ng; simp; omega
    rw [e, f, show ab a = -a by unfold ab; rw [if_pos ha], show ab b = b by unfold ab; rw [if_neg hb], Int.neg_mul, h]
    show rng (-((-(q * 18446744073709551616) + 9223372036854775808) / 18446744073709551616)) = _
    rw [show -((-(q * 18446744073709551616) + 9223372036854775808) / 18446744073709551616) = q by omega]; exact rng_ok hR
  · have e : ng a = false := by unfold ng; simp; omega
    have f : ng b = true := by unfold ng; simp; omega
    rw [e, f, show ab a = a by unfold ab; rw [if_neg ha], show ab b = -b by unfold ab; rw [if_pos hb], Int.mul_neg, h]
    show rng (-((-(q * 18446744073709551616) + 9223372036854775808) / 18446744073709551616)) = _
    rw [show -((-(q * 18446744073709551616) + 9223372036854775808) / 18446744073709551616) = q by omega]; exact rng_ok hR
  · have e : ng a = false := by unfold ng; simp; omega
    have f : ng b = false := by unfold ng; simp; omega
    rw [e, f, show ab a = a by unfold ab; rw [if_neg ha], show ab b = b by unfold ab; rw [if_neg hb], h]
    show rng ((q * 18446744073709551616 + 9223372036854775808) / 18446744073709551616) = _
    rw [show (q * 18446744073709551616 + 9223372036854775808) / 18446744073709551616 = q by omega]; exact rng_ok hR
theorem addX_ok {a b : Int} (h : R (a + b)) : addX a b = .ok (a + b) := rng_ok h
theorem subX_ok {a b : Int} (h : R (a - b)) : subX a b = .ok (a - b) := rng_ok h
/-- a body of a mass, a radius, a place, a momentum on a line -/
def lineR (m r x p : Int) : BodyI := ⟨val m 0, val r 0, val x 0, 0, val p 0, 0, 0, 0, 0, 0, 0⟩
theorem R_small {x : Int} (h0 : -100000000000000000000000000 ≤ x) (h1 : x ≤ 100000000000000000000000000) : R x := by unfold R; omega
theorem v_0 : val 0 0 = 0 := rfl
theorem mulX_00 : mulX 0 0 = .ok 0 := by kernel_rfl
theorem divX_0 {b : Int} (hb : 0 < b) : divX 0 b = .ok 0 := divX_ex hb (by omega) R_0
/-- how fast -/
theorem line_speed (m r x p v : Int) (hm : 0 < m) (h : p = m * v) (hv : -1000 ≤ v ∧ v ≤ 1000) : speedX (lineR m r x p) = .ok (val v 0, 0) := by
  have e1 : divX (val p 0) (val m 0) = .ok (val v 0) := by
    refine divX_ex (by unfold val; omega) ?_ (R_small (by unfold val; omega) (by unfold val; omega))
    subst h; unfold val; grind
  have e2 : divX 0 (val m 0) = .ok 0 := divX_0 (by unfold val; omega)
  show vecX (divX (val p 0) (val m 0)) (divX 0 (val m 0)) = _
  rw [e1, e2]; rfl
/-- how fast two part -/
theorem line_closing (m r x p v n s y d : Int) (hm : 0 < m) (h : p = m * v) (hv : -1000 ≤ v ∧ v ≤ 1000) (hn : 0 < n) (hd : -1000 ≤ d ∧ d ≤ 1000) (hdv : -1000000 ≤ d * v ∧ d * v ≤ 1000000) :
    closingX (lineR m r x p) (lineR n s y 0) (val d 0) 0 = .ok (-(val (d * v) 0)) := by
  unfold closingX
  rw [line_speed m r x p v hm h hv, line_speed n s y 0 0 hn (by omega) (by omega), bind_ok, bind_ok]
  have e1 : subV (val 0 0) 0 (val v 0) 0 = .ok (-(val v 0), 0) := by
    show vecX (subX (val 0 0) (val v 0)) (subX 0 0) = _
    rw [subX_ok (R_small (by unfold val; omega) (by unfold val; omega)), subX_ok (by decide), v_0, show (0 - val v 0) = -val v 0 by omega]; rfl
  show (subV (val 0 0) 0 (val v 0) 0 >>= _) = _
  rw [e1, bind_ok]
  have e2 : mulX (val d 0) (-val v 0) = .ok (-(val (d * v) 0)) := by
    refine mulX_ex ?_ (R_small (by unfold val; omega) (by unfold val; omega))
    unfold val; grind
  show dotX (val d 0) 0 (-val v 0) 0 = _
  unfold dotX mulV
  rw [e2, mulX_00, vecX_ok]
  show addX (-(val (d * v) 0)) 0 = _
  rw [addX_ok (R_small (by unfold val; omega) (by unfold val; omega)), show -val (d * v) 0 + 0 = -val (d * v) 0 by omega]
theorem line_eq (m x p : Int) : lineB m x p = lineR m 2 x p := rfl
theorem lineX_over (K p q : Int) : overX (lineR K 2 0 p) (lineR K 2 2 q) = .ok true := by kernel_rfl
theorem lineX_sub (K p q : Int) : subV (lineR K 2 2 q).x (lineR K 2 2 q).y (lineR K 2 0 p).x (lineR K 2 0 p).y = .ok (val 2 0, 0) := by kernel_rfl
theorem lineX_dot : dotX (val 2 0) 0 (val 2 0) 0 = .ok (val 4 0) := by kernel_rfl
theorem line_red (K p q : Int) (hK : 1 ≤ K ∧ K ≤ 50) : reducedX (lineR K 2 0 p) (lineR K 2 2 q) = .ok (K * 9223372036854775808) := by
  have hKK : 0 ≤ K * K ∧ K * K ≤ 2500 := by
    constructor
    · exact Int.mul_nonneg (by omega) (by omega)
    · have := Int.mul_le_mul hK.2 hK.2 (by omega) (by omega); omega
  have e1 : mulX (val K 0) (val K 0) = .ok (val (K * K) 0) := mulX_ex (by unfold val; grind) (R_small (by unfold val; omega) (by unfold val; omega))
  have e2 : addX (val K 0) (val K 0) = .ok (val K 0 + val K 0) := addX_ok (R_small (by unfold val; omega) (by unfold val; omega))
  have e3 : divX (val (K * K) 0) (val K 0 + val K 0) = .ok (K * 9223372036854775808) := divX_ex (by unfold val; omega) (by unfold val; grind) (R_small (by omega) (by omega))
  show (mulX (val K 0) (val K 0) >>= fun p => addX (val K 0) (val K 0) >>= fun s => divX p s) = _
  rw [e1, bind_ok, e2, bind_ok, e3]
/-- where k of 2^64 comes back -/
theorem line_hit (K S k c : Int) (hK : 1 ≤ K ∧ K ≤ 50) (hS : 1 ≤ S ∧ S ≤ 50) (hk : one + k = c * 18446744073709551616) (hc : 1 ≤ c ∧ c ≤ 2) :
    blowX (lineR K 2 0 (K * S)) (lineR K 2 2 0) k = .ok (some (c * K * S * 9223372036854775808, 0)) := by
  have hKS : 1 ≤ K * S ∧ K * S ≤ 2500 := by
    constructor
    · have := Int.mul_le_mul hK.1 hS.1 (by omega) (by omega); omega
    · have := Int.mul_le_mul hK.2 hS.2 (by omega) (by omega); omega
  have hcK : 1 ≤ c * K ∧ c * K ≤ 100 := by
    constructor
    · have := Int.mul_le_mul hc.1 hK.1 (by omega) (by omega); omega
    · have := Int.mul_le_mul hc.2 hK.2 (by omega) (by omega); omega
  have hcKS : 1 ≤ c * K * S ∧ c * K * S ≤ 5000 := by
    constructor
    · have := Int.mul_le_mul hcK.1 hS.1 (by omega) (by omega); omega
    · have := Int.mul_le_mul hcK.2 hS.2 (by omega) (by omega); omega
  rw [blow_on (lineX_over K (K * S) 0) (lineX_sub K (K * S) 0) lineX_dot (by decide), line_closing K 2 0 (K * S) S K 2 2 2 (by omega) rfl (by omega) (by omega) (by omega) (by omega), bind_ok, if_neg (by unfold val; omega), line_red K _ _ hK]
  have e1 : addX one k = .ok (one + k) := addX_ok (R_small (by omega) (by omega))
  have e2 : mulX (one + k) (K * 9223372036854775808) = .ok (c * K * 9223372036854775808) := mulX_ex (by rw [hk]; grind) (R_small (by omega) (by omega))
  have e3 : mulX (c * K * 9223372036854775808) (-val (2 * S) 0) = .ok (-(c * K * S * 18446744073709551616)) := mulX_ex (by unfold val; grind) (R_small (by omega) (by omega))
  have e4 : divX (-(c * K * S * 18446744073709551616)) (val 4 0) = .ok (-(c * K * S * 4611686018427387904)) := divX_ex (by decide) (by unfold val; grind) (R_small (by omega) (by omega))
  have e5 : mulX (val 2 0) (-(c * K * S * 4611686018427387904)) = .ok (-(c * K * S * 9223372036854775808)) := mulX_ex (by unfold val; grind) (R_small (by omega) (by omega))
  have e6 : mulX 0 (-(c * K * S * 4611686018427387904)) = .ok 0 := mulX_ex (by omega) R_0
  unfold tailX
  rw [bind_ok, e1, bind_ok, e2, bind_ok, e3]
  unfold jX scaleV
  rw [bind_ok, e4, bind_ok, e5, e6, vecX_ok, bind_ok]
  show Except.ok (some (- -(c * K * S * 9223372036854775808), -0)) = _
  rw [Int.neg_neg]; rfl
theorem line_hit1 (K S : Int) (hK : 1 ≤ K ∧ K ≤ 50) (hS : 1 ≤ S ∧ S ≤ 50) : blowX (lineB K 0 (K * S)) (lineB K 2 0) (val 1 0) = .ok (some (val (K * S) 0, 0)) := by
  rw [line_eq, line_eq, line_hit K S (val 1 0) 2 hK hS (by decide) (by decide), show 2 * K * S * 9223372036854775808 = val (K * S) 0 by unfold val; grind]
theorem line_hit0 (K S : Int) (hK : 1 ≤ K ∧ K ≤ 50) (hS : 1 ≤ S ∧ S ≤ 50) : blowX (lineB K 0 (K * S)) (lineB K 2 0) 0 = .ok (some (K * S * 9223372036854775808, 0)) := by
  rw [line_eq, line_eq, line_hit K S 0 1 hK hS (by decide) (by decide), Int.one_mul]
theorem line_part (K S : Int) (hK : 1 ≤ K ∧ K ≤ 50) (hS : 1 ≤ S ∧ S ≤ 50) : blowX (lineB K 0 (K * -S)) (lineB K 2 0) (val 1 0) = .ok none := by
  rw [line_eq, line_eq, blow_on (lineX_over K (K * -S) 0) (lineX_sub K (K * -S) 0) lineX_dot (by decide), line_closing K 2 0 (K * -S) (-S) K 2 2 2 (by omega) rfl (by omega) (by omega) (by omega) (by omega), bind_ok, if_pos (by unfold val; omega)]
theorem line_half (K S : Int) (hK : 1 ≤ K ∧ K ≤ 50) (hS : 1 ≤ S ∧ S ≤ 50) (h : 1 ≤ K * S ∧ K * S ≤ 2500) : divX (val (K * S) 0) (val 2 0) = .ok (K * S * 9223372036854775808) :=
  divX_ex (by decide) (by unfold val; grind) (R_small (by omega) (by omega))
end Go.Proofs.Ytdphhkbbphfjlaa
