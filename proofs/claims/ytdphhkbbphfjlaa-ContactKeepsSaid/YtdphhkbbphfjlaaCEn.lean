/- Sums, products, quotients that are exact. Roundings, with their bounds; what a blow adds to the energy of two. What a blow adds to the energy of two. A blow of two bodies of a close world comes to no error, and adds little to the energy. All blows of a close world, one behind the other: no error. All blows of a close world: no error; what stays; who met, in order. -/
import Derived.Test.YtdphhkbbphfjlaaCSpecB
namespace Go.Proofs.Ytdphhkbbphfjlaa
set_option linter.unusedVariables false
set_option linter.unusedSimpArgs false
open Go.RowKit
theorem divX_ex {a b q : Int} (hb : 0 < b) (h : a * 18446744073709551616 = q * b) (hR : R q) : divX a b = .ok q := by
  unfold divX divM
  rw [if_neg (by omega)]
  have hnb : ng b = false := by unfold ng; simp; omega
  have hab : ab b = b := by unfold ab; rw [if_neg (by omega)]
  rw [hnb, hab]
  by_cases ha : a < 0
  · have hna : ng a = true := by unfold ng; simp; omega
    have haa : ab a = -a := by unfold ab; rw [if_pos ha]
    have e : 2 * (-a * 18446744073709551616) + b = b + 2 * b * (-q) := by
      have : 2 * b * (-q) = -(2 * (q * b)) := by rw [Int.mul_neg, Int.mul_assoc, Int.mul_comm b q]
      omega
    have e2 : b / (2 * b) = 0 := Int.ediv_eq_zero_of_lt (by omega) (by omega)
    rw [hna, haa, e, Int.add_mul_ediv_left _ _ (by omega), e2]
    show rng (-(0 + -q)) = _
    rw [show -(0 + -q) = q by omega]; exact rng_ok hR
  · have hna : ng a = false := by unfold ng; simp; omega
    have haa : ab a = a := by unfold ab; rw [if_neg ha]
    have e : 2 * (a * 18446744073709551616) + b = b + 2 * b * q := by
      have : 2 * b * q = 2 * (q * b) := by rw [Int.mul_assoc, Int.mul_comm b q]
      omega
    have e2 : b / (2 * b) = 0 := Int.ediv_eq_zero_of_lt (by omega) (by omega)
    rw [hna, haa, e, Int.add_mul_ediv_left _ _ (by omega), e2]
    show rng (0 + q) = _
    rw [show 0 + q = q by omega]; exact rng_ok hR
theorem mulX_ex {a b q : Int} (h : a * b = q * 18446744073709551616) (hR : R q) : mulX a b = .ok q := by
  unfold mulX mulM
  by_cases ha : a < 0 <;> by_cases hb : b < 0
  · have e : ng a = true := by unfold ng; simp; omega
    have f : ng b = true := by unfold ng; simp; omega
    rw [e, f, show ab a = -a by unfold ab; rw [if_pos ha], show ab b = -b by unfold ab; rw [if_pos hb], Int.neg_mul_neg, h]
    show rng ((q * 18446744073709551616 + 9223372036854775808) / 18446744073709551616) = _
    rw [show (q * 18446744073709551616 + 9223372036854775808) / 18446744073709551616 = q by omega]; exact rng_ok hR
  · have e : ng a = true := by unfold ng; simp; omega
    have f : ng b = false := by unfold ng; simp; omega
    rw [e, f, show ab a = -a by unfold ab; rw [if_pos ha], show ab b = b by unfold ab; rw [if_neg hb], Int.neg_mul, h]
    show rng (-((-(q * 18446744073709551616) + 9223372036854775808) / 18446744073709551616)) = _
    rw [show -((-(q * 18446744073709551616) + 9223372036854775808) / 18446744073709551616) = q by omega]; exact rng_ok hR
  · have e : ng a = false := by unfold ng; simp; omega
    have f : ng b = true := by unfold ng; simp; omega
    rw [e, f, show ab a = a by unfold ab; rw [if_neg ha], show ab b = -b by unfold ab; rw [if_pos hb], Int.mul_neg, h]
    show rng (-((-(q * 18446744073709551616) + 9223372036854775808) / 18446744073709551616)) = _
    rw [show -((-(q * 18446744073709551616) + 9223372036854775808) / 18446744073709551616) = q by omega]; exact rng_ok hR
  · have e : ng a = false := by unfold ng; simp; omega
    have f : ng b = false := by unfold ng; simp; omega
    rw [e, f, show ab a = a by unfold ab; rw [if_neg ha], show ab b = b by unfold ab; rw [if_neg hb], h]
    show rng ((q * 18446744073709551616 + 9223372036854775808) / 18446744073709551616) = _
    rw [show (q * 18446744073709551616 + 9223372036854775808) / 18446744073709551616 = q by omega]; exact rng_ok hR
theorem addX_ok {a b : Int} (h : R (a + b)) : addX a b = .ok (a + b) := rng_ok h
theorem subX_ok {a b : Int} (h : R (a - b)) : subX a b = .ok (a - b) := rng_ok h
/-- a body of a mass, a radius, a place, a momentum on a line -/
def lineR (m r x p : Int) : BodyI := ⟨val m 0, val r 0, val x 0, 0, val p 0, 0, 0, 0, 0, 0, 0⟩
theorem R_small {x : Int} (h0 : -100000000000000000000000000 ≤ x) (h1 : x ≤ 100000000000000000000000000) : R x := by unfold R; omega
theorem v_0 : val 0 0 = 0 := rfl
theorem mulX_00 : mulX 0 0 = .ok 0 := by kernel_rfl
theorem divX_0 {b : Int} (hb : 0 < b) : divX 0 b = .ok 0 := divX_ex hb (by omega) R_0
end Go.Proofs.Ytdphhkbbphfjlaa
namespace Go.Proofs.Ytdphhkbbphfjlaa
set_option linter.unusedVariables false
set_option linter.unusedSimpArgs false
open Go.RowKit
theorem mul_ok {a b B : Int} (h0 : -(B * 18446744073709551616) ≤ a * b) (h1 : a * b ≤ B * 18446744073709551616) (hB : B ≤ 85070591730234615865843651857942052864) :
    ∃ q, mulX a b = .ok q ∧ -18446744073709551616 ≤ 2 * (q * 18446744073709551616 - a * b) ∧ 2 * (q * 18446744073709551616 - a * b) ≤ 18446744073709551616 ∧ -B ≤ q ∧ q ≤ B := by
  unfold mulX mulM
  by_cases ha : a < 0 <;> by_cases hb : b < 0
  · have e : ng a = true := by unfold ng; simp; omega
    have f : ng b = true := by unfold ng; simp; omega
    rw [e, f, show ab a = -a by unfold ab; rw [if_pos ha], show ab b = -b by unfold ab; rw [if_pos hb], Int.neg_mul_neg]
    refine ⟨_, rng_ok ?_, ?_⟩
    · show R ((a * b + 9223372036854775808) / 18446744073709551616); unfold R; omega
    · show _ ∧ _; simp only [sg, bne_self_eq_false, Bool.false_eq_true, if_false]; omega
  · have e : ng a = true := by unfold ng; simp; omega
    have f : ng b = false := by unfold ng; simp; omega
    rw [e, f, show ab a = -a by unfold ab; rw [if_pos ha], show ab b = b by unfold ab; rw [if_neg hb], Int.neg_mul]
    refine ⟨_, rng_ok ?_, ?_⟩
    · show R (-((-(a * b) + 9223372036854775808) / 18446744073709551616)); unfold R; omega
    · show _ ∧ _; simp only [sg, Bool.true_bne, Bool.not_false, if_true]; omega
  · have e : ng a = false := by unfold ng; simp; omega
    have f : ng b = true := by unfold ng; simp; omega
    rw [e, f, show ab a = a by unfold ab; rw [if_neg ha], show ab b = -b by unfold ab; rw [if_pos hb], Int.mul_neg]
    refine ⟨_, rng_ok ?_, ?_⟩
    · show R (-((-(a * b) + 9223372036854775808) / 18446744073709551616)); unfold R; omega
    · show _ ∧ _; simp only [sg, Bool.false_bne, if_true]; omega
  · have e : ng a = false := by unfold ng; simp; omega
    have f : ng b = false := by unfold ng; simp; omega
    rw [e, f, show ab a = a by unfold ab; rw [if_neg ha], show ab b = b by unfold ab; rw [if_neg hb]]
    refine ⟨_, rng_ok ?_, ?_⟩
    · show R ((a * b + 9223372036854775808) / 18446744073709551616); unfold R; omega
    · show _ ∧ _; simp only [sg, bne_self_eq_false, Bool.false_eq_true, if_false]; omega
/-- a quotient of what is not below nought -/
theorem divM_b {a b : Int} (hb : 0 < b) (ha : 0 ≤ a) : -b ≤ 2 * (divM a b * b - a * 18446744073709551616) ∧ 2 * (divM a b * b - a * 18446744073709551616) ≤ b := by
  have hab : ab b = b := by unfold ab; rw [if_neg (by omega)]
  have haa : ab a = a := by unfold ab; rw [if_neg (by omega)]
  unfold divM
  rw [hab, haa]
  have h1 := Int.ediv_mul_le (2 * (a * 18446744073709551616) + b) (show (2 * b) ≠ 0 by omega)
  have h2 := Int.lt_ediv_add_one_mul_self (2 * (a * 18446744073709551616) + b) (show 0 < 2 * b by omega)
  generalize (2 * (a * 18446744073709551616) + b) / (2 * b) = M at *
  have e1 : M * (2 * b) = 2 * (M * b) := by grind
  have e2 : (M + 1) * (2 * b) = 2 * (M * b) + 2 * b := by grind
  omega
theorem div_ok {a b B : Int} (hb : 0 < b) (h0 : -(B * b) ≤ a * 18446744073709551616) (h1 : a * 18446744073709551616 ≤ B * b) (hB : B ≤ 85070591730234615865843651857942052864) :
    ∃ q, divX a b = .ok q ∧ -b ≤ 2 * (q * b - a * 18446744073709551616) ∧ 2 * (q * b - a * 18446744073709551616) ≤ b ∧ -B ≤ q ∧ q ≤ B := by
  have key : ∀ q : Int, -b ≤ 2 * (q * b - a * 18446744073709551616) → 2 * (q * b - a * 18446744073709551616) ≤ b → -B ≤ q ∧ q ≤ B := by
    intro q g0 g1
    constructor
    · by_cases c : -B ≤ q
      · exact c
      · have := Int.mul_le_mul_of_nonneg_right (show q ≤ -B - 1 by omega) (show 0 ≤ b by omega)
        have e : (-B - 1) * b = -(B * b) - b := by grind
        omega
    · by_cases c : q ≤ B
      · exact c
      · have := Int.mul_le_mul_of_nonneg_right (show B + 1 ≤ q by omega) (show 0 ≤ b by omega)
        have e : (B + 1) * b = B * b + b := by grind
        omega
  have hnb : ng b = false := by unfold ng; simp; omega
  unfold divX
  rw [if_neg (by omega), hnb]
  by_cases ha : a < 0
  · have hna : ng a = true := by unfold ng; simp; omega
    have hd : divM a b = divM (-a) b := by unfold divM; rw [show ab a = ab (-a) by unfold ab; split <;> split <;> omega]
    have hm := divM_b hb (show 0 ≤ -a by omega)
    rw [hna, hd]
    generalize divM (-a) b = M at *
    have e : -M * b = -(M * b) := by grind
    have e' : -a * 18446744073709551616 = -(a * 18446744073709551616) := by grind
    have hk := key (-M) (by omega) (by omega)
    exact ⟨-M, rng_ok (by show R (-M); unfold R; omega), by omega, by omega, hk.1, hk.2⟩
  · have hna : ng a = false := by unfold ng; simp; omega
    have hm := divM_b hb (show 0 ≤ a by omega)
    rw [hna]
    generalize divM a b = M at *
    have hk := key M (by omega) (by omega)
    exact ⟨M, rng_ok (by show R M; unfold R; omega), by omega, by omega, hk.1, hk.2⟩
/-- products of what is bounded -/
theorem prod_b {a b A B : Int} (ha0 : -A ≤ a) (ha1 : a ≤ A) (hb0 : -B ≤ b) (hb1 : b ≤ B) : -(A * B) ≤ a * b ∧ a * b ≤ A * B := by
  have hA : 0 ≤ A := by omega
  have hB : 0 ≤ B := by omega
  have h1 : (A - a) * (B - b) ≥ 0 := Int.mul_nonneg (by omega) (by omega)
  have h2 : (A + a) * (B + b) ≥ 0 := Int.mul_nonneg (by omega) (by omega)
  have h3 : (A - a) * (B + b) ≥ 0 := Int.mul_nonneg (by omega) (by omega)
  have h4 : (A + a) * (B - b) ≥ 0 := Int.mul_nonneg (by omega) (by omega)
  have e1 : (A - a) * (B - b) = A * B - A * b - a * B + a * b := by grind
  have e2 : (A + a) * (B + b) = A * B + A * b + a * B + a * b := by grind
  have e3 : (A - a) * (B + b) = A * B + A * b - a * B - a * b := by grind
  have e4 : (A + a) * (B - b) = A * B - A * b + a * B - a * b := by grind
  omega
/-- T, and what is behind: the two masses' weights -/
theorem weights {ma mb wa wb K2 r k1 : Int} (hma : 1 ≤ ma ∧ ma ≤ 9) (hmb : 1 ≤ mb ∧ mb ≤ 9) (hwa : wa * ma = 2520) (hwb : wb * mb = 2520) (hk1 : 0 ≤ k1 ∧ 4 * k1 ≤ 129127208515966861312)
    (hr0 : 0 ≤ r) (hr : 2 * (r * (ma + mb) - ma * mb * 18446744073709551616) ≤ ma + mb) (hk2 : 2 * (K2 * 18446744073709551616 - k1 * r) ≤ 18446744073709551616) :
    8 * ((wa + wb) * K2) ≤ 650801130920472981012480 + 55440 := by
  have hw1 : 280 ≤ wa ∧ wa ≤ 2520 := by
    constructor
    · by_cases c : 280 ≤ wa
      · exact c
      · have := Int.mul_le_mul_of_nonneg_right (show wa ≤ 279 by omega) (show 0 ≤ ma by omega); omega
    · by_cases c : wa ≤ 2520
      · exact c
      · have := Int.mul_le_mul (show 2521 ≤ wa by omega) hma.1 (by omega) (by omega); omega
  have hw2 : 280 ≤ wb ∧ wb ≤ 2520 := by
    constructor
    · by_cases c : 280 ≤ wb
      · exact c
      · have := Int.mul_le_mul_of_nonneg_right (show wb ≤ 279 by omega) (show 0 ≤ mb by omega); omega
    · by_cases c : wb ≤ 2520
      · exact c
      · have := Int.mul_le_mul (show 2521 ≤ wb by omega) hmb.1 (by omega) (by omega); omega
  have s1 : (wa + wb) * (ma * mb) = 2520 * (ma + mb) := by grind
  have hmm : 1 ≤ ma * mb := by have := Int.mul_le_mul hma.1 hmb.1 (by omega) (by omega); omega
  -- 4 (ma+mb) k1 r <= 7T r (ma+mb)
  have p1 : 4 * k1 * (r * (ma + mb)) ≤ 129127208515966861312 * (r * (ma + mb)) := Int.mul_le_mul_of_nonneg_right hk1.2 (Int.mul_nonneg hr0 (by omega))
  have p2 : (ma + mb) * (2 * (K2 * 18446744073709551616 - k1 * r)) ≤ (ma + mb) * 18446744073709551616 := Int.mul_le_mul_of_nonneg_left hk2 (by omega)
  have p3 : (ma + mb) * (8 * K2) ≤ 14 * (ma * mb) * 18446744073709551616 + 11 * (ma + mb) := by
    have e1 : (ma + mb) * (2 * (K2 * 18446744073709551616 - k1 * r)) = 2 * ((ma + mb) * K2) * 18446744073709551616 - 2 * (k1 * (r * (ma + mb))) := by grind
    have e2 : 4 * k1 * (r * (ma + mb)) = 4 * (k1 * (r * (ma + mb))) := by grind
    have e3 : (ma + mb) * (8 * K2) = 8 * ((ma + mb) * K2) := by grind
    have e4 : 14 * (ma * mb) * 18446744073709551616 = 14 * 18446744073709551616 * (ma * mb) := by grind
    have e5 : ma * mb * 18446744073709551616 = 18446744073709551616 * (ma * mb) := by grind
    rw [e1, Int.mul_comm (ma + mb) 18446744073709551616] at p2
    rw [e2] at p1
    rw [e5] at hr
    rw [e3, e4]
    generalize (ma + mb) * K2 = X at *
    generalize k1 * (r * (ma + mb)) = Y at *
    generalize r * (ma + mb) = Z at *
    generalize ma * mb = M at *
    omega
  have p4 : 8 * ((wa + wb) * K2) * (ma * mb) ≤ (650801130920472981012480 + 55440) * (ma * mb) := by
    have e1 : 8 * ((wa + wb) * K2) * (ma * mb) = 2520 * ((ma + mb) * (8 * K2)) := by grind
    have e2 : (ma + mb) * 27720 ≤ 55440 * (ma * mb) := by
      have g1 : ma * 1 ≤ ma * mb := Int.mul_le_mul_of_nonneg_left hmb.1 (by omega)
      have g2 : 1 * mb ≤ ma * mb := Int.mul_le_mul_of_nonneg_right hma.1 (by omega)
      omega
    rw [e1]
    generalize (ma + mb) * (8 * K2) = X at *
    generalize ma * mb = M at *
    omega
  exact Int.le_of_mul_le_mul_right p4 (by omega)
end Go.Proofs.Ytdphhkbbphfjlaa
namespace Go.Proofs.Ytdphhkbbphfjlaa
set_option linter.unusedVariables false
set_option linter.unusedSimpArgs false
open Go.RowKit
/-- the energy's change, times T squared -/
theorem en_ident {T Jx Jy dx dy K ex ey L N dlx dly ux uy w Wx Wy : Int} (hx : T * Jx = dx * K + ex) (hy : T * Jy = dy * K + ey) (hL : dx * dx + dy * dy = L * T)
    (hN : dx * ux + dy * uy = -N) (hWx : Wx = 2520 * ux + dlx) (hWy : Wy = 2520 * uy + dly) :
    8 * (T * T * (w * (Jx * Jx + Jy * Jy) + 2 * (Jx * Wx + Jy * Wy))) =
      T * (K * (8 * (w * (K * L)))) + 16 * (w * (K * (dx * ex + dy * ey))) + 8 * (w * (ex * ex + ey * ey)) - 40320 * (T * (K * N)) + 16 * (T * (K * (dx * dlx + dy * dly))) + 16 * (T * (ex * Wx + ey * Wy)) := by
  have h1 : T * T * (Jx * Jx + Jy * Jy) = (dx * K + ex) * (dx * K + ex) + (dy * K + ey) * (dy * K + ey) := by rw [← hx, ← hy]; grind
  have h2 : T * (Jx * Wx + Jy * Wy) = (dx * K + ex) * Wx + (dy * K + ey) * Wy := by rw [← hx, ← hy]; grind
  have h3 : (dx * K + ex) * (dx * K + ex) + (dy * K + ey) * (dy * K + ey) = K * K * (dx * dx + dy * dy) + 2 * (K * (dx * ex + dy * ey)) + (ex * ex + ey * ey) := by grind
  have h4 : (dx * K + ex) * Wx + (dy * K + ey) * Wy = K * (2520 * (dx * ux + dy * uy) + (dx * dlx + dy * dly)) + (ex * Wx + ey * Wy) := by rw [hWx, hWy]; grind
  rw [h3, hL] at h1
  rw [h4, hN] at h2
  have h5 : 8 * (T * T * (w * (Jx * Jx + Jy * Jy) + 2 * (Jx * Wx + Jy * Wy))) = 8 * (w * (T * T * (Jx * Jx + Jy * Jy))) + 16 * (T * (T * (Jx * Wx + Jy * Wy))) := by grind
  rw [h5, h1, h2]
  grind
theorem mul_mono {x y z : Int} (h : x ≤ y) (hz : 0 ≤ z) : z * x ≤ z * y := Int.mul_le_mul_of_nonneg_left h hz
/-- no blow adds more than a little -/
theorem energy {ma mb wa wb pax pay pbx pby vax vay vbx vby dx dy L v r k1 k2 k3 k4 jx jy : Int} (hma : 1 ≤ ma ∧ ma ≤ 9) (hmb : 1 ≤ mb ∧ mb ≤ 9) (hwa : wa * ma = 2520) (hwb : wb * mb = 2520)
    (hwa1 : 280 ≤ wa ∧ wa ≤ 2520) (hwb1 : 280 ≤ wb ∧ wb ≤ 2520)
    (e1 : -ma ≤ 2 * (vax * ma - pax) ∧ 2 * (vax * ma - pax) ≤ ma) (e2 : -ma ≤ 2 * (vay * ma - pay) ∧ 2 * (vay * ma - pay) ≤ ma)
    (e3 : -mb ≤ 2 * (vbx * mb - pbx) ∧ 2 * (vbx * mb - pbx) ≤ mb) (e4 : -mb ≤ 2 * (vby * mb - pby) ∧ 2 * (vby * mb - pby) ≤ mb)
    (bx : -4722366482869645213696 ≤ vbx - vax ∧ vbx - vax ≤ 4722366482869645213696) (bY : -4722366482869645213696 ≤ vby - vay ∧ vby - vay ≤ 4722366482869645213696)
    (hdx : -147573952589676412928 ≤ dx ∧ dx ≤ 147573952589676412928) (hdy : -147573952589676412928 ≤ dy ∧ dy ≤ 147573952589676412928)
    (hL : dx * dx + dy * dy = L * 18446744073709551616) (hL0 : 0 < L) (hL1 : L ≤ 2361183241434822606848)
    (hv : -36893488147419103232 ≤ 2 * (v * 18446744073709551616 - (dx * (vbx - vax) + dy * (vby - vay))) ∧ 2 * (v * 18446744073709551616 - (dx * (vbx - vax) + dy * (vby - vay))) ≤ 36893488147419103232) (hv0 : v < 0)
    (hr0 : 0 ≤ r) (hr : 2 * (r * (ma + mb) - ma * mb * 18446744073709551616) ≤ ma + mb) (hk1 : 0 ≤ k1 ∧ 4 * k1 ≤ 129127208515966861312)
    (hk2 : 2 * (k2 * 18446744073709551616 - k1 * r) ≤ 18446744073709551616) (hk20 : 0 ≤ k2)
    (hk3 : -18446744073709551616 ≤ 2 * (k3 * 18446744073709551616 - k2 * v) ∧ 2 * (k3 * 18446744073709551616 - k2 * v) ≤ 18446744073709551616)
    (hk4 : -L ≤ 2 * (k4 * L - k3 * 18446744073709551616) ∧ 2 * (k4 * L - k3 * 18446744073709551616) ≤ L) (hk4b : -5070602400912917605986812821504 ≤ k4)
    (hjx : -18446744073709551616 ≤ 2 * (jx * 18446744073709551616 - dx * k4) ∧ 2 * (jx * 18446744073709551616 - dx * k4) ≤ 18446744073709551616)
    (hjy : -18446744073709551616 ≤ 2 * (jy * 18446744073709551616 - dy * k4) ∧ 2 * (jy * 18446744073709551616 - dy * k4) ≤ 18446744073709551616) :
    wb * ((pbx - jx) * (pbx - jx) + (pby - jy) * (pby - jy)) + wa * ((pax + jx) * (pax + jx) + (pay + jy) * (pay + jy)) ≤ wb * (pbx * pbx + pby * pby) + wa * (pax * pax + pay * pay) + 2658455991569831745807614120560689152 := by
  have hwt := weights hma hmb hwa hwb hk1 hr0 hr hk2
  -- signs
  have q1 : k2 * v ≤ 0 := by have := mul_mono (show v ≤ 0 by omega) hk20; omega
  have hk30 : k3 ≤ 0 := by omega
  have hk40 : k4 ≤ 0 := by
    by_cases c : k4 ≤ 0
    · exact c
    · have := Int.mul_le_mul_of_nonneg_right (show 1 ≤ k4 by omega) (show 0 ≤ L by omega); omega
  obtain ⟨K, hK⟩ : ∃ K, k4 = -K := ⟨-k4, by omega⟩
  obtain ⟨V, hV⟩ : ∃ V, v = -V := ⟨-v, by omega⟩
  obtain ⟨N, hN⟩ : ∃ N, dx * (vbx - vax) + dy * (vby - vay) = -N := ⟨-(dx * (vbx - vax) + dy * (vby - vay)), by omega⟩
  obtain ⟨w, hw⟩ : ∃ w, wa + wb = w := ⟨_, rfl⟩
  have hwb2 : 560 ≤ w ∧ w ≤ 5040 := by omega
  rw [hw] at hwt
  subst hK hV
  rw [hN] at hv
  have hK0 : 0 ≤ K := by omega
  have hV1 : 1 ≤ V := by omega
  have hVN : V * 18446744073709551616 ≤ N + 18446744073709551616 := by omega
  have hN0 : 0 ≤ N := by omega
  -- A
  have hA : 2 * (K * L) ≤ 2 * (k2 * V) + 18446744073709551616 + L := by
    have x1 : k2 * -V = -(k2 * V) := by grind
    have x2 : -K * L = -(K * L) := by grind
    rw [x1] at hk3; rw [x2] at hk4; omega
  -- C
  have hC : 8 * (w * (K * L)) ≤ 35281 * N + 49806208999015789363200000 := by
    have c1 : w * (2 * (K * L)) ≤ w * (2 * (k2 * V) + 18446744073709551616 + L) := mul_mono hA (by omega)
    have c2 : V * (8 * (w * k2)) ≤ V * (650801130920472981012480 + 55440) := mul_mono hwt (by omega)
    have c3 : w * L ≤ 5040 * 2361183241434822606848 := by
      have := Int.mul_le_mul hwb2.2 hL1 (by omega) (by omega); omega
    have d1 : w * (2 * (K * L)) = 2 * (w * (K * L)) := by grind
    have d2 : w * (2 * (k2 * V) + 18446744073709551616 + L) = 2 * (w * (k2 * V)) + 18446744073709551616 * w + w * L := by grind
    have d3 : V * (8 * (w * k2)) = 8 * (w * (k2 * V)) := by grind
    rw [d1, d2] at c1
    rw [d3] at c2
    generalize w * (K * L) = X at *
    generalize w * (k2 * V) = Y at *
    generalize w * L = Z at *
    omega
  -- the small parts
  obtain ⟨ex, hex⟩ : ∃ ex, 18446744073709551616 * -jx = dx * K + ex := ⟨18446744073709551616 * -jx - dx * K, by omega⟩
  obtain ⟨ey, hey⟩ : ∃ ey, 18446744073709551616 * -jy = dy * K + ey := ⟨18446744073709551616 * -jy - dy * K, by omega⟩
  have x3 : dx * -K = -(dx * K) := by grind
  have x4 : dy * -K = -(dy * K) := by grind
  rw [x3] at hjx
  rw [x4] at hjy
  have hexb : -9223372036854775808 ≤ ex ∧ ex ≤ 9223372036854775808 := by omega
  have heyb : -9223372036854775808 ≤ ey ∧ ey ≤ 9223372036854775808 := by omega
  obtain ⟨lx, hlx⟩ : ∃ l, wb * pbx - wa * pax = 2520 * (vbx - vax) + l := ⟨wb * pbx - wa * pax - 2520 * (vbx - vax), by omega⟩
  obtain ⟨ly, hly⟩ : ∃ l, wb * pby - wa * pay = 2520 * (vby - vay) + l := ⟨wb * pby - wa * pay - 2520 * (vby - vay), by omega⟩
  have small : ∀ {m q p u : Int}, q * m = 2520 → 0 ≤ q → -m ≤ 2 * (u * m - p) → 2 * (u * m - p) ≤ m → -2520 ≤ 2 * (2520 * u - q * p) ∧ 2 * (2520 * u - q * p) ≤ 2520 := by
    intro m q p u h h0 h1 h2
    have g1 := mul_mono h1 h0
    have g2 := mul_mono h2 h0
    have g3 : q * (2 * (u * m - p)) = 2 * (u * (q * m) - q * p) := by grind
    have g4 : q * -m = -(q * m) := by grind
    rw [g3, h] at g1 g2
    rw [g4, h] at g1
    omega
  have s1 := small hwa (by omega) e1.1 e1.2
  have s2 := small hwa (by omega) e2.1 e2.2
  have s3 := small hwb (by omega) e3.1 e3.2
  have s4 := small hwb (by omega) e4.1 e4.2
  have hlxb : -2520 ≤ lx ∧ lx ≤ 2520 := by omega
  have hlyb : -2520 ≤ ly ∧ ly ≤ 2520 := by omega
  have id := en_ident (w := w) hex hey hL hN hlx hly
  -- bounds of the parts
  have b1 := prod_b hdx.1 hdx.2 hexb.1 hexb.2
  have b2 := prod_b hdy.1 hdy.2 heyb.1 heyb.2
  have b3 := prod_b hexb.1 hexb.2 hexb.1 hexb.2
  have b4 := prod_b heyb.1 heyb.2 heyb.1 heyb.2
  have b5 := prod_b hdx.1 hdx.2 hlxb.1 hlxb.2
  have b6 := prod_b hdy.1 hdy.2 hlyb.1 hlyb.2
  have b7 := prod_b (B := 11900363536831505938516440) hexb.1 hexb.2 (show -11900363536831505938516440 ≤ wb * pbx - wa * pax by omega) (by omega)
  have b8 := prod_b (B := 11900363536831505938516440) heyb.1 heyb.2 (show -11900363536831505938516440 ≤ wb * pby - wa * pay by omega) (by omega)
  have hKb : K ≤ 5070602400912917605986812821504 := by omega
  generalize hS1 : dx * ex + dy * ey = S1 at *
  generalize hS2 : ex * ex + ey * ey = S2 at *
  generalize hS3 : dx * lx + dy * ly = S3 at *
  generalize hS4 : ex * (wb * pbx - wa * pax) + ey * (wb * pby - wa * pay) = S4 at *
  have t1 : K * (8 * (w * (K * L))) ≤ K * (35281 * N + 49806208999015789363200000) := mul_mono hC hK0
  have t2 : w * (K * S1) ≤ 5040 * (K * 2722258935367507707706996859454145691648) := by
    have u1 : K * S1 ≤ K * 2722258935367507707706996859454145691648 := mul_mono (by omega) hK0
    have u2 : w * (K * S1) ≤ w * (K * 2722258935367507707706996859454145691648) := mul_mono u1 (by omega)
    have u3 : (K * 2722258935367507707706996859454145691648) * w ≤ (K * 2722258935367507707706996859454145691648) * 5040 := mul_mono hwb2.2 (by omega)
    have u4 : w * (K * 2722258935367507707706996859454145691648) = (K * 2722258935367507707706996859454145691648) * w := by grind
    omega
  have t3 : w * S2 ≤ 5040 * 170141183460469231731687303715884105728 := by
    have u1 : w * S2 ≤ w * 170141183460469231731687303715884105728 := mul_mono (by omega) (by omega)
    omega
  have t4 : K * S3 ≤ K * 743772721051969121157120 := mul_mono (by omega) hK0
  have t5 : 0 ≤ K * N := Int.mul_nonneg hK0 hN0
  have t6 : K * (35281 * N + 49806208999015789363200000) = 35281 * (K * N) + 49806208999015789363200000 * K := by grind
  rw [t6] at t1
  have fin : (-jx * -jx + -jy * -jy) * w + 2 * (-jx * (wb * pbx - wa * pax) + -jy * (wb * pby - wa * pay)) ≤ 2658455991569831745807614120560689152 := by
    have u5 : w * (-jx * -jx + -jy * -jy) = (-jx * -jx + -jy * -jy) * w := by grind
    rw [u5] at id
    generalize (-jx * -jx + -jy * -jy) * w + 2 * (-jx * (wb * pbx - wa * pax) + -jy * (wb * pby - wa * pay)) = D at *
    generalize K * (8 * (w * (K * L))) = X1 at *
    generalize w * (K * S1) = X2 at *
    generalize w * S2 = X3 at *
    generalize K * N = X4 at *
    generalize K * S3 = X5 at *
    omega
  have fe : wb * ((pbx - jx) * (pbx - jx) + (pby - jy) * (pby - jy)) + wa * ((pax + jx) * (pax + jx) + (pay + jy) * (pay + jy)) = wb * (pbx * pbx + pby * pby) + wa * (pax * pax + pay * pay) + ((-jx * -jx + -jy * -jy) * w + 2 * (-jx * (wb * pbx - wa * pax) + -jy * (wb * pby - wa * pay))) := by
    rw [← hw]; grind
  rw [fe]
  generalize (-jx * -jx + -jy * -jy) * w + 2 * (-jx * (wb * pbx - wa * pax) + -jy * (wb * pby - wa * pay)) = D at *
  omega
end Go.Proofs.Ytdphhkbbphfjlaa
namespace Go.Proofs.Ytdphhkbbphfjlaa
set_option linter.unusedVariables false
set_option linter.unusedSimpArgs false
open Go.RowKit
/-- a body of a close world: its mass m, its place in steps of 2^-24 -/
structure Fine (b : BodyI) (m x y : Int) : Prop where
  m1 : 1 ≤ m
  m9 : m ≤ 9
  mass : b.mass = val m 0
  xe : b.x = 1099511627776 * x
  ye : b.y = 1099511627776 * y
  bx : -67108864 ≤ x ∧ x ≤ 67108864
  bY : -67108864 ≤ y ∧ y ≤ 67108864
  radius : 0 ≤ b.radius ∧ b.radius ≤ 55340232221128654848
/-- no momentum is more than 64 -/
structure Slow64 (b : BodyI) : Prop where
  px : -1180591620717411303424 ≤ b.px ∧ b.px ≤ 1180591620717411303424
  py : -1180591620717411303424 ≤ b.py ∧ b.py ≤ 1180591620717411303424
theorem fine_speed {b : BodyI} {m x y : Int} (f : Fine b m x y) (s : Slow64 b) : ∃ vx vy, speedX b = .ok (vx, vy) ∧ (-m ≤ 2 * (vx * m - b.px) ∧ 2 * (vx * m - b.px) ≤ m) ∧ (-m ≤ 2 * (vy * m - b.py) ∧ 2 * (vy * m - b.py) ≤ m) ∧
    (-1180591620717411303424 ≤ vx ∧ vx ≤ 1180591620717411303424) ∧ (-1180591620717411303424 ≤ vy ∧ vy ≤ 1180591620717411303424) := by
  have hm : val m 0 = m * 18446744073709551616 := by unfold val; omega
  have key : ∀ p : Int, -1180591620717411303424 ≤ p → p ≤ 1180591620717411303424 → ∃ v, divX p (val m 0) = .ok v ∧ (-m ≤ 2 * (v * m - p) ∧ 2 * (v * m - p) ≤ m) ∧ (-1180591620717411303424 ≤ v ∧ v ≤ 1180591620717411303424) := by
    intro p h0 h1
    have hb : 1180591620717411303424 * 18446744073709551616 ≤ 1180591620717411303424 * (val m 0) := by have := f.m1; rw [hm]; omega
    obtain ⟨q, hq, g0, g1, g2, g3⟩ := div_ok (a := p) (b := val m 0) (B := 1180591620717411303424) (by have := f.m1; rw [hm]; omega) (by omega) (by omega) (by decide)
    refine ⟨q, hq, ?_, g2, g3⟩
    have e : q * val m 0 = q * m * 18446744073709551616 := by rw [hm]; grind
    rw [e, hm] at g0 g1
    generalize q * m = z at *
    omega
  obtain ⟨vx, h1, r1, r2⟩ := key b.px s.px.1 s.px.2
  obtain ⟨vy, h2, r3, r4⟩ := key b.py s.py.1 s.py.2
  refine ⟨vx, vy, ?_, r1, r3, r2, r4⟩
  unfold speedX overV
  rw [f.mass, h1, h2]; rfl
theorem R_mid {x : Int} (h0 : -85070591730234615865843651857942052864 ≤ x) (h1 : x ≤ 85070591730234615865843651857942052864) : R x := by unfold R; omega
theorem fine_over {a b : BodyI} {ma xa ya mb xb yb : Int} (fa : Fine a ma xa ya) (fb : Fine b mb xb yb) :
    subV b.x b.y a.x a.y = .ok (1099511627776 * (xb - xa), 1099511627776 * (yb - ya)) ∧
    dotX (1099511627776 * (xb - xa)) (1099511627776 * (yb - ya)) (1099511627776 * (xb - xa)) (1099511627776 * (yb - ya)) = .ok (65536 * ((xb - xa) * (xb - xa) + (yb - ya) * (yb - ya))) ∧
    ∃ o, overX a b = .ok o := by
  have hx := fa.bx; have hy := fa.bY; have hx' := fb.bx; have hy' := fb.bY
  have px := prod_b (a := xb - xa) (b := xb - xa) (A := 134217728) (B := 134217728) (by omega) (by omega) (by omega) (by omega)
  have py := prod_b (a := yb - ya) (b := yb - ya) (A := 134217728) (B := 134217728) (by omega) (by omega) (by omega) (by omega)
  have e1 : subV b.x b.y a.x a.y = .ok (1099511627776 * (xb - xa), 1099511627776 * (yb - ya)) := by
    show vecX (subX b.x a.x) (subX b.y a.y) = _
    rw [fa.xe, fa.ye, fb.xe, fb.ye, subX_ok (R_mid (by omega) (by omega)), subX_ok (R_mid (by omega) (by omega)), ← Int.mul_sub, ← Int.mul_sub]; rfl
  have e2 : dotX (1099511627776 * (xb - xa)) (1099511627776 * (yb - ya)) (1099511627776 * (xb - xa)) (1099511627776 * (yb - ya)) = .ok (65536 * ((xb - xa) * (xb - xa) + (yb - ya) * (yb - ya))) := by
    have s1 : mulX (1099511627776 * (xb - xa)) (1099511627776 * (xb - xa)) = .ok (65536 * ((xb - xa) * (xb - xa))) := mulX_ex (by grind) (R_mid (by omega) (by omega))
    have s2 : mulX (1099511627776 * (yb - ya)) (1099511627776 * (yb - ya)) = .ok (65536 * ((yb - ya) * (yb - ya))) := mulX_ex (by grind) (R_mid (by omega) (by omega))
    unfold dotX mulV
    rw [s1, s2, vecX_ok]
    show addX _ _ = _
    rw [addX_ok (R_mid (by omega) (by omega)), ← Int.mul_add]
  refine ⟨e1, e2, ?_⟩
  have ra := fa.radius; have rb := fb.radius
  have pr := prod_b (a := a.radius + b.radius) (b := a.radius + b.radius) (A := 110680464442257309696) (B := 110680464442257309696) (by omega) (by omega) (by omega) (by omega)
  obtain ⟨q, hq, _⟩ := mul_ok (a := a.radius + b.radius) (b := a.radius + b.radius) (B := 18446744073709551616 * 36) (by omega) (by omega) (by decide)
  unfold overX
  rw [e1, bind_ok]
  show ∃ o, (dotX (1099511627776 * (xb - xa)) (1099511627776 * (yb - ya)) (1099511627776 * (xb - xa)) (1099511627776 * (yb - ya)) >>= fun l => addX a.radius b.radius >>= fun s => mulX s s >>= fun m => pure (decide (l < m))) = .ok o
  rw [e2, bind_ok, addX_ok (R_mid (by omega) (by omega)), bind_ok, hq, bind_ok]
  exact ⟨_, rfl⟩
theorem ab_sq (x : Int) : ab x ≤ x * x := by
  unfold ab
  by_cases h : x < 0
  · rw [if_pos h]
    have := Int.mul_le_mul_of_nonneg_right (show 1 ≤ -x by omega) (show 0 ≤ -x by omega)
    have e : -x * -x = x * x := by grind
    omega
  · rw [if_neg h]
    by_cases h0 : x = 0
    · subst h0; decide
    · have := Int.mul_le_mul_of_nonneg_right (show 1 ≤ x by omega) (show 0 ≤ x by omega); omega
theorem mul_ab {a b B : Int} (h0 : -B ≤ b) (h1 : b ≤ B) : -(ab a * B) ≤ a * b ∧ a * b ≤ ab a * B := by
  have h := prod_b (a := a) (b := b) (A := ab a) (B := B) (by unfold ab; split <;> omega) (by unfold ab; split <;> omega) h0 h1
  exact h
theorem blow_fine {a b : BodyI} {k ma mb xa ya xb yb wa wb : Int} (fa : Fine a ma xa ya) (fb : Fine b mb xb yb) (sa : Slow64 a) (sb : Slow64 b) (hk : 0 ≤ k ∧ 4 * k ≤ 55340232221128654848)
    (hwa : wa * ma = 2520) (hwb : wb * mb = 2520) (hwa1 : 280 ≤ wa ∧ wa ≤ 2520) (hwb1 : 280 ≤ wb ∧ wb ≤ 2520) :
    blowX a b k = .ok none ∨ ∃ J : Int × Int, blowX a b k = .ok (some J) ∧ (-40564819207303340847894502572032 ≤ J.1 ∧ J.1 ≤ 40564819207303340847894502572032) ∧ (-40564819207303340847894502572032 ≤ J.2 ∧ J.2 ≤ 40564819207303340847894502572032) ∧
      wb * ((b.px + J.1) * (b.px + J.1) + (b.py + J.2) * (b.py + J.2)) + wa * ((a.px - J.1) * (a.px - J.1) + (a.py - J.2) * (a.py - J.2)) ≤ wb * (b.px * b.px + b.py * b.py) + wa * (a.px * a.px + a.py * a.py) + 2658455991569831745807614120560689152 := by
  obtain ⟨e1, e2, o, ho⟩ := fine_over fa fb
  have hx := fa.bx; have hy := fa.bY; have hx' := fb.bx; have hy' := fb.bY
  have hma := fa.m1; have hma9 := fa.m9; have hmb := fb.m1; have hmb9 := fb.m9
  obtain ⟨X, hX⟩ : ∃ X, xb - xa = X := ⟨_, rfl⟩
  obtain ⟨Y, hY⟩ : ∃ Y, yb - ya = Y := ⟨_, rfl⟩
  rw [hX, hY] at e1 e2
  cases o with
  | false => exact .inl (blow_off ho)
  | true =>
  by_cases hL : 65536 * (X * X + Y * Y) = 0
  · exact .inl (blow_at ho e1 (by rw [e2, hL]))
  rw [blow_on ho e1 e2 hL]
  obtain ⟨vax, vay, ha, ra1, ra2, ba1, ba2⟩ := fine_speed fa sa
  obtain ⟨vbx, vby, hb, rb1, rb2, bb1, bb2⟩ := fine_speed fb sb
  have hXb : -134217728 ≤ X ∧ X ≤ 134217728 := by omega
  have hYb : -134217728 ≤ Y ∧ Y ≤ 134217728 := by omega
  -- the way, how fast it closes
  have m1 := mul_ab (a := 1099511627776 * X) (b := vbx - vax) (B := 2361183241434822606848) (by omega) (by omega)
  have m2 := mul_ab (a := 1099511627776 * Y) (b := vby - vay) (B := 2361183241434822606848) (by omega) (by omega)
  have n1 : ab (1099511627776 * X) = 1099511627776 * ab X := by unfold ab; split <;> split <;> omega
  have n2 : ab (1099511627776 * Y) = 1099511627776 * ab Y := by unfold ab; split <;> split <;> omega
  have aX : 0 ≤ ab X ∧ ab X ≤ 134217728 := ⟨ab_nonneg X, by unfold ab; split <;> omega⟩
  have aY : 0 ≤ ab Y ∧ ab Y ≤ 134217728 := ⟨ab_nonneg Y, by unfold ab; split <;> omega⟩
  rw [n1] at m1
  rw [n2] at m2
  obtain ⟨z1, hz1, g1, g2, _, _⟩ := mul_ok (a := 1099511627776 * X) (b := vbx - vax) (B := 18889465931478580854784) (by omega) (by omega) (by decide)
  obtain ⟨z2, hz2, g3, g4, _, _⟩ := mul_ok (a := 1099511627776 * Y) (b := vby - vay) (B := 18889465931478580854784) (by omega) (by omega) (by decide)
  have hcl : closingX a b (1099511627776 * X) (1099511627776 * Y) = .ok (z1 + z2) := by
    unfold closingX
    rw [ha, hb, bind_ok, bind_ok]
    have q : subV vbx vby vax vay = .ok (vbx - vax, vby - vay) := by
      unfold subV
      rw [subX_ok (R_mid (by omega) (by omega)), subX_ok (R_mid (by omega) (by omega))]; rfl
    show (subV vbx vby vax vay >>= _) = _
    rw [q, bind_ok]
    show dotX (1099511627776 * X) (1099511627776 * Y) (vbx - vax) (vby - vay) = _
    unfold dotX mulV
    rw [hz1, hz2, vecX_ok]
    exact addX_ok (R_mid (by omega) (by omega))
  rw [hcl, bind_ok]
  by_cases hv0 : 0 ≤ z1 + z2
  · rw [if_pos hv0]; exact .inl rfl
  rw [if_neg hv0]
  -- the mass
  have hmm : 1 ≤ ma * mb ∧ ma * mb ≤ 81 ∧ ma * mb ≤ 9 * mb := by
    have t1 := Int.mul_le_mul hma hmb (by omega) (by omega)
    have t2 := Int.mul_le_mul_of_nonneg_right hma9 (show 0 ≤ mb by omega)
    omega
  have q1 : mulX (val ma 0) (val mb 0) = .ok (val (ma * mb) 0) := mulX_ex (by unfold val; grind) (R_mid (by unfold val; omega) (by unfold val; omega))
  have q2 : addX (val ma 0) (val mb 0) = .ok (val ma 0 + val mb 0) := addX_ok (R_mid (by unfold val; omega) (by unfold val; omega))
  obtain ⟨r, hr, r1, r2, r3, r4⟩ := div_ok (a := val (ma * mb) 0) (b := val ma 0 + val mb 0) (B := 166020696663385964544) (by unfold val; omega) (by unfold val; omega) (by unfold val; omega) (by decide)
  have hred : reducedX a b = .ok r := by
    unfold reducedX
    rw [fa.mass, fb.mass, q1, bind_ok, q2, bind_ok, hr]
  have er : r * (val ma 0 + val mb 0) = r * (ma + mb) * 18446744073709551616 := by unfold val; grind
  have hval : val (ma * mb) 0 = ma * mb * 18446744073709551616 := by unfold val; omega
  rw [er, hval] at r1 r2
  have hrr : 2 * (r * (ma + mb) - ma * mb * 18446744073709551616) ≤ ma + mb := by
    unfold val at r2
    generalize r * (ma + mb) = z at *
    omega
  have hr0 : 0 ≤ r := by
    by_cases c : 0 ≤ r
    · exact c
    · have c1 := Int.mul_le_mul_of_nonneg_right (show r ≤ -1 by omega) (show 0 ≤ ma + mb by omega)
      unfold val at r1
      generalize r * (ma + mb) = z at *
      omega
  -- 1 + k, the rest
  have hone : one = 18446744073709551616 := rfl
  have q3 : addX one k = .ok (one + k) := addX_ok (R_mid (by omega) (by omega))
  have p1 := prod_b (a := one + k) (b := r) (A := 32281802128991715328) (B := 166020696663385964544) (by omega) (by omega) (by omega) (by omega)
  obtain ⟨k2, hk2, s1, s2, s3, s4⟩ := mul_ok (a := one + k) (b := r) (B := 295147905179352825856) (by omega) (by omega) (by decide)
  have hk20 : 0 ≤ k2 := by
    have := Int.mul_nonneg (show 0 ≤ one + k by omega) hr0
    omega
  -- how great v is
  obtain ⟨D, hD⟩ : ∃ D, ab X + ab Y = D := ⟨_, rfl⟩
  have hvb : -(140737488355328 * D + 1) ≤ z1 + z2 := by omega
  have hD1 : 1 ≤ D := by
    by_cases c : 1 ≤ D
    · exact c
    · have x0 : X = 0 := by unfold ab at *; split at hD <;> split at hD <;> omega
      have y0 : Y = 0 := by unfold ab at *; split at hD <;> split at hD <;> omega
      subst x0 y0; exact absurd rfl hL
  have hDL : 65536 * D ≤ 65536 * (X * X + Y * Y) := by
    have := ab_sq X; have := ab_sq Y; omega
  have p2 := prod_b (a := k2) (b := z1 + z2) (A := 295147905179352825856) (B := 140737488355328 * D + 1) (by omega) (by omega) hvb (by omega)
  have hLb : 65536 * (X * X + Y * Y) ≤ 2361183241434822606848 := by
    have u1 := prod_b hXb.1 hXb.2 hXb.1 hXb.2
    have u2 := prod_b hYb.1 hYb.2 hYb.1 hYb.2
    omega
  obtain ⟨k3, hk3, t1, t2, t3, t4⟩ := mul_ok (a := k2) (b := z1 + z2) (B := 16 * (140737488355328 * D + 1)) (by omega) (by omega) (by omega)
  obtain ⟨L, hLe⟩ : ∃ L, 65536 * (X * X + Y * Y) = L := ⟨_, rfl⟩
  rw [hLe] at hL hDL hLb ⊢
  obtain ⟨k4, hk4, u1, u2, u3, u4⟩ := div_ok (a := k3) (b := L) (B := 5070602400912917605986812821504) (by omega) (by omega) (by omega) (by decide)
  have p3 := prod_b (a := 1099511627776 * X) (b := k4) (A := 147573952589676412928) (B := 5070602400912917605986812821504) (by omega) (by omega) u3 u4
  have p4 := prod_b (a := 1099511627776 * Y) (b := k4) (A := 147573952589676412928) (B := 5070602400912917605986812821504) (by omega) (by omega) u3 u4
  obtain ⟨jx, hjx, v1, v2, v3, v4⟩ := mul_ok (a := 1099511627776 * X) (b := k4) (B := 40564819207303340847894502572032) (by omega) (by omega) (by decide)
  obtain ⟨jy, hjy, v5, v6, v7, v8⟩ := mul_ok (a := 1099511627776 * Y) (b := k4) (B := 40564819207303340847894502572032) (by omega) (by omega) (by decide)
  have htail : tailX (reducedX a b) k (z1 + z2) = .ok k3 := by
    unfold tailX
    rw [hred, bind_ok, q3, bind_ok, hk2, bind_ok, hk3]
  have hj : jX (.ok k3) L (1099511627776 * X) (1099511627776 * Y) = .ok (jx, jy) := by
    unfold jX scaleV
    rw [bind_ok, hk4, bind_ok, hjx, hjy, vecX_ok]
  rw [htail, hj, bind_ok]
  refine .inr ⟨(-jx, -jy), rfl, ⟨by omega, by omega⟩, ⟨by omega, by omega⟩, ?_⟩
  have en := energy (dx := 1099511627776 * X) (dy := 1099511627776 * Y) (L := L) (v := z1 + z2) (r := r) (k1 := one + k) (k2 := k2) (k3 := k3) (k4 := k4) (jx := jx) (jy := jy) ⟨hma, hma9⟩ ⟨hmb, hmb9⟩ hwa hwb hwa1 hwb1 ra1 ra2 rb1 rb2
    (by omega) (by omega) (by omega) (by omega) (by rw [← hLe]; grind) (by omega) hLb (by omega) (by omega) hr0 hrr ⟨by omega, by omega⟩ s2 hk20 ⟨t1, t2⟩ ⟨u1, u2⟩ u3 ⟨v1, v2⟩ ⟨v5, v6⟩
  show wb * ((b.px + -jx) * (b.px + -jx) + (b.py + -jy) * (b.py + -jy)) + wa * ((a.px - -jx) * (a.px - -jx) + (a.py - -jy) * (a.py - -jy)) ≤ _
  rw [← Int.sub_eq_add_neg, ← Int.sub_eq_add_neg, Int.sub_neg, Int.sub_neg]
  exact en
end Go.Proofs.Ytdphhkbbphfjlaa
namespace Go.Proofs.Ytdphhkbbphfjlaa
set_option linter.unusedVariables false
set_option linter.unusedSimpArgs false
open Go.RowKit
def noB : BodyI := ⟨0, 0, 0, 0, 0, 0, 0, 0, 0, 0, 0⟩
/-- two of a list meet: the list, who met -/
def stepX (k : Int) (st : List BodyI × List (Nat × Nat)) (i j : Nat) : Except Int (List BodyI × List (Nat × Nat)) := do
  let h ← blowX (st.1.getD i noB) (st.1.getD j noB) k
  match h with
  | none => .ok st
  | some J => do
    let p ← addV (st.1.getD j noB).px (st.1.getD j noB).py J.1 J.2
    let q ← subV (st.1.getD i noB).px (st.1.getD i noB).py J.1 J.2
    .ok ((st.1.set j { st.1.getD j noB with px := p.1, py := p.2 }).set i { st.1.getD i noB with px := q.1, py := q.2 }, st.2 ++ [(i, j)])
/-- one with all behind it: c of them, from j on -/
def innerX (k : Int) (i : Nat) : Nat → Nat → List BodyI × List (Nat × Nat) → Except Int (List BodyI × List (Nat × Nat))
  | 0, _, st => .ok st
  | c + 1, j, st => do
    let s ← stepX k st i j
    innerX k i c (j + 1) s
/-- all, from i on -/
def outerX (k : Int) (n : Nat) : Nat → Nat → List BodyI × List (Nat × Nat) → Except Int (List BodyI × List (Nat × Nat))
  | 0, _, st => .ok st
  | c + 1, i, st => do
    let s ← innerX k i (n - 1 - i) (i + 1) st
    outerX k n c (i + 1) s
def allX (k : Int) (bs : List BodyI) : Except Int (List BodyI × List (Nat × Nat)) := outerX k bs.length bs.length 0 (bs, [])
/-- a body's mass, as a whole number; its weight; its share of the energy -/
def wt (b : BodyI) : Int := 2520 / hi b.mass
def enB (b : BodyI) : Int := wt b * (b.px * b.px + b.py * b.py)
def enL (l : List BodyI) : Int := (l.map enB).sum
theorem wt_fine {b : BodyI} {m x y : Int} (f : Fine b m x y) : wt b * m = 2520 ∧ 280 ≤ wt b ∧ wt b ≤ 2520 := by
  have h : hi b.mass = m := by rw [f.mass]; unfold hi val; omega
  have h1 := f.m1; have h9 := f.m9
  unfold wt
  rw [h]
  have : m = 1 ∨ m = 2 ∨ m = 3 ∨ m = 4 ∨ m = 5 ∨ m = 6 ∨ m = 7 ∨ m = 8 ∨ m = 9 := by omega
  rcases this with rfl | rfl | rfl | rfl | rfl | rfl | rfl | rfl | rfl <;> decide
theorem sq_nonneg (x : Int) : 0 ≤ x * x := by
  have := ab_sq x; have := ab_nonneg x; omega
/-- a close list -/
def FineL (l : List BodyI) : Prop := ∀ b ∈ l, ∃ m x y, Fine b m x y
theorem enB_nonneg {b : BodyI} {m x y : Int} (f : Fine b m x y) : 0 ≤ enB b := by
  have h := wt_fine f
  exact Int.mul_nonneg (by omega) (by have := sq_nonneg b.px; have := sq_nonneg b.py; omega)
theorem enL_nonneg : ∀ {l : List BodyI}, FineL l → 0 ≤ enL l
  | [], _ => by decide
  | b :: l, f => by
    obtain ⟨m, x, y, g⟩ := f b (List.mem_cons_self ..)
    have h1 := enB_nonneg g
    have h2 := enL_nonneg (l := l) (fun c hc => f c (List.mem_cons_of_mem _ hc))
    show 0 ≤ enB b + enL l
    omega
theorem enB_le : ∀ {l : List BodyI}, FineL l → ∀ b ∈ l, enB b ≤ enL l
  | [], _, b, hb => by cases hb
  | c :: l, f, b, hb => by
    have h2 := enL_nonneg (l := l) (fun c hc => f c (List.mem_cons_of_mem _ hc))
    obtain ⟨m, x, y, g⟩ := f c (List.mem_cons_self ..)
    have h1 := enB_nonneg g
    show enB b ≤ enB c + enL l
    rcases List.mem_cons.1 hb with rfl | hb
    · omega
    · have := enB_le (l := l) (fun c hc => f c (List.mem_cons_of_mem _ hc)) b hb; omega
theorem enL_set : ∀ (l : List BodyI) (i : Nat) (b : BodyI), i < l.length → enL (l.set i b) = enL l - enB (l.getD i noB) + enB b
  | [], i, b, h => by simp at h
  | c :: l, 0, b, _ => by show enB b + enL l = enB c + enL l - enB c + enB b; omega
  | c :: l, i + 1, b, h => by
    have := enL_set l i b (by simpa using h)
    show enB c + enL (l.set i b) = enB c + enL l - enB (l.getD i noB) + enB b
    omega
theorem slow_of {b : BodyI} {m x y : Int} (f : Fine b m x y) (h : enB b ≤ 274434430094133330371099688669184000000 * 1000000) : Slow64 b := by
  have hw := wt_fine f
  have hx := sq_nonneg b.px
  have hy := sq_nonneg b.py
  have h280 : 280 * (b.px * b.px + b.py * b.py) ≤ enB b := Int.mul_le_mul_of_nonneg_right hw.2.1 (by omega)
  have key : ∀ p : Int, p * p ≤ 1000000000000000000000000000000000000000000 → -1180591620717411303424 ≤ p ∧ p ≤ 1180591620717411303424 := by
    intro p hp
    by_cases c : ab p ≤ 1180591620717411303424
    · unfold ab at c; split at c <;> omega
    · have := Int.mul_le_mul (show 1180591620717411303425 ≤ ab p by omega) (show 1180591620717411303425 ≤ ab p by omega) (by omega) (ab_nonneg p)
      have e : ab p * ab p = p * p := by unfold ab; split <;> grind
      omega
  exact ⟨key _ (by omega), key _ (by omega)⟩
theorem getD_mem {l : List BodyI} {i : Nat} (h : i < l.length) : l.getD i noB ∈ l := by
  rw [List.getD_eq_getElem?_getD, List.getElem?_eq_getElem h]; exact List.getElem_mem h
theorem getD_set_ne {l : List BodyI} {i j : Nat} (b : BodyI) (h : j ≠ i) : (l.set j b).getD i noB = l.getD i noB := by
  rw [List.getD_eq_getElem?_getD, List.getD_eq_getElem?_getD, List.getElem?_set_ne h]
/-- but for the momentum -/
def still (b : BodyI) : BodyI := { b with px := 0, py := 0 }
def sumPx (l : List BodyI) : Int := (l.map (·.px)).sum
def sumPy (l : List BodyI) : Int := (l.map (·.py)).sum
theorem sumPx_set : ∀ (l : List BodyI) (i : Nat) (b : BodyI), i < l.length → sumPx (l.set i b) = sumPx l - (l.getD i noB).px + b.px
  | [], i, b, h => by simp at h
  | c :: l, 0, b, _ => by show b.px + sumPx l = c.px + sumPx l - c.px + b.px; omega
  | c :: l, i + 1, b, h => by
    have := sumPx_set l i b (by simpa using h)
    show c.px + sumPx (l.set i b) = c.px + sumPx l - (l.getD i noB).px + b.px
    omega
theorem sumPy_set : ∀ (l : List BodyI) (i : Nat) (b : BodyI), i < l.length → sumPy (l.set i b) = sumPy l - (l.getD i noB).py + b.py
  | [], i, b, h => by simp at h
  | c :: l, 0, b, _ => by show b.py + sumPy l = c.py + sumPy l - c.py + b.py; omega
  | c :: l, i + 1, b, h => by
    have := sumPy_set l i b (by simpa using h)
    show c.py + sumPy (l.set i b) = c.py + sumPy l - (l.getD i noB).py + b.py
    omega
theorem map_set_same : ∀ (l : List BodyI) (i : Nat) (b : BodyI), i < l.length → still b = still (l.getD i noB) → (l.set i b).map still = l.map still
  | [], i, b, h, _ => by simp at h
  | c :: l, 0, b, _, e => by show still b :: l.map still = still c :: l.map still; rw [show still b = still c from e]
  | c :: l, i + 1, b, h, e => by
    show still c :: (l.set i b).map still = still c :: l.map still
    rw [map_set_same l i b (by simpa using h) e]
theorem fineL_set {l : List BodyI} (f : FineL l) (i : Nat) (b : BodyI) (hb : ∃ m x y, Fine b m x y) : FineL (l.set i b) := by
  intro c hc
  rcases List.mem_or_eq_of_mem_set hc with h | rfl
  · exact f c h
  · exact hb
theorem Fine.move {b : BodyI} {m x y : Int} (f : Fine b m x y) (p q : Int) : Fine { b with px := p, py := q } m x y := ⟨f.m1, f.m9, f.mass, f.xe, f.ye, f.bx, f.bY, f.radius⟩
/-- what a step of a close list leaves as it was -/
structure Kept (st st' : List BodyI × List (Nat × Nat)) : Prop where
  len : st'.1.length = st.1.length
  px : sumPx st'.1 = sumPx st.1
  py : sumPy st'.1 = sumPy st.1
  still : st'.1.map still = st.1.map still
theorem Kept.refl (st : List BodyI × List (Nat × Nat)) : Kept st st := ⟨rfl, rfl, rfl, rfl⟩
theorem Kept.trans {a b c : List BodyI × List (Nat × Nat)} (h : Kept a b) (g : Kept b c) : Kept a c := ⟨g.len.trans h.len, g.px.trans h.px, g.py.trans h.py, g.still.trans h.still⟩
theorem step_fine {k : Int} {st : List BodyI × List (Nat × Nat)} {i j : Nat} {E : Int} (hk : 0 ≤ k ∧ 4 * k ≤ 55340232221128654848) (f : FineL st.1) (hij : i < j) (hj : j < st.1.length)
    (hE : enL st.1 ≤ E) (hB : E ≤ 274434430094133330371099688669184000000 * 1000000) :
    ∃ st', stepX k st i j = .ok st' ∧ FineL st'.1 ∧ Kept st st' ∧ enL st'.1 ≤ E + 2658455991569831745807614120560689152 ∧ (st'.2 = st.2 ∨ st'.2 = st.2 ++ [(i, j)]) := by
  obtain ⟨ma, xa, ya, fa⟩ := f _ (getD_mem (i := i) (by omega))
  obtain ⟨mb, xb, yb, fb⟩ := f _ (getD_mem hj)
  have sa := slow_of fa (Int.le_trans (enB_le f _ (getD_mem (i := i) (by omega))) (by omega))
  have sb := slow_of fb (Int.le_trans (enB_le f _ (getD_mem hj)) (by omega))
  have wa := wt_fine fa
  have wb := wt_fine fb
  generalize ha : st.1.getD i noB = a at *
  generalize hb : st.1.getD j noB = b at *
  have hs : stepX k st i j = (blowX a b k >>= fun h => match h with
    | none => .ok st
    | some J => addV b.px b.py J.1 J.2 >>= fun p => subV a.px a.py J.1 J.2 >>= fun q =>
      .ok ((st.1.set j { b with px := p.1, py := p.2 }).set i { a with px := q.1, py := q.2 }, st.2 ++ [(i, j)])) := by unfold stepX; rw [ha, hb]
  rw [hs]
  rcases blow_fine fa fb sa sb hk wa.1 wb.1 wa.2 wb.2 with h | ⟨J, h, j1, j2, en⟩
  · rw [h, bind_ok]
    exact ⟨st, rfl, f, Kept.refl _, by omega, .inl rfl⟩
  · rw [h, bind_ok]
    have q1 : addV b.px b.py J.1 J.2 = .ok (b.px + J.1, b.py + J.2) := by
      have := sb.px; have := sb.py
      unfold addV
      rw [addX_ok (R_mid (by omega) (by omega)), addX_ok (R_mid (by omega) (by omega))]; rfl
    have q2 : subV a.px a.py J.1 J.2 = .ok (a.px - J.1, a.py - J.2) := by
      have := sa.px; have := sa.py
      unfold subV
      rw [subX_ok (R_mid (by omega) (by omega)), subX_ok (R_mid (by omega) (by omega))]; rfl
    show ∃ st', (addV b.px b.py J.1 J.2 >>= fun p => subV a.px a.py J.1 J.2 >>= fun q =>
      Except.ok ((st.1.set j { b with px := p.1, py := p.2 }).set i { a with px := q.1, py := q.2 }, st.2 ++ [(i, j)])) = .ok st' ∧ _
    rw [q1, bind_ok, q2, bind_ok]
    have hl : i < (st.1.set j { b with px := b.px + J.1, py := b.py + J.2 }).length := by simp; omega
    have hg : (st.1.set j { b with px := b.px + J.1, py := b.py + J.2 }).getD i noB = a := by rw [getD_set_ne _ (by omega), ha]
    refine ⟨_, rfl, ?_, ⟨by simp, ?_, ?_, ?_⟩, ?_, .inr rfl⟩
    · exact fineL_set (fineL_set f _ _ ⟨mb, xb, yb, fb.move _ _⟩) _ _ ⟨ma, xa, ya, fa.move _ _⟩
    · show sumPx ((st.1.set j _).set i _) = _
      rw [sumPx_set _ _ _ hl, hg, sumPx_set _ _ _ hj, hb]; show _ - a.px + (a.px - J.1) = _; show sumPx st.1 - b.px + (b.px + J.1) - a.px + (a.px - J.1) = _; omega
    · show sumPy ((st.1.set j _).set i _) = _
      rw [sumPy_set _ _ _ hl, hg, sumPy_set _ _ _ hj, hb]; show sumPy st.1 - b.py + (b.py + J.2) - a.py + (a.py - J.2) = _; omega
    · show ((st.1.set j _).set i _).map still = _
      rw [map_set_same _ _ _ hl (by rw [hg]; rfl), map_set_same _ _ _ hj (by rw [hb]; rfl)]
    · show enL ((st.1.set j _).set i _) ≤ _
      rw [enL_set _ _ _ hl, hg, enL_set _ _ _ hj, hb]
      show enL st.1 - enB b + wt b * ((b.px + J.1) * (b.px + J.1) + (b.py + J.2) * (b.py + J.2)) - enB a + wt a * ((a.px - J.1) * (a.px - J.1) + (a.py - J.2) * (a.py - J.2)) ≤ _
      have e1 : enB a = wt a * (a.px * a.px + a.py * a.py) := rfl
      have e2 : enB b = wt b * (b.px * b.px + b.py * b.py) := rfl
      rw [e1, e2]
      omega
end Go.Proofs.Ytdphhkbbphfjlaa
namespace Go.Proofs.Ytdphhkbbphfjlaa
set_option linter.unusedVariables false
set_option linter.unusedSimpArgs false
open Go.RowKit
def pLt (p q : Nat × Nat) : Prop := p.1 < q.1 ∨ p.1 = q.1 ∧ p.2 < q.2
/-- who met: in order, all ahead of (i, j), of n -/
structure Met (n i j : Nat) (l : List (Nat × Nat)) : Prop where
  ord : l.Pairwise pLt
  all : ∀ p ∈ l, p.1 < p.2 ∧ p.2 < n ∧ pLt p (i, j)
theorem Met.next {n i j : Nat} {l : List (Nat × Nat)} (h : Met n i j l) : Met n i (j + 1) l :=
  ⟨h.ord, fun p hp => ⟨(h.all p hp).1, (h.all p hp).2.1, by have := (h.all p hp).2.2; unfold pLt at *; omega⟩⟩
theorem Met.row {n i j : Nat} {l : List (Nat × Nat)} (h : Met n i j l) : Met n (i + 1) (i + 1 + 1) l :=
  ⟨h.ord, fun p hp => ⟨(h.all p hp).1, (h.all p hp).2.1, by have := (h.all p hp).2.2; unfold pLt at *; simp only at *; omega⟩⟩
theorem Met.add {n i j : Nat} {l : List (Nat × Nat)} (h : Met n i j l) (hij : i < j) (hj : j < n) : Met n i (j + 1) (l ++ [(i, j)]) := by
  refine ⟨List.pairwise_append.2 ⟨h.ord, List.pairwise_singleton _ _, fun p hp q hq => ?_⟩, fun p hp => ?_⟩
  · rw [List.mem_singleton] at hq; subst hq; exact (h.all p hp).2.2
  · rcases List.mem_append.1 hp with hp | hp
    · exact h.next.all p hp
    · rw [List.mem_singleton] at hp; subst hp; exact ⟨hij, hj, .inr ⟨rfl, Nat.lt_succ_self _⟩⟩
theorem inner_fine {k : Int} {n i : Nat} (hk : 0 ≤ k ∧ 4 * k ≤ 55340232221128654848) : ∀ (c j : Nat) (st : List BodyI × List (Nat × Nat)) (E : Int), FineL st.1 → st.1.length = n → i < j → j + c ≤ n →
    enL st.1 ≤ E → E + c * 2658455991569831745807614120560689152 ≤ 274434430094133330371099688669184000000 * 1000000 → Met n i j st.2 →
    ∃ st', innerX k i c j st = .ok st' ∧ FineL st'.1 ∧ Kept st st' ∧ enL st'.1 ≤ E + c * 2658455991569831745807614120560689152 ∧ Met n i (j + c) st'.2
  | 0, j, st, E, f, hn, hij, hj, hE, hB, hm => ⟨st, rfl, f, Kept.refl _, by simpa using hE, hm⟩
  | c + 1, j, st, E, f, hn, hij, hj, hE, hB, hm => by
    have hc : ((c + 1 : Nat) : Int) = c + 1 := by omega
    rw [hc] at hB
    have hm1 : ((c : Int) + 1) * 2658455991569831745807614120560689152 = c * 2658455991569831745807614120560689152 + 2658455991569831745807614120560689152 := by omega
    obtain ⟨s1, h1, f1, k1, e1, m1⟩ := step_fine hk f hij (by omega) hE (by omega)
    have hmet : Met n i (j + 1) s1.2 := by
      rcases m1 with m1 | m1
      · rw [m1]; exact hm.next
      · rw [m1]; exact hm.add hij (by omega)
    obtain ⟨s2, h2, f2, k2, e2, m2⟩ := inner_fine hk c (j + 1) s1 (E + 2658455991569831745807614120560689152) f1 (k1.len.trans hn) (by omega) (by omega) e1 (by omega) hmet
    refine ⟨s2, ?_, f2, k1.trans k2, by rw [hc]; omega, by rw [show j + (c + 1) = j + 1 + c by omega]; exact m2⟩
    unfold innerX
    rw [h1, bind_ok, h2]
theorem outer_fine {k : Int} {n : Nat} (hk : 0 ≤ k ∧ 4 * k ≤ 55340232221128654848) (hn10 : n ≤ 10) : ∀ (c i : Nat) (st : List BodyI × List (Nat × Nat)) (E : Int), FineL st.1 → st.1.length = n → i + c = n →
    enL st.1 ≤ E → E + c * 26584559915698317458076141205606891520 ≤ 274434430094133330371099688669184000000 * 1000000 → Met n i (i + 1) st.2 →
    ∃ st', outerX k n c i st = .ok st' ∧ FineL st'.1 ∧ Kept st st' ∧ ∃ a b, Met n a b st'.2
  | 0, i, st, E, f, hn, hi, hE, hB, hm => ⟨st, rfl, f, Kept.refl _, _, _, hm⟩
  | c + 1, i, st, E, f, hn, hi, hE, hB, hm => by
    have hc : ((c + 1 : Nat) : Int) = c + 1 := by omega
    rw [hc] at hB
    have hd : ((n - 1 - i : Nat) : Int) ≤ 10 := by omega
    have hd0 : (0 : Int) ≤ ((n - 1 - i : Nat) : Int) := by omega
    obtain ⟨s1, h1, f1, k1, e1, m1⟩ := inner_fine hk (n - 1 - i) (i + 1) st E f hn (by omega) (by omega) hE (by omega) hm
    obtain ⟨s2, h2, f2, k2, a, b, m2⟩ := outer_fine hk hn10 c (i + 1) s1 (E + 26584559915698317458076141205606891520) f1 (k1.len.trans hn) (by omega) (by omega) (by omega) m1.row
    refine ⟨s2, ?_, f2, k1.trans k2, a, b, m2⟩
    unfold outerX
    rw [h1, bind_ok, h2]
/-- slow at the start: no momentum is more than 4 -/
def Slow4 (b : BodyI) : Prop := (-73786976294838206464 ≤ b.px ∧ b.px ≤ 73786976294838206464) ∧ (-73786976294838206464 ≤ b.py ∧ b.py ≤ 73786976294838206464)
theorem enL_start : ∀ {l : List BodyI}, FineL l → (∀ b ∈ l, Slow4 b) → enL l ≤ l.length * 27440370068504477693686528343297788571811840
  | [], _, _ => by decide
  | b :: l, f, s => by
    obtain ⟨m, x, y, g⟩ := f b (List.mem_cons_self ..)
    obtain ⟨hx, hy⟩ := s b (List.mem_cons_self ..)
    have h2 := enL_start (l := l) (fun c hc => f c (List.mem_cons_of_mem _ hc)) (fun c hc => s c (List.mem_cons_of_mem _ hc))
    have hw := wt_fine g
    have p1 := prod_b hx.1 hx.2 hx.1 hx.2
    have p2 := prod_b hy.1 hy.2 hy.1 hy.2
    have hq := sq_nonneg b.px
    have hr := sq_nonneg b.py
    have h1 : enB b ≤ 2520 * (b.px * b.px + b.py * b.py) := Int.mul_le_mul_of_nonneg_right hw.2.2 (by omega)
    have hl : ((b :: l).length : Int) = l.length + 1 := by simp
    show enB b + enL l ≤ _
    rw [hl]
    omega
/-- all of a close world: no error; nothing but the momenta turns, and they stay together; who met, in order -/
theorem all_fine {k : Int} {l : List BodyI} (hk : 0 ≤ k ∧ 4 * k ≤ 55340232221128654848) (hn : l.length ≤ 10) (f : FineL l) (s : ∀ b ∈ l, Slow4 b) :
    ∃ st', allX k l = .ok st' ∧ FineL st'.1 ∧ Kept (l, []) st' ∧ ∃ a b, Met l.length a b st'.2 := by
  have h0 := enL_start f s
  have hl : (l.length : Int) ≤ 10 := by omega
  have hl0 : (0 : Int) ≤ (l.length : Int) := by omega
  exact outer_fine hk hn l.length 0 (l, []) _ f rfl (by omega) h0 (by omega) ⟨List.Pairwise.nil, fun p hp => by cases hp⟩
end Go.Proofs.Ytdphhkbbphfjlaa
