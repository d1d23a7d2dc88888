/- Two on a line of other radii: what over and a blow come to, in plain numbers. -/
import Derived.Test.YtdphhkbbphfjlaaLawP
set_option linter.unusedVariables false
set_option linter.unusedSimpArgs false
namespace Go.Proofs.Ytdphhkbbphfjlaa
open Go.RowKit
theorem sq_lt {D S : Int} (hD : 0 ≤ D) (hS : 0 ≤ S) : D * D < S * S ↔ D < S := by
  constructor
  · intro h
    by_cases c : D < S
    · exact c
    · have := Int.mul_le_mul (show S ≤ D by omega) (show S ≤ D by omega) hS hD; omega
  · intro h
    have h1 : D * D ≤ D * S := Int.mul_le_mul_of_nonneg_left (by omega) hD
    have h2 : D * S < S * S := Int.mul_lt_mul_of_pos_right h (by omega)
    omega
theorem sq_b {D : Int} (h0 : 0 ≤ D) (h1 : D ≤ 1000) : 0 ≤ D * D ∧ D * D ≤ 1000000 := by
  constructor
  · exact Int.mul_nonneg h0 h0
  · have := Int.mul_le_mul h1 h1 h0 (by omega); omega
/-- the way between, its square -/
theorem ed_sub (m r x p n s y q : Int) (hx : -1000 ≤ x ∧ x ≤ 1000) (hy : -1000 ≤ y ∧ y ≤ 1000) : subV (lineR n s y q).x (lineR n s y q).y (lineR m r x p).x (lineR m r x p).y = .ok (val (y - x) 0, 0) := by
  show vecX (subX (val y 0) (val x 0)) (subX 0 0) = _
  rw [subX_ok (R_small (by unfold val; omega) (by unfold val; omega)), subX_ok (by decide), show val y 0 - val x 0 = val (y - x) 0 by unfold val; omega]; rfl
theorem ed_dot (d : Int) (h : 0 ≤ d * d ∧ d * d ≤ 1000000) : dotX (val d 0) 0 (val d 0) 0 = .ok (val (d * d) 0) := by
  have e : mulX (val d 0) (val d 0) = .ok (val (d * d) 0) := mulX_ex (by unfold val; grind) (R_small (by unfold val; omega) (by unfold val; omega))
  unfold dotX mulV
  rw [e, mulX_00, vecX_ok]
  show addX (val (d * d) 0) 0 = _
  rw [addX_ok (R_small (by unfold val; omega) (by unfold val; omega)), Int.add_zero]
theorem ed_over (m r x p n s y q d : Int) (hx : -1000 ≤ x ∧ x ≤ 1000) (hy : -1000 ≤ y ∧ y ≤ 1000) (hd : y - x = d) (hdd : 0 ≤ d * d ∧ d * d ≤ 1000000) (hr : 0 ≤ r + s ∧ r + s ≤ 1000) :
    overX (lineR m r x p) (lineR n s y q) = .ok (decide (d * d < (r + s) * (r + s))) := by
  have hss := sq_b hr.1 hr.2
  have e1 := ed_sub m r x p n s y q hx hy
  rw [hd] at e1
  have e2 : addX (val r 0) (val s 0) = .ok (val (r + s) 0) := by
    rw [addX_ok (R_small (by unfold val; omega) (by unfold val; omega)), show val r 0 + val s 0 = val (r + s) 0 by unfold val; omega]
  have e3 : mulX (val (r + s) 0) (val (r + s) 0) = .ok (val ((r + s) * (r + s)) 0) := mulX_ex (by unfold val; grind) (R_small (by unfold val; omega) (by unfold val; omega))
  unfold overX
  rw [e1, bind_ok]
  show (dotX (val d 0) 0 (val d 0) 0 >>= fun l => addX (val r 0) (val s 0) >>= fun s => mulX s s >>= fun m => pure (decide (l < m))) = _
  rw [ed_dot d hdd, bind_ok, e2, bind_ok, e3, bind_ok, pure_ok]
  congr 1
  rw [decide_eq_decide]
  unfold val; omega
/-- q of a division, so often the way, is a number that may be -/
theorem ed_j (t L d : Int) (ht : -(100000 * 18446744073709551616) ≤ t ∧ t ≤ 100000 * 18446744073709551616) (hL : 4 * 18446744073709551616 ≤ L) (hd : 0 ≤ d ∧ d ≤ 1000) :
    ∃ j, jX (.ok t) L (val d 0) 0 = .ok j := by
  have hat : 0 ≤ ab t ∧ ab t ≤ 100000 * 18446744073709551616 := ⟨ab_nonneg t, by unfold ab; split <;> omega⟩
  have haL : ab L = L := by unfold ab; rw [if_neg (by omega)]
  have hq : 0 ≤ divM t L ∧ divM t L < 30000 * 18446744073709551616 := by
    unfold divM
    rw [haL]
    constructor
    · exact Int.ediv_nonneg (by omega) (by omega)
    · exact Int.ediv_lt_of_lt_mul (by omega) (by omega)
  obtain ⟨q, hqe, hqb⟩ : ∃ q, divX t L = .ok q ∧ ab q ≤ 30000 * 18446744073709551616 := by
    unfold divX
    rw [if_neg (by omega)]
    refine ⟨_, rng_ok ?_, ?_⟩
    · unfold R sg; split <;> omega
    · unfold sg ab; split <;> split <;> omega
  have hb := ab_nonneg q
  have m1 : ∃ z, mulX (val d 0) q = .ok z := by
    have had : ab (val d 0) = val d 0 := by unfold ab; rw [if_neg (by unfold val; omega)]
    have hp : val d 0 * ab q = d * ab q * 18446744073709551616 := by unfold val; grind
    have hp2 : 0 ≤ d * ab q ∧ d * ab q ≤ 30000000 * 18446744073709551616 := by
      constructor
      · exact Int.mul_nonneg hd.1 hb
      · have := Int.mul_le_mul hd.2 hqb hb (by omega); omega
    have hm : mulM (val d 0) q = d * ab q := by unfold mulM; rw [had, hp]; omega
    unfold mulX
    rw [hm]
    exact ⟨_, rng_ok (by unfold R sg; split <;> omega)⟩
  obtain ⟨z, hz⟩ := m1
  have m2 : mulX 0 q = .ok 0 := mulX_ex (by omega) R_0
  refine ⟨(z, 0), ?_⟩
  unfold jX scaleV
  rw [bind_ok, hqe, bind_ok, hz, m2, vecX_ok]
theorem ed_red (r p s y : Int) : reducedX (lineR 1 r 0 p) (lineR 3 s y 0) = .ok 13835058055282163712 := by kernel_rfl
theorem dv_b {d v : Int} (hd : 0 ≤ d ∧ d ≤ 510) (hv : -128 ≤ v ∧ v ≤ 127) : -65280 ≤ d * v ∧ d * v ≤ 65280 := by
  have h1 : d * v ≤ d * 127 := Int.mul_le_mul_of_nonneg_left hv.2 hd.1
  have h2 : d * -128 ≤ d * v := Int.mul_le_mul_of_nonneg_left hv.1 hd.1
  omega
/-- there is a blow where both are over one another, apart, and the first goes on -/
theorem ed_hit (r s d v : Int) (hr : 0 ≤ r + s ∧ r + s ≤ 1000) (hd : 2 ≤ d ∧ d ≤ 510) (hv : 0 < v ∧ v ≤ 127) (ho : d < r + s) : ∃ j, blowX (lineR 1 r 0 v) (lineR 3 s d 0) (val 1 0) = .ok (some j) := by
  have hdd := sq_b (show 0 ≤ d by omega) (show d ≤ 1000 by omega)
  have hdv := dv_b (d := d) (v := v) (by omega) (by omega)
  have hdv1 : 0 < d * v := Int.mul_pos (by omega) hv.1
  have hd4 : 4 ≤ d * d := by
    have := Int.mul_le_mul hd.1 hd.1 (by omega) (by omega); omega
  have e0 := ed_over 1 r 0 v 3 s d 0 d (by omega) (by omega) (by omega) hdd hr
  rw [decide_eq_true ((sq_lt (by omega) hr.1).2 ho)] at e0
  have e1 := ed_sub 1 r 0 v 3 s d 0 (by omega) (by omega)
  rw [Int.sub_zero] at e1
  have e2 := ed_dot d hdd
  rw [blow_on e0 e1 e2 (by unfold val; omega), line_closing 1 r 0 v v 3 s d d (by omega) (by omega) (by omega) (by omega) (by omega) (by omega), bind_ok, if_neg (by unfold val; omega), ed_red]
  have e3 : tailX (.ok 13835058055282163712) (val 1 0) (-(val (d * v) 0)) = .ok (-(d * v * 27670116110564327424)) := by
    have f1 : addX one (val 1 0) = .ok 36893488147419103232 := by kernel_rfl
    have f2 : mulX 36893488147419103232 13835058055282163712 = .ok 27670116110564327424 := by kernel_rfl
    have f3 : mulX 27670116110564327424 (-(val (d * v) 0)) = .ok (-(d * v * 27670116110564327424)) := mulX_ex (by unfold val; grind) (R_small (by omega) (by omega))
    unfold tailX
    rw [bind_ok, f1, bind_ok, f2, bind_ok, f3]
  rw [e3]
  obtain ⟨j, hj⟩ := ed_j (-(d * v * 27670116110564327424)) (val (d * d) 0) d (by omega) (by unfold val; omega) (by omega)
  rw [hj, bind_ok]
  exact ⟨_, rfl⟩
/-- else there is none -/
theorem ed_miss (r s d v : Int) (hr : 0 ≤ r + s ∧ r + s ≤ 1000) (hd : d = 0 ∨ 2 ≤ d ∧ d ≤ 510) (hv : -128 ≤ v ∧ v ≤ 127) (hn : ¬ (d < r + s ∧ 0 < d ∧ 0 < v)) : blowX (lineR 1 r 0 v) (lineR 3 s d 0) (val 1 0) = .ok none := by
  have hdd := sq_b (show 0 ≤ d by omega) (show d ≤ 1000 by omega)
  have hdv := dv_b (d := d) (v := v) (by omega) (by omega)
  have e0 := ed_over 1 r 0 v 3 s d 0 d (by omega) (by omega) (by omega) hdd hr
  have e1 := ed_sub 1 r 0 v 3 s d 0 (by omega) (by omega)
  rw [Int.sub_zero] at e1
  have e2 := ed_dot d hdd
  by_cases ho : d < r + s
  · rw [decide_eq_true ((sq_lt (by omega) hr.1).2 ho)] at e0
    by_cases h0 : d = 0
    · subst h0; exact blow_at e0 e1 e2
    · have hv0 : ¬ 0 < v := fun h => hn ⟨ho, by omega, h⟩
      have hdv1 : d * v ≤ 0 := by
        have := Int.mul_le_mul_of_nonneg_left (show v ≤ 0 by omega) (show 0 ≤ d by omega); omega
      have hd4 : 4 ≤ d * d := by
        have := Int.mul_le_mul (show 2 ≤ d by omega) (show 2 ≤ d by omega) (by omega) (by omega); omega
      rw [blow_on e0 e1 e2 (by unfold val; omega), line_closing 1 r 0 v v 3 s d d (by omega) (by omega) (by omega) (by omega) (by omega) (by omega), bind_ok, if_pos (by unfold val; omega)]
  · rw [decide_eq_false (fun h => ho ((sq_lt (by omega) hr.1).1 h))] at e0
    exact blow_off e0
end Go.Proofs.Ytdphhkbbphfjlaa
