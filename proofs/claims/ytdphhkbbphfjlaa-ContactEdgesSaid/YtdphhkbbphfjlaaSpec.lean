/- What the numbers with a point come to, as whole numbers over 2 to the power of 64: sums, products, quotients, errors. -/
import Derived.Test.YtdphhkbbphfjlaaBase
set_option linter.unusedVariables false
set_option linter.unusedSimpArgs false
namespace Go.Proofs.Ytdphhkbbphfjlaa
open Go.RowKit

/-- a number that may be -/
def R (x : Int) : Prop := -170141183460469231731687303715884105728 < x ∧ x < 170141183460469231731687303715884105728
/-- the upper word of a number that may be -/
def I64 (x : Int) : Prop := -9223372036854775808 ≤ x ∧ x < 9223372036854775808
instance (x : Int) : Decidable (R x) := by unfold R; infer_instance
/-- how much a number is without its sign -/
def ab (x : Int) : Int := if x < 0 then -x else x
/-- is it below nought? -/
def ng (x : Int) : Bool := decide (x < 0)
def sg (b : Bool) (x : Int) : Int := if b then -x else x
/-- the number, if it may be; else error 3 -/
def rng (x : Int) : Except Int Int := if R x then .ok x else .error 3
def addX (a b : Int) : Except Int Int := rng (a + b)
def subX (a b : Int) : Except Int Int := rng (a - b)
def mulM (a b : Int) : Int := (ab a * ab b + 9223372036854775808) / 18446744073709551616
def mulX (a b : Int) : Except Int Int := rng (sg (ng a != ng b) (mulM a b))
def divM (a b : Int) : Int := (2 * (ab a * 18446744073709551616) + ab b) / (2 * ab b)
def divX (a b : Int) : Except Int Int := if b = 0 then .error 2 else rng (sg (ng a != ng b) (divM a b))
/-- an answer's value, an answer's error -/
def nOf (r : Except Int Int) : Int := match r with | .ok n => n | .error _ => 0
def eOf {α : Type} (r : Except Int α) : Int := match r with | .ok _ => 0 | .error e => e

theorem nOf_ok (n : Int) : nOf (.ok n) = n := rfl
theorem nOf_err (e : Int) : nOf (.error e) = 0 := rfl
theorem eOf_ok {α : Type} (n : α) : eOf (.ok n) = 0 := rfl
theorem eOf_err {α : Type} (e : Int) : eOf (.error e : Except Int α) = e := rfl
theorem R_0 : R 0 := by unfold R; omega
theorem R_hi {x : Int} (h : R x) : I64 (hi x) := by unfold R at h; unfold I64 hi; omega
theorem R_neg {x : Int} (h : R x) : R (-x) := by unfold R at *; omega
theorem ab_nonneg (x : Int) : 0 ≤ ab x := by unfold ab; split <;> omega
theorem ab_lt {x : Int} (h : R x) : ab x < 170141183460469231731687303715884105728 := by unfold R at h; unfold ab; split <;> omega
theorem rng_ok {x : Int} (h : R x) : rng x = .ok x := by unfold rng; rw [if_pos h]
theorem rng_cases (x : Int) : (R x ∧ rng x = .ok x) ∨ (¬ R x ∧ rng x = .error 3) := by
  unfold rng; by_cases h : R x
  · exact .inl ⟨h, if_pos h⟩
  · exact .inr ⟨h, if_neg h⟩
/-- a good answer: a number that may be, or an error that is a small number above nought -/
def Good (r : Except Int Int) : Prop := (∃ n, r = .ok n ∧ R n) ∨ r = .error 2 ∨ r = .error 3
theorem Good.rng (x : Int) : Good (rng x) := by
  rcases rng_cases x with ⟨h, e⟩ | ⟨_, e⟩
  · exact .inl ⟨x, e, h⟩
  · exact .inr (.inr e)
theorem Good.add (a b : Int) : Good (addX a b) := Good.rng _
theorem Good.sub (a b : Int) : Good (subX a b) := Good.rng _
theorem Good.mul (a b : Int) : Good (mulX a b) := Good.rng _
theorem Good.div (a b : Int) : Good (divX a b) := by
  unfold divX; split
  · exact .inr (.inl rfl)
  · exact Good.rng _
theorem Good.rr {r : Except Int Int} (h : Good r) : R (nOf r) := by
  rcases h with ⟨n, rfl, h⟩ | rfl | rfl
  · exact h
  · exact R_0
  · exact R_0
theorem Good.e {r : Except Int Int} (h : Good r) : 0 ≤ eOf r ∧ eOf r ≤ 3 := by
  rcases h with ⟨n, rfl, h⟩ | rfl | rfl <;> simp [eOf]
theorem add_comm_X (a b : Int) : addX a b = addX b a := by unfold addX; rw [Int.add_comm]
theorem sub_add_X (a b : Int) : subX a b = addX a (-b) := by unfold subX addX; rw [Int.sub_eq_add_neg]
end Go.Proofs.Ytdphhkbbphfjlaa
