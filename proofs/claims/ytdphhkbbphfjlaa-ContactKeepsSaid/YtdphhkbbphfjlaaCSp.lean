/- What the numbers with a point come to, as whole numbers over 2 to the power of 64: sums, products, quotients, errors. What ways come to: pairs of numbers. -/
import Derived.Test.YtdphhkbbphfjlaaCBase
namespace Go.Proofs.Ytdphhkbbphfjlaa
set_option linter.unusedVariables false
set_option linter.unusedSimpArgs false
open Go.RowKit

/-- a number that may be -/
def R (x : Int) : Prop := -170141183460469231731687303715884105728 < x ∧ x < 170141183460469231731687303715884105728
/-- the upper word of a number that may be -/
def I64 (x : Int) : Prop := -9223372036854775808 ≤ x ∧ x < 9223372036854775808
instance (x : Int) : Decidable (R x) := by unfold R; infer_instance
/-- how much a number is without its sign -/
def ab (x : Int) : Int := if x < 0 then -x else x
/-- is it below nought? -/
def ng (x : Int) : Bool := decide (x < 0)
def sg (b : Bool) (x : Int) : Int := if b then -x else x
/-- the number, if it may be; else error 3 -/
def rng (x : Int) : Except Int Int := if R x then .ok x else .error 3
def addX (a b : Int) : Except Int Int := rng (a + b)
def subX (a b : Int) : Except Int Int := rng (a - b)
def mulM (a b : Int) : Int := (ab a * ab b + 9223372036854775808) / 18446744073709551616
def mulX (a b : Int) : Except Int Int := rng (sg (ng a != ng b) (mulM a b))
def divM (a b : Int) : Int := (2 * (ab a * 18446744073709551616) + ab b) / (2 * ab b)
def divX (a b : Int) : Except Int Int := if b = 0 then .error 2 else rng (sg (ng a != ng b) (divM a b))
/-- an answer's value, an answer's error -/
def nOf (r : Except Int Int) : Int := match r with | .ok n => n | .error _ => 0
def eOf {α : Type} (r : Except Int α) : Int := match r with | .ok _ => 0 | .error e => e

theorem nOf_ok (n : Int) : nOf (.ok n) = n := rfl
theorem nOf_err (e : Int) : nOf (.error e) = 0 := rfl
theorem eOf_ok {α : Type} (n : α) : eOf (.ok n) = 0 := rfl
theorem eOf_err {α : Type} (e : Int) : eOf (.error e : Except Int α) = e := rfl
theorem R_0 : R 0 := by unfold R; omega
theorem R_hi {x : Int} (h : R x) : I64 (hi x) := by unfold R at h; unfold I64 hi; omega
theorem R_neg {x : Int} (h : R x) : R (-x) := by unfold R at *; omega
theorem ab_nonneg (x : Int) : 0 ≤ ab x := by unfold ab; split <;> omega
theorem ab_lt {x : Int} (h : R x) : ab x < 170141183460469231731687303715884105728 := by unfold R at h; unfold ab; split <;> omega
theorem rng_ok {x : Int} (h : R x) : rng x = .ok x := by unfold rng; rw [if_pos h]
theorem rng_cases (x : Int) : (R x ∧ rng x = .ok x) ∨ (¬ R x ∧ rng x = .error 3) := by
  unfold rng; by_cases h : R x
  · exact .inl ⟨h, if_pos h⟩
  · exact .inr ⟨h, if_neg h⟩
/-- a good answer: a number that may be, or an error that is a small number above nought -/
def Good (r : Except Int Int) : Prop := (∃ n, r = .ok n ∧ R n) ∨ r = .error 2 ∨ r = .error 3
theorem Good.rng (x : Int) : Good (rng x) := by
  rcases rng_cases x with ⟨h, e⟩ | ⟨_, e⟩
  · exact .inl ⟨x, e, h⟩
  · exact .inr (.inr e)
theorem Good.add (a b : Int) : Good (addX a b) := Good.rng _
theorem Good.sub (a b : Int) : Good (subX a b) := Good.rng _
theorem Good.mul (a b : Int) : Good (mulX a b) := Good.rng _
theorem Good.div (a b : Int) : Good (divX a b) := by
  unfold divX; split
  · exact .inr (.inl rfl)
  · exact Good.rng _
theorem Good.rr {r : Except Int Int} (h : Good r) : R (nOf r) := by
  rcases h with ⟨n, rfl, h⟩ | rfl | rfl
  · exact h
  · exact R_0
  · exact R_0
theorem Good.e {r : Except Int Int} (h : Good r) : 0 ≤ eOf r ∧ eOf r ≤ 3 := by
  rcases h with ⟨n, rfl, h⟩ | rfl | rfl <;> simp [eOf]
theorem add_comm_X (a b : Int) : addX a b = addX b a := by unfold addX; rw [Int.add_comm]
theorem sub_add_X (a b : Int) : subX a b = addX a (-b) := by unfold subX addX; rw [Int.sub_eq_add_neg]
end Go.Proofs.Ytdphhkbbphfjlaa
namespace Go.Proofs.Ytdphhkbbphfjlaa
set_option linter.unusedVariables false
set_option linter.unusedSimpArgs false
open Go.RowKit

/-- words of a number that may be -/
def MayF (h l : Int) : Prop := W64 l ∧ I64 h ∧ R (val h l)
theorem MayF.w {h l : Int} (x : MayF h l) : W64 l := x.1
theorem MayF.i {h l : Int} (x : MayF h l) : I64 h := x.2.1
theorem MayF.r {h l : Int} (x : MayF h l) : R (val h l) := x.2.2
theorem MayF.of {x : Int} (h : R x) : MayF (hi x) (lo x) := ⟨W64_lo x, R_hi h, by rw [val_hl]; exact h⟩
theorem MayF.zero : MayF 0 0 := ⟨W64_0, by unfold I64; omega, by rw [val_00]; exact R_0⟩

theorem hi_z : hi 0 = 0 := rfl
theorem lo_z : lo 0 = 0 := rfl
def vecX (x y : Except Int Int) : Except Int (Int × Int) :=
  match x with
  | .error e => .error e
  | .ok a => match y with
    | .error e => .error e
    | .ok b => .ok (a, b)
def xOf (r : Except Int (Int × Int)) : Int := match r with | .ok p => p.1 | .error _ => 0
def yOf (r : Except Int (Int × Int)) : Int := match r with | .ok p => p.2 | .error _ => 0
theorem vecX_err (e : Int) (y : Except Int Int) : vecX (.error e) y = .error e := rfl
theorem vecX_ok_err (a e : Int) : vecX (.ok a) (.error e) = .error e := rfl
theorem vecX_ok (a b : Int) : vecX (.ok a) (.ok b) = .ok (a, b) := rfl
theorem xOf_err (e : Int) : xOf (.error e) = 0 := rfl
theorem yOf_err (e : Int) : yOf (.error e) = 0 := rfl
theorem xOf_ok (p : Int × Int) : xOf (.ok p) = p.1 := rfl
theorem yOf_ok (p : Int × Int) : yOf (.ok p) = p.2 := rfl
def GoodV (r : Except Int (Int × Int)) : Prop := (∃ p : Int × Int, r = .ok p ∧ R p.1 ∧ R p.2) ∨ r = .error 2 ∨ r = .error 3
theorem GoodV.vec {x y : Except Int Int} (hx : Good x) (hy : Good y) : GoodV (vecX x y) := by
  rcases hx with ⟨a, rfl, ha⟩ | rfl | rfl
  · rcases hy with ⟨b, rfl, hb⟩ | rfl | rfl
    · exact .inl ⟨(a, b), rfl, ha, hb⟩
    · exact .inr (.inl rfl)
    · exact .inr (.inr rfl)
  · exact .inr (.inl rfl)
  · exact .inr (.inr rfl)
theorem GoodV.x {r : Except Int (Int × Int)} (h : GoodV r) : R (xOf r) := by
  rcases h with ⟨p, rfl, h, _⟩ | rfl | rfl
  · exact h
  · exact R_0
  · exact R_0
theorem GoodV.y {r : Except Int (Int × Int)} (h : GoodV r) : R (yOf r) := by
  rcases h with ⟨p, rfl, _, h⟩ | rfl | rfl
  · exact h
  · exact R_0
  · exact R_0
/-- an answer, or an error above nought -/
theorem Good.cases {r : Except Int Int} (h : Good r) : (∃ n, r = .ok n ∧ R n) ∨ ∃ e, r = .error e ∧ (e != 0) = true := by
  rcases h with h | h | h
  · exact .inl h
  · exact .inr ⟨2, h, rfl⟩
  · exact .inr ⟨3, h, rfl⟩
theorem GoodV.cases {r : Except Int (Int × Int)} (h : GoodV r) : (∃ p : Int × Int, r = .ok p ∧ R p.1 ∧ R p.2) ∨ ∃ e, r = .error e ∧ (e != 0) = true := by
  rcases h with h | h | h
  · exact .inl h
  · exact .inr ⟨2, h, rfl⟩
  · exact .inr ⟨3, h, rfl⟩
def addV (ax ay bx bY : Int) : Except Int (Int × Int) := vecX (addX ax bx) (addX ay bY)
def subV (ax ay bx bY : Int) : Except Int (Int × Int) := vecX (subX ax bx) (subX ay bY)
def scaleV (ax ay k : Int) : Except Int (Int × Int) := vecX (mulX ax k) (mulX ay k)
def mulV (ax ay bx bY : Int) : Except Int (Int × Int) := vecX (mulX ax bx) (mulX ay bY)
def dotX (ax ay bx bY : Int) : Except Int Int :=
  match mulV ax ay bx bY with
  | .error e => .error e
  | .ok p => addX p.1 p.2
def overV (ax ay m : Int) : Except Int (Int × Int) := vecX (divX ax m) (divX ay m)
theorem GoodV.add (a b c d : Int) : GoodV (addV a b c d) := GoodV.vec (Good.add _ _) (Good.add _ _)
theorem GoodV.sub (a b c d : Int) : GoodV (subV a b c d) := GoodV.vec (Good.sub _ _) (Good.sub _ _)
theorem GoodV.scale (a b k : Int) : GoodV (scaleV a b k) := GoodV.vec (Good.mul _ _) (Good.mul _ _)
theorem GoodV.mul (a b c d : Int) : GoodV (mulV a b c d) := GoodV.vec (Good.mul _ _) (Good.mul _ _)
theorem GoodV.over (a b m : Int) : GoodV (overV a b m) := GoodV.vec (Good.div _ _) (Good.div _ _)
theorem Good.dot (a b c d : Int) : Good (dotX a b c d) := by
  unfold dotX
  rcases GoodV.mul a b c d with ⟨p, h, _, _⟩ | h | h <;> rw [h]
  · exact Good.add _ _
  · exact .inr (.inl rfl)
  · exact .inr (.inr rfl)
end Go.Proofs.Ytdphhkbbphfjlaa
