/- What ways come to: pairs of numbers. -/
import Derived.Test.YtdphhkbbphfjlaaSpec
set_option linter.unusedVariables false
set_option linter.unusedSimpArgs false
namespace Go.Proofs.Ytdphhkbbphfjlaa
open Go.RowKit

/-- words of a number that may be -/
def MayF (h l : Int) : Prop := W64 l ∧ I64 h ∧ R (val h l)
theorem MayF.w {h l : Int} (x : MayF h l) : W64 l := x.1
theorem MayF.i {h l : Int} (x : MayF h l) : I64 h := x.2.1
theorem MayF.r {h l : Int} (x : MayF h l) : R (val h l) := x.2.2
theorem MayF.of {x : Int} (h : R x) : MayF (hi x) (lo x) := ⟨W64_lo x, R_hi h, by rw [val_hl]; exact h⟩
theorem MayF.zero : MayF 0 0 := ⟨W64_0, by unfold I64; omega, by rw [val_00]; exact R_0⟩

theorem hi_z : hi 0 = 0 := rfl
theorem lo_z : lo 0 = 0 := rfl
def vecX (x y : Except Int Int) : Except Int (Int × Int) :=
  match x with
  | .error e => .error e
  | .ok a => match y with
    | .error e => .error e
    | .ok b => .ok (a, b)
def xOf (r : Except Int (Int × Int)) : Int := match r with | .ok p => p.1 | .error _ => 0
def yOf (r : Except Int (Int × Int)) : Int := match r with | .ok p => p.2 | .error _ => 0
theorem vecX_err (e : Int) (y : Except Int Int) : vecX (.error e) y = .error e := rfl
theorem vecX_ok_err (a e : Int) : vecX (.ok a) (.error e) = .error e := rfl
theorem vecX_ok (a b : Int) : vecX (.ok a) (.ok b) = .ok (a, b) := rfl
theorem xOf_err (e : Int) : xOf (.error e) = 0 := rfl
theorem yOf_err (e : Int) : yOf (.error e) = 0 := rfl
theorem xOf_ok (p : Int × Int) : xOf (.ok p) = p.1 := rfl
theorem yOf_ok (p : Int × Int) : yOf (.ok p) = p.2 := rfl
def GoodV (r : Except Int (Int × Int)) : Prop := (∃ p : Int × Int, r = .ok p ∧ R p.1 ∧ R p.2) ∨ r = .error 2 ∨ r = .error 3
theorem GoodV.vec {x y : Except Int Int} (hx : Good x) (hy : Good y) : GoodV (vecX x y) := by
  rcases hx with ⟨a, rfl, ha⟩ | rfl | rfl
  · rcases hy with ⟨b, rfl, hb⟩ | rfl | rfl
    · exact .inl ⟨(a, b), rfl, ha, hb⟩
    · exact .inr (.inl rfl)
    · exact .inr (.inr rfl)
  · exact .inr (.inl rfl)
  · exact .inr (.inr rfl)
theorem GoodV.x {r : Except Int (Int × Int)} (h : GoodV r) : R (xOf r) := by
  rcases h with ⟨p, rfl, h, _⟩ | rfl | rfl
  · exact h
  · exact R_0
  · exact R_0
theorem GoodV.y {r : Except Int (Int × Int)} (h : GoodV r) : R (yOf r) := by
  rcases h with ⟨p, rfl, _, h⟩ | rfl | rfl
  · exact h
  · exact R_0
  · exact R_0
/-- an answer, or an error above nought -/
theorem Good.cases {r : Except Int Int} (h : Good r) : (∃ n, r = .ok n ∧ R n) ∨ ∃ e, r = .error e ∧ (e != 0) = true := by
  rcases h with h | h | h
  · exact .inl h
  · exact .inr ⟨2, h, rfl⟩
  · exact .inr ⟨3, h, rfl⟩
theorem GoodV.cases {r : Except Int (Int × Int)} (h : GoodV r) : (∃ p : Int × Int, r = .ok p ∧ R p.1 ∧ R p.2) ∨ ∃ e, r = .error e ∧ (e != 0) = true := by
  rcases h with h | h | h
  · exact .inl h
  · exact .inr ⟨2, h, rfl⟩
  · exact .inr ⟨3, h, rfl⟩
def addV (ax ay bx bY : Int) : Except Int (Int × Int) := vecX (addX ax bx) (addX ay bY)
def subV (ax ay bx bY : Int) : Except Int (Int × Int) := vecX (subX ax bx) (subX ay bY)
def scaleV (ax ay k : Int) : Except Int (Int × Int) := vecX (mulX ax k) (mulX ay k)
def mulV (ax ay bx bY : Int) : Except Int (Int × Int) := vecX (mulX ax bx) (mulX ay bY)
def dotX (ax ay bx bY : Int) : Except Int Int :=
  match mulV ax ay bx bY with
  | .error e => .error e
  | .ok p => addX p.1 p.2
def overV (ax ay m : Int) : Except Int (Int × Int) := vecX (divX ax m) (divX ay m)
theorem GoodV.add (a b c d : Int) : GoodV (addV a b c d) := GoodV.vec (Good.add _ _) (Good.add _ _)
theorem GoodV.sub (a b c d : Int) : GoodV (subV a b c d) := GoodV.vec (Good.sub _ _) (Good.sub _ _)
theorem GoodV.scale (a b k : Int) : GoodV (scaleV a b k) := GoodV.vec (Good.mul _ _) (Good.mul _ _)
theorem GoodV.mul (a b c d : Int) : GoodV (mulV a b c d) := GoodV.vec (Good.mul _ _) (Good.mul _ _)
theorem GoodV.over (a b m : Int) : GoodV (overV a b m) := GoodV.vec (Good.div _ _) (Good.div _ _)
theorem Good.dot (a b c d : Int) : Good (dotX a b c d) := by
  unfold dotX
  rcases GoodV.mul a b c d with ⟨p, h, _, _⟩ | h | h <;> rw [h]
  · exact Good.add _ _
  · exact .inr (.inl rfl)
  · exact .inr (.inr rfl)
end Go.Proofs.Ytdphhkbbphfjlaa
