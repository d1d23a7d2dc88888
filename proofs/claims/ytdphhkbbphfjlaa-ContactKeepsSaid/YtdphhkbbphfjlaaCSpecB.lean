/- Bodies as whole numbers; what a blow comes to; the reckoner's chains of steps come to the same. -/
import Derived.Test.YtdphhkbbphfjlaaCMem
namespace Go.Proofs.Ytdphhkbbphfjlaa
set_option linter.unusedVariables false
set_option linter.unusedSimpArgs false
open Go.RowKit

/-- a body's numbers -/
structure BodyI where
  mass : Int
  radius : Int
  x : Int
  y : Int
  px : Int
  py : Int
  fuel : Int
  rate : Int
  exh : Int
  thr : Int
  head : Int

/-- a body as cells: kept shut -/
@[irreducible] def bodyC (b : BodyI) : Array Value := #[.int .i64 (hi b.mass), .int .u64 (lo b.mass), .int .i64 (hi b.radius), .int .u64 (lo b.radius), .int .i64 (hi b.x), .int .u64 (lo b.x), .int .i64 (hi b.y), .int .u64 (lo b.y), .int .i64 (hi b.px), .int .u64 (lo b.px), .int .i64 (hi b.py), .int .u64 (lo b.py), .int .i64 (hi b.fuel), .int .u64 (lo b.fuel), .int .i64 (hi b.rate), .int .u64 (lo b.rate), .int .i64 (hi b.exh), .int .u64 (lo b.exh), .int .i64 b.thr, .int .i64 b.head]
theorem bodyC_size (b : BodyI) : (bodyC b).size = 20 := by unfold bodyC; rfl
theorem bodyC_0 (b : BodyI) : (bodyC b)[0]? = some (.int .i64 (hi b.mass)) := by unfold bodyC; rfl
theorem bodyC_1 (b : BodyI) : (bodyC b)[1]? = some (.int .u64 (lo b.mass)) := by unfold bodyC; rfl
theorem bodyC_2 (b : BodyI) : (bodyC b)[2]? = some (.int .i64 (hi b.radius)) := by unfold bodyC; rfl
theorem bodyC_3 (b : BodyI) : (bodyC b)[3]? = some (.int .u64 (lo b.radius)) := by unfold bodyC; rfl
theorem bodyC_4 (b : BodyI) : (bodyC b)[4]? = some (.int .i64 (hi b.x)) := by unfold bodyC; rfl
theorem bodyC_5 (b : BodyI) : (bodyC b)[5]? = some (.int .u64 (lo b.x)) := by unfold bodyC; rfl
theorem bodyC_6 (b : BodyI) : (bodyC b)[6]? = some (.int .i64 (hi b.y)) := by unfold bodyC; rfl
theorem bodyC_7 (b : BodyI) : (bodyC b)[7]? = some (.int .u64 (lo b.y)) := by unfold bodyC; rfl
theorem bodyC_8 (b : BodyI) : (bodyC b)[8]? = some (.int .i64 (hi b.px)) := by unfold bodyC; rfl
theorem bodyC_9 (b : BodyI) : (bodyC b)[9]? = some (.int .u64 (lo b.px)) := by unfold bodyC; rfl
theorem bodyC_10 (b : BodyI) : (bodyC b)[10]? = some (.int .i64 (hi b.py)) := by unfold bodyC; rfl
theorem bodyC_11 (b : BodyI) : (bodyC b)[11]? = some (.int .u64 (lo b.py)) := by unfold bodyC; rfl
theorem bodyC_12 (b : BodyI) : (bodyC b)[12]? = some (.int .i64 (hi b.fuel)) := by unfold bodyC; rfl
theorem bodyC_13 (b : BodyI) : (bodyC b)[13]? = some (.int .u64 (lo b.fuel)) := by unfold bodyC; rfl
theorem bodyC_14 (b : BodyI) : (bodyC b)[14]? = some (.int .i64 (hi b.rate)) := by unfold bodyC; rfl
theorem bodyC_15 (b : BodyI) : (bodyC b)[15]? = some (.int .u64 (lo b.rate)) := by unfold bodyC; rfl
theorem bodyC_16 (b : BodyI) : (bodyC b)[16]? = some (.int .i64 (hi b.exh)) := by unfold bodyC; rfl
theorem bodyC_17 (b : BodyI) : (bodyC b)[17]? = some (.int .u64 (lo b.exh)) := by unfold bodyC; rfl
theorem bodyC_18 (b : BodyI) : (bodyC b)[18]? = some (.int .i64 b.thr) := by unfold bodyC; rfl
theorem bodyC_19 (b : BodyI) : (bodyC b)[19]? = some (.int .i64 b.head) := by unfold bodyC; rfl
/-- all that is reckoned with may be -/
structure MayN (b : BodyI) : Prop where
  mass : R b.mass
  radius : R b.radius
  x : R b.x
  y : R b.y
  px : R b.px
  py : R b.py
  fuel : R b.fuel
def speedX (b : BodyI) : Except Int (Int × Int) := overV b.px b.py b.mass
theorem GoodV.speed (b : BodyI) : GoodV (speedX b) := GoodV.over _ _ _
/-- the reckoner's over -/
def ovL (E dx dy : Int) : Int := rN E (dotX dx dy dx dy)
def ovE1 (E dx dy : Int) : Int := rE E (dotX dx dy dx dy)
def ovS (E : Int) (ra rb dx dy : Int) : Int := rN (ovE1 E dx dy) (addX ra rb)
def ovE2 (E : Int) (ra rb dx dy : Int) : Int := rE (ovE1 E dx dy) (addX ra rb)
def ovM (E : Int) (ra rb dx dy : Int) : Int := rN (ovE2 E ra rb dx dy) (mulX (ovS E ra rb dx dy) (ovS E ra rb dx dy))
def ovE (E : Int) (ra rb dx dy : Int) : Int := rE (ovE2 E ra rb dx dy) (mulX (ovS E ra rb dx dy) (ovS E ra rb dx dy))
def ovB (E : Int) (ra rb dx dy : Int) : Bool := decide (ovL E dx dy < ovM E ra rb dx dy) && (ovE E ra rb dx dy == 0)
/-- do two touch? -/
def overX (a b : BodyI) : Except Int Bool := do
  let d ← subV b.x b.y a.x a.y
  let l ← dotX d.1 d.2 d.1 d.2
  let s ← addX a.radius b.radius
  let m ← mulX s s
  return decide (l < m)
end Go.Proofs.Ytdphhkbbphfjlaa

namespace Go.Proofs.Ytdphhkbbphfjlaa
set_option linter.unusedVariables false
set_option linter.unusedSimpArgs false
open Go.RowKit

theorem bind_ok {α β : Type} (a : α) (f : α → Except Int β) : (Except.ok a >>= f) = f a := rfl
theorem bind_err {α β : Type} (e : Int) (f : α → Except Int β) : (Except.error e >>= f) = Except.error e := rfl
theorem pure_ok {α : Type} (a : α) : (pure a : Except Int α) = Except.ok a := rfl
/-- one -/
def one : Int := 18446744073709551616
/-- how fast two part -/
def closingX (a b : BodyI) (dx dy : Int) : Except Int Int := do
  let u ← speedX a
  let v ← speedX b
  let w ← subV v.1 v.2 u.1 u.2
  dotX dx dy w.1 w.2
/-- the mass by which two meet -/
def reducedX (a b : BodyI) : Except Int Int := do
  let p ← mulX a.mass b.mass
  let s ← addX a.mass b.mass
  divX p s
/-- the blow that two get, where they get one -/
def blowX (a b : BodyI) (k : Int) : Except Int (Option (Int × Int)) := do
  let o ← overX a b
  if o = false then return none
  let d ← subV b.x b.y a.x a.y
  let l ← dotX d.1 d.2 d.1 d.2
  if l = 0 then return none
  let v ← closingX a b d.1 d.2
  if 0 ≤ v then return none
  let r ← reducedX a b
  let k1 ← addX one k
  let k2 ← mulX k1 r
  let k3 ← mulX k2 v
  let k4 ← divX k3 l
  let j ← scaleV d.1 d.2 k4
  return some (-j.1, -j.2)
def okB (r : Except Int Bool) : Bool := match r with | .ok b => b | .error _ => false
theorem okB_ok (b : Bool) : okB (.ok b) = b := rfl
theorem okB_err (e : Int) : okB (.error e) = false := rfl
/-- a blow's ways, whether there is one -/
def hitV (r : Except Int (Option (Int × Int))) : Int × Int := match r with | .ok (some p) => p | _ => (0, 0)
def hitB (r : Except Int (Option (Int × Int))) : Bool := match r with | .ok (some _) => true | _ => false
theorem hitV_some (p : Int × Int) : hitV (.ok (some p)) = p := rfl
theorem hitV_none : hitV (.ok none) = (0, 0) := rfl
theorem hitV_err (e : Int) : hitV (.error e) = (0, 0) := rfl
theorem hitB_some (p : Int × Int) : hitB (.ok (some p)) = true := rfl
theorem hitB_none : hitB (.ok none) = false := rfl
theorem hitB_err (e : Int) : hitB (.error e) = false := rfl
theorem GoodX.closing (a b : BodyI) (dx dy : Int) : Good (closingX a b dx dy) := by
  unfold closingX
  rcases GoodV.speed a with ⟨p, h, _, _⟩ | h | h <;> rw [h]
  · rw [bind_ok]
    rcases GoodV.speed b with ⟨q, h, _, _⟩ | h | h <;> rw [h]
    · rw [bind_ok]
      rcases GoodV.sub q.1 q.2 p.1 p.2 with ⟨r, h, _, _⟩ | h | h <;> rw [h]
      · rw [bind_ok]; exact Good.dot _ _ _ _
      · exact .inr (.inl rfl)
      · exact .inr (.inr rfl)
    · exact .inr (.inl rfl)
    · exact .inr (.inr rfl)
  · exact .inr (.inl rfl)
  · exact .inr (.inr rfl)
theorem GoodX.reduced (a b : BodyI) : Good (reducedX a b) := by
  unfold reducedX
  rcases Good.mul a.mass b.mass with ⟨p, h, _⟩ | h | h <;> rw [h]
  · rw [bind_ok]
    rcases Good.add a.mass b.mass with ⟨q, h, _⟩ | h | h <;> rw [h]
    · rw [bind_ok]; exact Good.div _ _
    · exact .inr (.inl rfl)
    · exact .inr (.inr rfl)
  · exact .inr (.inl rfl)
  · exact .inr (.inr rfl)
end Go.Proofs.Ytdphhkbbphfjlaa

namespace Go.Proofs.Ytdphhkbbphfjlaa
set_option linter.unusedVariables false
set_option linter.unusedSimpArgs false
open Go.RowKit

theorem ov_spec (a b : BodyI) : ovB (eOf (subV b.x b.y a.x a.y)) a.radius b.radius (xOf (subV b.x b.y a.x a.y)) (yOf (subV b.x b.y a.x a.y)) = okB (overX a b) ∧ ovE (eOf (subV b.x b.y a.x a.y)) a.radius b.radius (xOf (subV b.x b.y a.x a.y)) (yOf (subV b.x b.y a.x a.y)) = eOf (overX a b) := by
  unfold overX ovB ovE ovM ovE2 ovS ovE1 ovL
  rcases GoodV.sub b.x b.y a.x a.y with ⟨p, h, _, _⟩ | h | h <;> rw [h]
  · rcases Good.dot p.1 p.2 p.1 p.2 with ⟨l, h, _⟩ | h | h
    · rcases Good.add a.radius b.radius with ⟨s, h2, _⟩ | h2 | h2
      · rcases Good.mul s s with ⟨m, h3, _⟩ | h3 | h3 <;> simp [h, h2, h3, rE, rN, eOf, nOf, xOf, yOf, okB, bind_ok, bind_err, pure_ok]
      · simp [h, h2, rE, rN, eOf, nOf, xOf, yOf, okB, bind_ok, bind_err]
      · simp [h, h2, rE, rN, eOf, nOf, xOf, yOf, okB, bind_ok, bind_err]
    · simp [h, rE, rN, eOf, nOf, xOf, yOf, okB, bind_ok, bind_err]
    · simp [h, rE, rN, eOf, nOf, xOf, yOf, okB, bind_ok, bind_err]
  · simp [rE, rN, eOf, nOf, xOf, yOf, okB, bind_ok, bind_err]
  · simp [rE, rN, eOf, nOf, xOf, yOf, okB, bind_ok, bind_err]
theorem ov_spec2 (a b : BodyI) {dx dy : Int} (hd : subV b.x b.y a.x a.y = .ok (dx, dy)) : ovB 0 a.radius b.radius dx dy = okB (overX a b) ∧ ovE 0 a.radius b.radius dx dy = eOf (overX a b) := by
  have h := ov_spec a b
  rw [hd] at h
  exact h
def cE1 (a b : BodyI) : Int := rE (eOf (speedX a)) (speedX b)
def cW (a b : BodyI) : Except Int (Int × Int) := subV (rX (eOf (speedX a)) (speedX b)) (rY (eOf (speedX a)) (speedX b)) (xOf (speedX a)) (yOf (speedX a))
theorem clo_spec (a b : BodyI) (dx dy : Int) :
    rE (rE (cE1 a b) (cW a b)) (dotX dx dy (rX (cE1 a b) (cW a b)) (rY (cE1 a b) (cW a b))) = eOf (closingX a b dx dy) ∧ rN (rE (cE1 a b) (cW a b)) (dotX dx dy (rX (cE1 a b) (cW a b)) (rY (cE1 a b) (cW a b))) = nOf (closingX a b dx dy) := by
  unfold closingX cE1 cW
  rcases GoodV.speed a with ⟨p, h, _, _⟩ | h | h <;> rw [h]
  · rcases GoodV.speed b with ⟨q, h, _, _⟩ | h | h <;> rw [h]
    · rcases GoodV.sub q.1 q.2 p.1 p.2 with ⟨z, h, _, _⟩ | h | h
      · rcases Good.dot dx dy z.1 z.2 with ⟨n, h2, _⟩ | h2 | h2 <;> simp [h, h2, rE, rN, rX, rY, eOf, nOf, xOf, yOf, bind_ok, bind_err]
      · simp [h, rE, rN, rX, rY, eOf, nOf, xOf, yOf, bind_ok, bind_err]
      · simp [h, rE, rN, rX, rY, eOf, nOf, xOf, yOf, bind_ok, bind_err]
    · simp [rE, rN, rX, rY, eOf, nOf, xOf, yOf, bind_ok, bind_err]
    · simp [rE, rN, rX, rY, eOf, nOf, xOf, yOf, bind_ok, bind_err]
  · simp [rE, rN, rX, rY, eOf, nOf, xOf, yOf, bind_ok, bind_err]
  · simp [rE, rN, rX, rY, eOf, nOf, xOf, yOf, bind_ok, bind_err]
theorem red_spec (a b : BodyI) :
    rE (rE (eOf (mulX a.mass b.mass)) (addX a.mass b.mass)) (divX (nOf (mulX a.mass b.mass)) (rN (eOf (mulX a.mass b.mass)) (addX a.mass b.mass))) = eOf (reducedX a b) ∧ rN (rE (eOf (mulX a.mass b.mass)) (addX a.mass b.mass)) (divX (nOf (mulX a.mass b.mass)) (rN (eOf (mulX a.mass b.mass)) (addX a.mass b.mass))) = nOf (reducedX a b) := by
  unfold reducedX
  rcases Good.mul a.mass b.mass with ⟨p, h, _⟩ | h | h <;> rw [h]
  · rcases Good.add a.mass b.mass with ⟨q, h, _⟩ | h | h <;> rw [h]
    · rcases Good.div p q with ⟨z, h, _⟩ | h | h <;> simp [h, rE, rN, eOf, nOf, bind_ok, bind_err]
    · simp [rE, rN, eOf, nOf, bind_ok, bind_err]
    · simp [rE, rN, eOf, nOf, bind_ok, bind_err]
  · simp [rE, rN, eOf, nOf, bind_ok, bind_err]
  · simp [rE, rN, eOf, nOf, bind_ok, bind_err]
/-- (1 + k) * r * v -/
def tailX (r : Except Int Int) (k v : Int) : Except Int Int := do
  let r ← r
  let k1 ← addX one k
  let k2 ← mulX k1 r
  mulX k2 v
def tE1 (r : Except Int Int) (k : Int) : Int := rE (eOf r) (addX one k)
def tK1 (r : Except Int Int) (k : Int) : Int := rN (eOf r) (addX one k)
def tE2 (r : Except Int Int) (k : Int) : Int := rE (tE1 r k) (mulX (tK1 r k) (nOf r))
def tK2 (r : Except Int Int) (k : Int) : Int := rN (tE1 r k) (mulX (tK1 r k) (nOf r))
theorem tail_spec {r : Except Int Int} (hr : Good r) (k v : Int) :
    rE (tE2 r k) (mulX (tK2 r k) v) = eOf (tailX r k v) ∧ rN (tE2 r k) (mulX (tK2 r k) v) = nOf (tailX r k v) := by
  unfold tailX tE2 tK2 tE1 tK1
  rcases hr with ⟨p, rfl, _⟩ | rfl | rfl
  · rcases Good.add one k with ⟨q, h, _⟩ | h | h <;> rw [h]
    · rcases Good.mul q p with ⟨z, h, _⟩ | h | h
      · rcases Good.mul z v with ⟨y, h2, _⟩ | h2 | h2 <;> simp [h, h2, rE, rN, eOf, nOf, bind_ok, bind_err]
      · simp [h, rE, rN, eOf, nOf, bind_ok, bind_err]
      · simp [h, rE, rN, eOf, nOf, bind_ok, bind_err]
    · simp [rE, rN, eOf, nOf, bind_ok, bind_err]
    · simp [rE, rN, eOf, nOf, bind_ok, bind_err]
  · simp [rE, rN, eOf, nOf, bind_ok, bind_err]
  · simp [rE, rN, eOf, nOf, bind_ok, bind_err]
theorem GoodX.tail {r : Except Int Int} (hr : Good r) (k v : Int) : Good (tailX r k v) := by
  unfold tailX
  rcases hr with ⟨p, rfl, _⟩ | rfl | rfl
  · rw [bind_ok]
    rcases Good.add one k with ⟨q, h, _⟩ | h | h <;> rw [h]
    · rw [bind_ok]
      rcases Good.mul q p with ⟨z, h, _⟩ | h | h <;> rw [h]
      · rw [bind_ok]; exact Good.mul _ _
      · exact .inr (.inl rfl)
      · exact .inr (.inr rfl)
    · exact .inr (.inl rfl)
    · exact .inr (.inr rfl)
  · exact .inr (.inl rfl)
  · exact .inr (.inr rfl)
/-- t / l, so often the way -/
def jX (t : Except Int Int) (l dx dy : Int) : Except Int (Int × Int) := do
  let t ← t
  let k4 ← divX t l
  scaleV dx dy k4
theorem j_spec {t : Except Int Int} (ht : Good t) (l dx dy : Int) :
    rE (rE (eOf t) (divX (nOf t) l)) (scaleV dx dy (rN (eOf t) (divX (nOf t) l))) = eOf (jX t l dx dy) ∧ rX (rE (eOf t) (divX (nOf t) l)) (scaleV dx dy (rN (eOf t) (divX (nOf t) l))) = xOf (jX t l dx dy) ∧ rY (rE (eOf t) (divX (nOf t) l)) (scaleV dx dy (rN (eOf t) (divX (nOf t) l))) = yOf (jX t l dx dy) := by
  unfold jX
  rcases ht with ⟨p, rfl, _⟩ | rfl | rfl
  · rcases Good.div p l with ⟨q, h, _⟩ | h | h
    · rcases GoodV.scale dx dy q with ⟨z, h2, _, _⟩ | h2 | h2 <;> simp [h, h2, rE, rN, rX, rY, eOf, nOf, xOf, yOf, bind_ok, bind_err]
    · simp [h, rE, rN, rX, rY, eOf, nOf, xOf, yOf, bind_ok, bind_err]
    · simp [h, rE, rN, rX, rY, eOf, nOf, xOf, yOf, bind_ok, bind_err]
  · simp [rE, rN, rX, rY, eOf, nOf, xOf, yOf, bind_ok, bind_err]
  · simp [rE, rN, rX, rY, eOf, nOf, xOf, yOf, bind_ok, bind_err]
theorem GoodX.j {t : Except Int Int} (ht : Good t) (l dx dy : Int) : GoodV (jX t l dx dy) := by
  unfold jX
  rcases ht with ⟨p, rfl, _⟩ | rfl | rfl
  · rw [bind_ok]
    rcases Good.div p l with ⟨q, h, _⟩ | h | h <;> rw [h]
    · rw [bind_ok]; exact GoodV.scale _ _ _
    · exact .inr (.inl rfl)
    · exact .inr (.inr rfl)
  · exact .inr (.inl rfl)
  · exact .inr (.inr rfl)
/-- a blow, step by step -/
theorem blow_err {a b : BodyI} {k e : Int} (ho : overX a b = .error e) : blowX a b k = .error e := by unfold blowX; rw [ho, bind_err]
theorem blow_off {a b : BodyI} {k : Int} (ho : overX a b = .ok false) : blowX a b k = .ok none := by unfold blowX; rw [ho, bind_ok]; rfl
theorem blow_at {a b : BodyI} {k dx dy : Int} (ho : overX a b = .ok true) (hd : subV b.x b.y a.x a.y = .ok (dx, dy)) (hl : dotX dx dy dx dy = .ok 0) : blowX a b k = .ok none := by
  unfold blowX; rw [ho, bind_ok, if_neg (by decide), hd, bind_ok]; show (dotX dx dy dx dy >>= _) = _; rw [hl, bind_ok, if_pos rfl]; rfl
theorem blow_on {a b : BodyI} {k dx dy l : Int} (ho : overX a b = .ok true) (hd : subV b.x b.y a.x a.y = .ok (dx, dy)) (hl : dotX dx dy dx dy = .ok l) (h0 : ¬ l = 0) :
    blowX a b k = (closingX a b dx dy >>= fun v => if 0 ≤ v then .ok none else (jX (tailX (reducedX a b) k v) l dx dy >>= fun j => .ok (some (-j.1, -j.2)))) := by
  unfold blowX; rw [ho, bind_ok, if_neg (by decide), hd, bind_ok]; show (dotX dx dy dx dy >>= _) = _; rw [hl, bind_ok, if_neg h0]
  show (closingX a b dx dy >>= _) = _
  congr 1
  funext v
  by_cases hv : 0 ≤ v
  · rw [if_pos hv, if_pos hv]; rfl
  · rw [if_neg hv, if_neg hv]
    unfold jX tailX
    cases reducedX a b with
    | error e => rfl
    | ok r =>
      rw [bind_ok, bind_ok]
      cases addX one k with
      | error e => rfl
      | ok k1 =>
        rw [bind_ok, bind_ok]
        cases mulX k1 r with
        | error e => rfl
        | ok k2 =>
          rw [bind_ok, bind_ok]
          cases mulX k2 v with
          | error e => rfl
          | ok k3 =>
            rw [bind_ok, bind_ok]
            cases divX k3 l with
            | error e => rfl
            | ok k4 => rfl
/-- what over tells of the way between -/
theorem over_ok {a b : BodyI} {o : Bool} (h : overX a b = .ok o) : ∃ dx dy l, subV b.x b.y a.x a.y = .ok (dx, dy) ∧ R dx ∧ R dy ∧ dotX dx dy dx dy = .ok l ∧ R l := by
  unfold overX at h
  rcases (GoodV.sub b.x b.y a.x a.y).cases with ⟨⟨dx, dy⟩, hd, r1, r2⟩ | ⟨e, hd, _⟩
  · rw [hd, bind_ok] at h
    rcases (Good.dot dx dy dx dy).cases with ⟨l, hl, rl⟩ | ⟨e, hl, _⟩
    · exact ⟨dx, dy, l, hd, r1, r2, hl, rl⟩
    · rw [show dotX (dx, dy).1 (dx, dy).2 (dx, dy).1 (dx, dy).2 = dotX dx dy dx dy from rfl, hl, bind_err] at h; cases h
  · rw [hd, bind_err] at h; cases h
theorem GoodX.over (a b : BodyI) : (∃ o, overX a b = .ok o) ∨ ∃ e, overX a b = .error e ∧ (e != 0) = true := by
  cases h : overX a b with
  | ok o => exact .inl ⟨o, rfl⟩
  | error e =>
    refine .inr ⟨e, rfl, ?_⟩
    unfold overX at h
    rcases (GoodV.sub b.x b.y a.x a.y).cases with ⟨d, hd, _, _⟩ | ⟨e', hd, he⟩
    · rw [hd, bind_ok] at h
      rcases (Good.dot d.1 d.2 d.1 d.2).cases with ⟨l, hl, _⟩ | ⟨e', hl, he⟩
      · rw [hl, bind_ok] at h
        rcases (Good.add a.radius b.radius).cases with ⟨s, hs, _⟩ | ⟨e', hs, he⟩
        · rw [hs, bind_ok] at h
          rcases (Good.mul s s).cases with ⟨m, hm, _⟩ | ⟨e', hm, he⟩
          · rw [hm, bind_ok] at h; cases h
          · rw [hm, bind_err] at h; cases h; exact he
        · rw [hs, bind_err] at h; cases h; exact he
      · rw [hl, bind_err] at h; cases h; exact he
    · rw [hd, bind_err] at h; cases h; exact he
end Go.Proofs.Ytdphhkbbphfjlaa
