/- Plain numbers behind the walks: a number of two words. -/
import Derived.Test.YtdphhkbbphfjlaaProg
import Derived.WalkKit
import Derived.WalkSpells
import Derived.WalkLawsBesides
import Derived.KernelRfl
import Derived.Lib.Hide
import Derived.Laws.Externs
namespace Go.Proofs.Ytdphhkbbphfjlaa
set_option linter.unusedVariables false
set_option linter.unusedSimpArgs false
open Go.RowKit

def hi (x : Int) : Int := x / 18446744073709551616
def lo (x : Int) : Int := x % 18446744073709551616
def val (h l : Int) : Int := h * 18446744073709551616 + l
/-- a word of 64 bits, unsigned -/
def W64 (x : Int) : Prop := 0 ≤ x ∧ x < 18446744073709551616
/-- a carry -/
def C01 (x : Int) : Prop := 0 ≤ x ∧ x ≤ 1
theorem W64_lo (x : Int) : W64 (lo x) := by unfold W64 lo; omega
theorem val_hl (x : Int) : val (hi x) (lo x) = x := by unfold val hi lo; omega
theorem hi_val {h l : Int} (hl : W64 l) : hi (val h l) = h := by unfold val hi; unfold W64 at hl; omega
theorem lo_val {h l : Int} (hl : W64 l) : lo (val h l) = l := by unfold val lo; unfold W64 at hl; omega
/-- the words of a number, the lowest first -/
def q0 (x : Int) : Int := lo x
def q1 (x : Int) : Int := lo (hi x)
def q2 (x : Int) : Int := lo (hi (hi x))
def q3 (x : Int) : Int := lo (hi (hi (hi x)))
/-- the number of four words -/
def v4 (a b c d : Int) : Int := val (val (val a b) c) d
/-- a number of four words, what is beyond them dropped -/
def w4 (x : Int) : Int := x % 115792089237316195423570985008687907853269984665640564039457584007913129639936
theorem v4_q (x : Int) : v4 (q3 x) (q2 x) (q1 x) (q0 x) = w4 x := by unfold v4 q3 q2 q1 q0 w4 val lo hi; omega
theorem q_v4 {a b c d : Int} (ha : W64 a) (hb : W64 b) (hc : W64 c) (hd : W64 d) : q3 (v4 a b c d) = a ∧ q2 (v4 a b c d) = b ∧ q1 (v4 a b c d) = c ∧ q0 (v4 a b c d) = d := by
  unfold W64 at *; unfold v4 q3 q2 q1 q0 val lo hi; refine ⟨?_, ?_, ?_, ?_⟩ <;> omega
theorem W64_q0 (x : Int) : W64 (q0 x) := W64_lo _
theorem W64_q1 (x : Int) : W64 (q1 x) := W64_lo _
theorem W64_q2 (x : Int) : W64 (q2 x) := W64_lo _
theorem W64_q3 (x : Int) : W64 (q3 x) := W64_lo _
theorem val_00 : val 0 0 = 0 := by unfold val; omega
theorem W64_0 : W64 0 := by unfold W64; omega
theorem W64_1 : W64 1 := by unfold W64; omega
theorem lo_lo (x : Int) : lo (lo x) = lo x := by unfold lo; omega
theorem hi_lo (x : Int) : hi (lo x) = 0 := by unfold hi lo; omega
theorem lo_w {x : Int} (h : W64 x) : lo x = x := by unfold lo; unfold W64 at h; omega
theorem hi_w {x : Int} (h : W64 x) : hi x = 0 := by unfold hi; unfold W64 at h; omega
theorem C01_0 : C01 0 := by unfold C01; omega
theorem C01_add {x y c : Int} (hx : W64 x) (hy : W64 y) (hc : C01 c) : C01 (hi (x + y + c)) := by unfold C01 W64 hi at *; omega
theorem C01_sub {x y c : Int} (hx : W64 x) (hy : W64 y) (hc : C01 c) : C01 (-hi (x - y - c)) := by unfold C01 W64 hi at *; omega
theorem W64_C01 {x : Int} (h : C01 x) : W64 x := by unfold C01 W64 at *; omega

theorem C01_add0 {x y : Int} (hx : W64 x) (hy : W64 y) : C01 (hi (x + y)) := by unfold C01 W64 hi at *; omega
theorem C01_sub0 {x y : Int} (hx : W64 x) (hy : W64 y) : C01 (-hi (x - y)) := by unfold C01 W64 hi at *; omega
/-- a number of two words, what is beyond them dropped -/
def w2 (x : Int) : Int := x % 340282366920938463463374607431768211456
/-- is a number beyond two words? -/
def ov2 (x : Int) : Bool := decide (340282366920938463463374607431768211456 ≤ x)

theorem Try.run_add64 {x y c : Int} (hx : W64 x) (hy : W64 y) (hc : C01 c) (w : World) :
    (callFunc 132 #[.int .u64 x, .int .u64 y, .int .u64 c]).run Try.prog w =
      .ok (.value (.tuple #[.int .u64 (lo (x + y + c)), .int .u64 (hi (x + y + c))])) w := by
  rw [run_callFunc_extern Try.func132 (by kernel_rfl) (by kernel_rfl) (by kernel_rfl) (e := add64Entry) (by kernel_rfl), Go.run_add64 x y c hx.1 hy.1 hc.1 hc.2]
  rfl

def sub64Entry : Array Value → Sem Value := fun args => do
  let (x, y, b) ← Extern.MathBitsCarry.three "Sub64" args
  pure (Extern.MathBitsCarry.pair ((x + Extern.MathBitsCarry.m64 - y - b) % Extern.MathBitsCarry.m64) (if x < y + b then 1 else 0))
theorem run_sub64E {P : Program} (x y b : Nat) (hb : b ≤ 1) (w : World) :
    (sub64Entry #[.int .u64 x, .int .u64 y, .int .u64 b]).run P w =
      .ok (.tuple #[.int .u64 (((x + 18446744073709551616 - y - b) % 18446744073709551616 : Nat) : Int), .int .u64 ((if x < y + b then 1 else 0 : Nat) : Int)]) w := by
  have : b = 0 ∨ b = 1 := by omega
  rcases this with rfl | rfl <;> rfl
theorem Try.run_sub64 {x y c : Int} (hx : W64 x) (hy : W64 y) (hc : C01 c) (w : World) :
    (callFunc 134 #[.int .u64 x, .int .u64 y, .int .u64 c]).run Try.prog w =
      .ok (.value (.tuple #[.int .u64 (lo (x - y - c)), .int .u64 (-hi (x - y - c))])) w := by
  unfold W64 at hx hy; unfold C01 at hc
  obtain ⟨X, rfl⟩ := Int.eq_ofNat_of_zero_le hx.1
  obtain ⟨Y, rfl⟩ := Int.eq_ofNat_of_zero_le hy.1
  obtain ⟨C, rfl⟩ := Int.eq_ofNat_of_zero_le hc.1
  rw [run_callFunc_extern Try.func134 (by kernel_rfl) (by kernel_rfl) (by kernel_rfl) (e := sub64Entry) (by kernel_rfl), run_sub64E X Y C (by omega)]
  simp only [Result.andThen]
  have e1 : (((X + 18446744073709551616 - Y - C) % 18446744073709551616 : Nat) : Int) = ((X : Int) - Y - C) % 18446744073709551616 := by omega
  have e2 : ((if X < Y + C then 1 else 0 : Nat) : Int) = -(((X : Int) - Y - C) / 18446744073709551616) := by split <;> omega
  rw [e1, e2]
  rfl

/-- '==' of two pairs -/
def eq2 (a b c d : Int) : Bool := decide (a = c) && decide (b = d)
theorem Try.two_eql (a b c d : Int) (w : World) : (binOp .eql 53 (.agg #[.int .u64 a, .int .u64 b]) (.agg #[.int .u64 c, .int .u64 d])).run Try.prog w = .ok (.bool (eq2 a b c d)) w := by
  unfold eq2
  by_cases h1 : a = c <;> by_cases h2 : b = d <;> go_simp <;> simp [h1, h2]
theorem bcell {W w1 : World} (hb : Below W.heap.size W w1) : (∀ b o, b < W.heap.size → w1.cell? ⟨b, o, none⟩ = W.cell? ⟨b, o, none⟩) ∧ (∀ b o, b < W.heap.size → w1.frozen? ⟨b, o, none⟩ = W.frozen? ⟨b, o, none⟩) :=
  ⟨fun b o h => hb.cell (p := ⟨b, o, none⟩) h, fun b o h => hb.frozen (p := ⟨b, o, none⟩) h⟩
/-- side conditions on blocks' numbers; each proof is made where it is asked -/
theorem pSd {p : Prop} (h : p := by first | omega | (simp; done) | (simp; omega)) : p := h
/-- of what was there below nothing has turned -/
theorem pBl {p : Prop} (h : p := by ((repeat (first | with_reducible exact Below.refl _ _ | (with_reducible refine Below.setCell ?_ pSd _) | (with_reducible refine Below.alloc ?_ pSd _) | (with_reducible refine Below.drew ?_) | with_reducible assumption | (with_reducible exact Hid.out (by assumption)) | (with_reducible refine Below.trans ?_ (Below.mono (Hid.out (by assumption)) pSd)))); (first | done | fail))) : p := h
theorem pBc {B : Nat} {w u : World} (hb : Below B w u) {b : Nat} (h : b < B) : (∀ o, u.cell? ⟨b, o, none⟩ = w.cell? ⟨b, o, none⟩) ∧ (∀ o, u.frozen? ⟨b, o, none⟩ = w.frozen? ⟨b, o, none⟩) :=
  ⟨fun o => hb.cell (p := ⟨b, o, none⟩) h, fun o => hb.frozen (p := ⟨b, o, none⟩) h⟩
end Go.Proofs.Ytdphhkbbphfjlaa
