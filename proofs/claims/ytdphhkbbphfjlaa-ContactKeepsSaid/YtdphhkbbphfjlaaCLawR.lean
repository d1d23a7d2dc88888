/- How a body, a number with a point that come in read. -/
import Derived.Test.YtdphhkbbphfjlaaCSpecB
import Derived.Test.YtdphhkbbphfjlaaRows
import Derived.WalkKit
import Derived.ProofKit
import Derived.OpenShut
import Derived.Below
namespace Go.Proofs.Ytdphhkbbphfjlaa
set_option linter.unusedVariables false
set_option linter.unusedSimpArgs false
open Go.ChangeShapes Go.WideShapes Go.ChangeAt Go.RowKit
variable {H : Type} {enc : TypeId × Value → H} {w : World} {base : Nat} {spare : Nat → Bool} {held : Bool}
theorem own : ownKnob Try.prog.godebug = none := by kernel_rfl
theorem laidOut : laidOutB Try.prog = true := by kernel_rfl
theorem trod_fld {t : TypeId} {fs : Array Field} {n : Nat} {cs : List Value} {y : DataW H × List MemPlace} (ht : Try.prog.underlying t = some (.struct fs)) (h : DataW.trod enc Try.prog w base spare held n t cs = some y) :
    cs.length = Try.prog.cellsOf t ∧ ∀ (i : Nat) (ty : TypeId) (off sz : Nat), fs[i]?.map (fun f => (f.type, f.offset)) = some (ty, off) → Try.prog.cellsOf ty = sz → ∃ m z, DataW.trod enc Try.prog w base spare held m ty ((cs.drop off).take sz) = some z := by
  obtain ⟨xs, n, _, rfl, hl, hlen, hf⟩ := DataW.trod_struct ht h
  refine ⟨hl, fun i ty off sz hi hs => ?_⟩
  cases hx : fs[i]? with
  | none => rw [hx] at hi; cases hi
  | some f =>
    rw [hx] at hi
    simp only [Option.map_some, Option.some.injEq, Prod.mk.injEq] at hi
    obtain ⟨rfl, rfl⟩ := hi
    subst hs
    have e := hf i f hx
    have hlt : i < xs.length := by
      rw [hlen]
      exact (Array.getElem?_eq_some_iff.1 hx).1
    rw [List.getElem?_eq_getElem hlt] at e
    exact ⟨n, _, e⟩
theorem wf_I64 {n : Int} (h : (Lit.int .i64 n).wf = true) : I64 n := by
  have := bounds_i64 h
  unfold I64; omega
theorem wf_W64 {n : Int} (h : (Lit.int .u64 n).wf = true) : W64 n := by
  have := bounds_u64 h
  unfold W64; omega
set_option maxRecDepth 100000 in
theorem trod_fix {n : Nat} {cs : List Value} {y : DataW H × List MemPlace} (h : DataW.trod enc Try.prog w base spare held n 24 cs = some y) :
    ∃ x : Int, cs = [.int .i64 (hi x), .int .u64 (lo x)] ∧ I64 (hi x) := by
  obtain ⟨hl, hf⟩ := trod_fld Try.underlying24 h
  have hc : Try.prog.cellsOf 24 = 2 := by kernel_rfl
  rw [hc] at hl
  obtain ⟨m0, z0, h0⟩ := hf 0 2 0 1 (by kernel_rfl) (by kernel_rfl)
  obtain ⟨m1, z1, h1⟩ := hf 1 22 1 1 (by kernel_rfl) (by kernel_rfl)
  obtain ⟨a, e0, _, w0⟩ := DataW.trod_int Try.underlying2 h0
  obtain ⟨b, e1, _, w1⟩ := DataW.trod_int Try.underlying22 h1
  match cs, hl with
  | [c0, c1], _ =>
    have f0 : c0 = .int .i64 a := by simpa using e0
    have f1 : c1 = .int .u64 b := by simpa using e1
    subst f0 f1
    have hb := wf_W64 w1
    refine ⟨val a b, ?_, ?_⟩
    · rw [hi_val hb, lo_val hb]
    · rw [hi_val hb]; exact wf_I64 w0
theorem len4 {l : List Value} (h : l.length = 4) : l = (l.drop 0).take 2 ++ (l.drop 2).take 2 := by
  match l, h with
  | [_, _, _, _], _ => rfl
set_option maxRecDepth 100000 in
theorem trod_vec {n : Nat} {cs : List Value} {y : DataW H × List MemPlace} (h : DataW.trod enc Try.prog w base spare held n 26 cs = some y) :
    ∃ x y : Int, cs = [.int .i64 (hi x), .int .u64 (lo x), .int .i64 (hi y), .int .u64 (lo y)] ∧ I64 (hi x) ∧ I64 (hi y) := by
  obtain ⟨hl, hf⟩ := trod_fld Try.underlying26 h
  have hc : Try.prog.cellsOf 26 = 4 := by kernel_rfl
  rw [hc] at hl
  obtain ⟨m0, z0, h0⟩ := hf 0 24 0 2 (by kernel_rfl) (by kernel_rfl)
  obtain ⟨m1, z1, h1⟩ := hf 1 24 2 2 (by kernel_rfl) (by kernel_rfl)
  obtain ⟨a, e0, w0⟩ := trod_fix h0
  obtain ⟨b, e1, w1⟩ := trod_fix h1
  refine ⟨a, b, ?_, w0, w1⟩
  rw [len4 hl, e0, e1]; rfl
theorem len20 {l : List Value} (h : l.length = 20) : l = (l.drop 0).take 2 ++ ((l.drop 2).take 2 ++ ((l.drop 4).take 4 ++ ((l.drop 8).take 4 ++ ((l.drop 12).take 2 ++ ((l.drop 14).take 2 ++ ((l.drop 16).take 2 ++ ((l.drop 18).take 1 ++ (l.drop 19).take 1))))))) := by
  match l, h with
  | [_, _, _, _, _, _, _, _, _, _, _, _, _, _, _, _, _, _, _, _], _ => rfl
set_option maxRecDepth 100000 in
theorem trod_body {n : Nat} {cs : List Value} {y : DataW H × List MemPlace} (h : DataW.trod enc Try.prog w base spare held n 28 cs = some y) :
    ∃ b : BodyI, cs = [.int .i64 (hi b.mass), .int .u64 (lo b.mass), .int .i64 (hi b.radius), .int .u64 (lo b.radius), .int .i64 (hi b.x), .int .u64 (lo b.x), .int .i64 (hi b.y), .int .u64 (lo b.y), .int .i64 (hi b.px), .int .u64 (lo b.px), .int .i64 (hi b.py), .int .u64 (lo b.py), .int .i64 (hi b.fuel), .int .u64 (lo b.fuel), .int .i64 (hi b.rate), .int .u64 (lo b.rate), .int .i64 (hi b.exh), .int .u64 (lo b.exh), .int .i64 b.thr, .int .i64 b.head] ∧
      I64 (hi b.mass) ∧ I64 (hi b.radius) ∧ I64 (hi b.x) ∧ I64 (hi b.y) ∧ I64 (hi b.px) ∧ I64 (hi b.py) ∧ I64 (hi b.fuel) ∧ I64 (hi b.rate) ∧ I64 (hi b.exh) := by
  obtain ⟨hl, hf⟩ := trod_fld Try.underlying28 h
  have hc : Try.prog.cellsOf 28 = 20 := by kernel_rfl
  rw [hc] at hl
  obtain ⟨_, _, k0⟩ := hf 0 24 0 2 (by kernel_rfl) (by kernel_rfl)
  obtain ⟨_, _, k1⟩ := hf 1 24 2 2 (by kernel_rfl) (by kernel_rfl)
  obtain ⟨_, _, k2⟩ := hf 2 26 4 4 (by kernel_rfl) (by kernel_rfl)
  obtain ⟨_, _, k3⟩ := hf 3 26 8 4 (by kernel_rfl) (by kernel_rfl)
  obtain ⟨_, _, k4⟩ := hf 4 24 12 2 (by kernel_rfl) (by kernel_rfl)
  obtain ⟨_, _, k5⟩ := hf 5 24 14 2 (by kernel_rfl) (by kernel_rfl)
  obtain ⟨_, _, k6⟩ := hf 6 24 16 2 (by kernel_rfl) (by kernel_rfl)
  obtain ⟨_, _, k7⟩ := hf 7 3 18 1 (by kernel_rfl) (by kernel_rfl)
  obtain ⟨_, _, k8⟩ := hf 8 3 19 1 (by kernel_rfl) (by kernel_rfl)
  obtain ⟨m, e0, w0⟩ := trod_fix k0
  obtain ⟨r, e1, w1⟩ := trod_fix k1
  obtain ⟨x, y, e2, w2, w3⟩ := trod_vec k2
  obtain ⟨p, q, e3, w4, w5⟩ := trod_vec k3
  obtain ⟨f, e4, w6⟩ := trod_fix k4
  obtain ⟨t, e5, w7⟩ := trod_fix k5
  obtain ⟨u, e6, w8⟩ := trod_fix k6
  obtain ⟨c, e7, _, _⟩ := DataW.trod_int Try.underlying3 k7
  obtain ⟨d, e8, _, _⟩ := DataW.trod_int Try.underlying3 k8
  refine ⟨⟨m, r, x, y, p, q, f, t, u, c, d⟩, ?_, w0, w1, w2, w3, w4, w5, w6, w7, w8⟩
  rw [len20 hl, e0, e1, e2, e3, e4, e5, e6, e7, e8]; rfl
end Go.Proofs.Ytdphhkbbphfjlaa
