/- ContactAll: for every two bodies and every bounce the law returns true; each argument reads behind the call as before. Conditions: none. -/
import Derived.Test.YtdphhkbbphfjlaaLawD
import Derived.Test.YtdphhkbbphfjlaaLawR
import Derived.WalkKit
import Derived.ProofKit
import Derived.OpenShut
import Derived.Below
set_option linter.unusedVariables false
set_option linter.unusedSimpArgs false
namespace Go.Proofs.Ytdphhkbbphfjlaa.contactAll
open Go.ChangeShapes Go.WideShapes Go.ChangeAt Go.RowKit
theorem arr_of {c : Array Value} {l : List Value} (h : c.toList = l) : c = l.toArray := by cases c; cases h; rfl
theorem walk (a b : BodyI) (k : Int) (w : World) (wa : Wide a) (wb : Wide b) (ik : I64 (hi k)) :
    Calls Try.prog 3 #[.agg #[.int .i64 (hi a.mass), .int .u64 (lo a.mass), .int .i64 (hi a.radius), .int .u64 (lo a.radius), .int .i64 (hi a.x), .int .u64 (lo a.x), .int .i64 (hi a.y), .int .u64 (lo a.y), .int .i64 (hi a.px), .int .u64 (lo a.px), .int .i64 (hi a.py), .int .u64 (lo a.py), .int .i64 (hi a.fuel), .int .u64 (lo a.fuel), .int .i64 (hi a.rate), .int .u64 (lo a.rate), .int .i64 (hi a.exh), .int .u64 (lo a.exh), .int .i64 a.thr, .int .i64 a.head], .agg #[.int .i64 (hi b.mass), .int .u64 (lo b.mass), .int .i64 (hi b.radius), .int .u64 (lo b.radius), .int .i64 (hi b.x), .int .u64 (lo b.x), .int .i64 (hi b.y), .int .u64 (lo b.y), .int .i64 (hi b.px), .int .u64 (lo b.px), .int .i64 (hi b.py), .int .u64 (lo b.py), .int .i64 (hi b.fuel), .int .u64 (lo b.fuel), .int .i64 (hi b.rate), .int .u64 (lo b.rate), .int .i64 (hi b.exh), .int .u64 (lo b.exh), .int .i64 b.thr, .int .i64 b.head], .agg #[.int .i64 (hi k), .int .u64 (lo k)]] w fun e w' => e = .returned (.bool true) ∧ Below w.heap.size w w' := by
  cases h0 : mayB a
  · exact all_f0 a b k w wa wb ik h0
  cases h1 : mayB b
  · exact all_f1 a b k w wa wb ik h0 h1
  cases h2 : decide (R k)
  · exact all_f2 a b k w wa wb ik h0 h1 h2
  cases h3 : decide (k < 0)
  · cases h4 : decide (one < k)
    · exact all_p a b k w wa wb ik h0 h1 h2 h3 h4
    · exact all_f4 a b k w wa wb ik h0 h1 h2 h3 h4
  · exact all_f3 a b k w wa wb ik h0 h1 h2 h3

set_option maxRecDepth 100000 in
theorem lifted (os : Os) (started : os.Started) (H : Type) (enc : TypeId × Value → H) :
    ReturnsInHanded {} Try.checked os 3 .any (Rows.contactAllSpec.pre6 enc Try.prog Try.f3 Rows.contactAllRow.domain false) (Rows.contactAllSpec.post enc Try.prog Try.f3 false true false false) := by
  refine returnsInHanded_of_change (C := Try.checked) own started (by kernel_rfl) Try.func3
    (ChangeSpec.witness6 (enc := enc) (C := Try.checked) false ⟨#[], #[.agg #[.int .i64 0, .int .u64 0, .int .i64 0, .int .u64 0, .int .i64 0, .int .u64 0, .int .i64 0, .int .u64 0, .int .i64 0, .int .u64 0, .int .i64 0, .int .u64 0, .int .i64 0, .int .u64 0, .int .i64 0, .int .u64 0, .int .i64 0, .int .u64 0, .int .i64 0, .int .i64 0], .agg #[.int .i64 0, .int .u64 0, .int .i64 0, .int .u64 0, .int .i64 0, .int .u64 0, .int .i64 0, .int .u64 0, .int .i64 0, .int .u64 0, .int .i64 0, .int .u64 0, .int .i64 0, .int .u64 0, .int .i64 0, .int .u64 0, .int .i64 0, .int .u64 0, .int .i64 0, .int .i64 0], .agg #[.int .i64 0, .int .u64 0]], []⟩ 8 (by kernel_rfl) (by kernel_rfl) (by kernel_rfl) (by kernel_rfl)) ?_
  intro W base args ds gs before hval0 hW hcnd _
  have hval : ∀ (j : Nat) t v, Try.f3.params[j]? = some t → args[j]? = some v → Value.okWide Try.prog W .any base t v := hval0
  have hW' := hW
  obtain ⟨p, q, hA0, hV, rfl, hfz, hnd⟩ := hW
  have hA : DataW.TrodAll enc Try.prog W 0 (fun _ => true) true Try.f3.params.toList args.toList ds p := hA0
  rw [Try.params3] at hA hval
  obtain ⟨v0, vs0, d0, ds0, p0, q0, hargs, rfl, rfl, h0, r0⟩ := trodAll_cons hA
  obtain ⟨v1, vs1, d1, ds1, p1, q1, rfl, rfl, rfl, h1, r1⟩ := trodAll_cons r0
  obtain ⟨v2, vs2, d2, ds2, p2, q2, rfl, rfl, rfl, h2, r2⟩ := trodAll_cons r1
  obtain ⟨rfl, rfl, rfl⟩ := trodAll_nil r2
  obtain rfl : args = #[v0, v1, v2] := by cases args; simp_all
  obtain ⟨rfl, rfl⟩ := trodVars_none hV
  obtain ⟨c0, rfl, z0⟩ := okWide_struct Try.underlying28 (hval 0 28 v0 rfl rfl)
  have k0 := h0
  have lt0 : ∀ x ∈ p0, x.block < W.heap.size := by obtain ⟨m, hm⟩ := k0; exact DataW.trod_lt m _ _ _ hm
  obtain ⟨f0, hf0⟩ := h0
  obtain ⟨a, e0, u0, u1, u2, u3, u4, u5, u6, u7, u8⟩ := trod_body hf0
  obtain rfl := arr_of e0
  have wa : Wide a := ⟨u0, u1, u2, u3, u4, u5, u6, u7, u8⟩; clear u0 u1 u2 u3 u4 u5 u6 u7 u8
  obtain ⟨c1, rfl, z1⟩ := okWide_struct Try.underlying28 (hval 1 28 v1 rfl rfl)
  have k1 := h1
  have lt1 : ∀ x ∈ p1, x.block < W.heap.size := by obtain ⟨m, hm⟩ := k1; exact DataW.trod_lt m _ _ _ hm
  obtain ⟨f1, hf1⟩ := h1
  obtain ⟨b, e1, u0, u1, u2, u3, u4, u5, u6, u7, u8⟩ := trod_body hf1
  obtain rfl := arr_of e1
  have wb : Wide b := ⟨u0, u1, u2, u3, u4, u5, u6, u7, u8⟩; clear u0 u1 u2 u3 u4 u5 u6 u7 u8
  obtain ⟨c2, rfl, z2⟩ := okWide_struct Try.underlying24 (hval 2 24 v2 rfl rfl)
  have k2 := h2
  have lt2 : ∀ x ∈ p2, x.block < W.heap.size := by obtain ⟨m, hm⟩ := k2; exact DataW.trod_lt m _ _ _ hm
  obtain ⟨f2, hf2⟩ := h2
  obtain ⟨k, e2, i2⟩ := trod_fix hf2
  obtain rfl := arr_of e2
  clear hA0 hval0
  refine (walk a b k W wa wb i2).mono fun e W' ⟨he, bel⟩ => ?_
  subst he
  exact ⟨_, rfl, _, _, _, [], _, [], hW', trodAll_mk1 (shut_bool Try.underlying4 _), (trodAll_cons_mk (Below.trod laidOut (by kernel_rfl) (of_decide_eq_true (by kernel_rfl)) k0 bel lt0) (trodAll_cons_mk (Below.trod laidOut (by kernel_rfl) (of_decide_eq_true (by kernel_rfl)) k1 bel lt1) (trodAll_cons_mk (Below.trod laidOut (by kernel_rfl) (of_decide_eq_true (by kernel_rfl)) k2 bel lt2) trodAll_mk0))), rfl, bel.frame _, fun h => by cases h⟩

theorem over : Rows.contactAllRow.holds Try.pinned (OpenSpec.ofChange Rows.contactAllSpec) :=
  OpenClaim.holds_of_wide 3 Try.f3 rfl rfl rfl rfl rfl rfl rfl ⟨rfl, rfl, rfl, rfl, rfl⟩ rfl rfl rfl rfl rfl (by kernel_rfl) Try.func3 (by kernel_rfl)
    (of_decide_eq_true (by kernel_rfl)) (by unfold Func.isWrapper; first | (rw [if_pos (by decide +kernel)]; kernel_rfl) | (rw [if_neg (by decide +kernel)]; exact ⟨rfl, rfl⟩))
    (fun os started H enc _ => lifted os started H enc)

end Go.Proofs.Ytdphhkbbphfjlaa.contactAll
namespace Go.Proofs.Ytdphhkbbphfjlaa
/-- the statement -/
theorem contactAll_holds : Rows.ContactAllSaid := contactAll.over
#print axioms contactAll_holds
end Go.Proofs.Ytdphhkbbphfjlaa
