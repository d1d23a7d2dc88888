/- The walk of contact.Blow. -/
import Derived.Test.YtdphhkbbphfjlaaCBoB
import Derived.Test.YtdphhkbbphfjlaaCSpecB
import Derived.Test.YtdphhkbbphfjlaaCRowA
import Derived.Test.YtdphhkbbphfjlaaCRefA
import Derived.Deep.RegionHeld3
import Derived.Deep.DeepCutAuto
namespace Go.Proofs.Ytdphhkbbphfjlaa
set_option linter.unusedVariables false
set_option linter.unusedSimpArgs false
open Go.RowKit
attribute [local go_sem] uwrap_lo lo_lo hi_lo val_hl val_00 v4_q
attribute [local go_sem ↓] Go.wp_at_zero Go.wp_at_succ
attribute [local go_sem] nOf_ok nOf_err eOf_ok eOf_err xOf_ok yOf_ok xOf_err yOf_err vecX_ok vecX_err vecX_ok_err hi_z lo_z okB_ok okB_err hitV_some hitV_none hitV_err hitB_some hitB_none hitB_err
attribute [local go_sem ↓] loadRow_body
attribute [local go_sem] rowAt_at rowAt_past rowAt_drew rowAt_far run_load_body row_0_0 row_0_1 row_0_2 row_0_3 row_0_4 row_0_5 row_1_0 row_1_1 row_1_2 row_1_3 row_1_4 row_2_0 row_2_1 row_2_2 row_2_3
attribute [local go_sem] rE_0 rX_0 rY_0 rN_0
theorem cmpI_geD (a b : Int) : decide (0 ≤ cmpI a b) = decide (b ≤ a) := by
  rw [decide_eq_decide]; unfold cmpI; split
  · omega
  · split <;> omega
theorem eq2_zD {x : Int} : eq2 (hi x) (lo x) 0 0 = decide (x = 0) := by
  unfold eq2; rw [← Bool.decide_and, decide_eq_decide]; unfold hi lo; omega
theorem m_oneD : MayF 1 0 := by unfold MayF W64 I64 R val; omega
theorem one_valD : val 1 0 = one := by unfold val one; omega
attribute [local go_sem] cmpI_geD eq2_zD one_valD
attribute [local go_sem ↓] Try.fix_eql
/-- '==' of a way with none -/
def eqv (x y : Int) : Bool := decide (x = 0) && decide (y = 0)
theorem Try.vec_eql (x y : Int) (w : World) : (binOp .eql 26 (.agg #[.int .i64 (hi x), .int .u64 (lo x), .int .i64 (hi y), .int .u64 (lo y)]) (.agg #[.int .i64 0, .int .u64 0, .int .i64 0, .int .u64 0])).run Try.prog w = .ok (.bool (eqv x y)) w := by
  have e1 : decide (x = 0) = (decide (hi x = 0) && decide (lo x = 0)) := by rw [← Bool.decide_and, decide_eq_decide]; unfold hi lo; omega
  have e2 : decide (y = 0) = (decide (hi y = 0) && decide (lo y = 0)) := by rw [← Bool.decide_and, decide_eq_decide]; unfold hi lo; omega
  unfold eqv
  rw [e1, e2]
  by_cases h1 : hi x = 0 <;> by_cases h2 : lo x = 0 <;> by_cases h3 : hi y = 0 <;> by_cases h4 : lo y = 0 <;> go_simp <;> simp [h1, h2, h3, h4]
attribute [local go_sem ↓] Try.vec_eql

set_option maxRecDepth 100000 in
set_option maxHeartbeats 16000000 in
theorem blow_p1 (a b : BodyI) (k : Int) (w : World) (ha : MayN a) (hb : MayN b) (hk : R k) (ho : okB (overX a b) = false) :
    Calls Try.prog 19 #[.agg #[.int .i64 (hi a.mass), .int .u64 (lo a.mass), .int .i64 (hi a.radius), .int .u64 (lo a.radius), .int .i64 (hi a.x), .int .u64 (lo a.x), .int .i64 (hi a.y), .int .u64 (lo a.y), .int .i64 (hi a.px), .int .u64 (lo a.px), .int .i64 (hi a.py), .int .u64 (lo a.py), .int .i64 (hi a.fuel), .int .u64 (lo a.fuel), .int .i64 (hi a.rate), .int .u64 (lo a.rate), .int .i64 (hi a.exh), .int .u64 (lo a.exh), .int .i64 a.thr, .int .i64 a.head], .agg #[.int .i64 (hi b.mass), .int .u64 (lo b.mass), .int .i64 (hi b.radius), .int .u64 (lo b.radius), .int .i64 (hi b.x), .int .u64 (lo b.x), .int .i64 (hi b.y), .int .u64 (lo b.y), .int .i64 (hi b.px), .int .u64 (lo b.px), .int .i64 (hi b.py), .int .u64 (lo b.py), .int .i64 (hi b.fuel), .int .u64 (lo b.fuel), .int .i64 (hi b.rate), .int .u64 (lo b.rate), .int .i64 (hi b.exh), .int .u64 (lo b.exh), .int .i64 b.thr, .int .i64 b.head], .agg #[.int .i64 (hi k), .int .u64 (lo k)]] w fun e w' => e = .returned (.tuple #[.agg #[.int .i64 0, .int .u64 0, .int .i64 0, .int .u64 0], .bool false, .int .i64 (eOf (overX a b))]) ∧ Below w.heap.size w w' := by
  have m1 := MayF.of ha.x
  have m2 := MayF.of ha.y
  have m3 := MayF.of hb.x
  have m4 := MayF.of hb.y
  have mk := MayF.of hk
  have mma := MayF.of ha.mass
  have mmb := MayF.of hb.mass
  have hA := Lib.hid ha
  have hB := Lib.hid hb
  clear ha hb hk
  obtain ⟨s1, s2⟩ := ov_spec a b
  rw [ho] at s1
  have rdx := GoodV.x (GoodV.sub b.x b.y a.x a.y)
  have rdy := GoodV.y (GoodV.sub b.x b.y a.x a.y)
  go_enter Try.func19, Try.ntmps19
  go_wp2_with (first | (go_at_call 47; refine (reck_vec_Sub (w.heap.size + 1 + 1 + 1 + 1) 0 _ _ _ _ _ _ _ _ _  (by first | exact One.new_ _ _ (by simp) | exact pOg) (by assumption) (by assumption) (by assumption) (by assumption)).mono ?_; rintro e u1 ⟨rfl, ho, hg⟩; (try simp only [val_hl, val_00] at hg); (try simp only [rE_0, rX_0, rY_0, rN_0, eOf_ok, xOf_ok, yOf_ok, nOf_ok] at hg); have hzu1 := Only.size ho; (try simp at hzu1); have HB2 : Hid (Below w.heap.size w u1) := Lib.hid (Below.only (by exact pBl) ho pSd pSd); (try clear HB); have HB := HB2; clear HB2; have B2 := blk_only (g := w.heap.size) ho pSd pSd; (try simp (disch := first | omega | (simp; done) | (simp; omega)) only [pBk] at B2); (try rw [Hid.out B_a] at B2); (try simp only [pBk] at B2); (try clear c_a f_a r_a B_a); obtain ⟨c_a, f_a, l_u1_a, r_a, B_a⟩ := blk_all B2; clear B2; have B2 := blk_only (g := w.heap.size + 1) ho pSd pSd; (try simp (disch := first | omega | (simp; done) | (simp; omega)) only [pBk] at B2); (try rw [Hid.out B_b] at B2); (try simp only [pBk] at B2); (try clear c_b f_b r_b B_b); obtain ⟨c_b, f_b, l_u1_b, r_b, B_b⟩ := blk_all B2; clear B2; have B2 := blk_only (g := w.heap.size + 1 + 1) ho pSd pSd; (try simp (disch := first | omega | (simp; done) | (simp; omega)) only [pBk] at B2); (try rw [Hid.out B_k] at B2); (try simp only [pBk] at B2); (try clear c_k f_k r_k B_k); obtain ⟨c_k, f_k, l_u1_k, r_k, B_k⟩ := blk_all B2; clear B2; have B2 := blk_only (g := w.heap.size + 1 + 1 + 1) ho pSd pSd; (try simp (disch := first | omega | (simp; done) | (simp; omega)) only [pBk] at B2); (try rw [Hid.out B_r] at B2); (try simp only [pBk] at B2); (try clear c_r f_r r_r B_r); obtain ⟨c_r, f_r, l_u1_r, r_r, B_r⟩ := blk_all B2; clear B2; have hc_g := One.cell hg; have hf_g := One.free hg; have hlu1_g := One.lt hg; (try clear B_g); have B_g := Lib.hid (blk_one hg); have Hg2 := Lib.hid hg; (try clear Hg); have Hg := Hg2; clear Hg2 hg ho) | (go_at_call 49; refine (reck_over (w.heap.size + 1 + 1 + 1 + 1) (eOf (subV b.x b.y a.x a.y)) _ _ _ _ _ (by exact pOg) (by exact Hid.out hA) (by exact Hid.out hB) (by exact rdx) (by exact rdy)).mono ?_; rintro e u2 ⟨rfl, ho, hg⟩; (try simp only [val_hl, val_00] at hg); (try simp only [rE_0, rX_0, rY_0, rN_0, eOf_ok, xOf_ok, yOf_ok, nOf_ok] at hg); have hzu2 := Only.size ho; (try simp at hzu2); have HB2 : Hid (Below w.heap.size w u2) := Lib.hid (Below.only (by exact pBl) ho pSd pSd); (try clear HB); have HB := HB2; clear HB2; have B2 := blk_only (g := w.heap.size) ho pSd pSd; (try simp (disch := first | omega | (simp; done) | (simp; omega)) only [pBk] at B2); (try rw [Hid.out B_a] at B2); (try simp only [pBk] at B2); (try clear c_a f_a r_a B_a); obtain ⟨c_a, f_a, l_u2_a, r_a, B_a⟩ := blk_all B2; clear B2; have B2 := blk_only (g := w.heap.size + 1) ho pSd pSd; (try simp (disch := first | omega | (simp; done) | (simp; omega)) only [pBk] at B2); (try rw [Hid.out B_b] at B2); (try simp only [pBk] at B2); (try clear c_b f_b r_b B_b); obtain ⟨c_b, f_b, l_u2_b, r_b, B_b⟩ := blk_all B2; clear B2; have B2 := blk_only (g := w.heap.size + 1 + 1) ho pSd pSd; (try simp (disch := first | omega | (simp; done) | (simp; omega)) only [pBk] at B2); (try rw [Hid.out B_k] at B2); (try simp only [pBk] at B2); (try clear c_k f_k r_k B_k); obtain ⟨c_k, f_k, l_u2_k, r_k, B_k⟩ := blk_all B2; clear B2; have B2 := blk_only (g := w.heap.size + 1 + 1 + 1) ho pSd pSd; (try simp (disch := first | omega | (simp; done) | (simp; omega)) only [pBk] at B2); (try rw [Hid.out B_r] at B2); (try simp only [pBk] at B2); (try clear c_r f_r r_r B_r); obtain ⟨c_r, f_r, l_u2_r, r_r, B_r⟩ := blk_all B2; clear B2; have B2 := blk_only (g := u1.heap.size) ho pSd pSd; (try simp (disch := first | omega | (simp; done) | (simp; omega)) only [pBk] at B2); (try rw [Hid.out B_d] at B2); (try simp only [pBk] at B2); (try clear c_d f_d r_d B_d); obtain ⟨c_d, f_d, l_u2_d, r_d, B_d⟩ := blk_all B2; clear B2; have hc_g := One.cell hg; have hf_g := One.free hg; have hlu2_g := One.lt hg; (try clear B_g); have B_g := Lib.hid (blk_one hg); have Hg2 := Lib.hid hg; (try clear Hg); have Hg := Hg2; clear Hg2 hg ho))
  go_region
  all_goals go_wp2
  all_goals refine bodyPost_ret ?r rfl ⟨rfl, ?b⟩
  case r => simp (maxDischargeDepth := 9) [results, Try.results19, go_sem, *]
  case b => exact pBr

set_option maxRecDepth 100000 in
set_option maxHeartbeats 16000000 in
theorem blow_p2 (a b : BodyI) (k : Int) (w : World) (ha : MayN a) (hb : MayN b) (hk : R k) (ho : overX a b = .ok true) (dx dy : Int) (hd : subV b.x b.y a.x a.y = .ok (dx, dy)) (rdx : R dx) (rdy : R dy) (h0 : dx = 0 ∧ dy = 0) :
    Calls Try.prog 19 #[.agg #[.int .i64 (hi a.mass), .int .u64 (lo a.mass), .int .i64 (hi a.radius), .int .u64 (lo a.radius), .int .i64 (hi a.x), .int .u64 (lo a.x), .int .i64 (hi a.y), .int .u64 (lo a.y), .int .i64 (hi a.px), .int .u64 (lo a.px), .int .i64 (hi a.py), .int .u64 (lo a.py), .int .i64 (hi a.fuel), .int .u64 (lo a.fuel), .int .i64 (hi a.rate), .int .u64 (lo a.rate), .int .i64 (hi a.exh), .int .u64 (lo a.exh), .int .i64 a.thr, .int .i64 a.head], .agg #[.int .i64 (hi b.mass), .int .u64 (lo b.mass), .int .i64 (hi b.radius), .int .u64 (lo b.radius), .int .i64 (hi b.x), .int .u64 (lo b.x), .int .i64 (hi b.y), .int .u64 (lo b.y), .int .i64 (hi b.px), .int .u64 (lo b.px), .int .i64 (hi b.py), .int .u64 (lo b.py), .int .i64 (hi b.fuel), .int .u64 (lo b.fuel), .int .i64 (hi b.rate), .int .u64 (lo b.rate), .int .i64 (hi b.exh), .int .u64 (lo b.exh), .int .i64 b.thr, .int .i64 b.head], .agg #[.int .i64 (hi k), .int .u64 (lo k)]] w fun e w' => e = .returned (.tuple #[.agg #[.int .i64 0, .int .u64 0, .int .i64 0, .int .u64 0], .bool false, .int .i64 0]) ∧ Below w.heap.size w w' := by
  have m1 := MayF.of ha.x
  have m2 := MayF.of ha.y
  have m3 := MayF.of hb.x
  have m4 := MayF.of hb.y
  have mk := MayF.of hk
  have mma := MayF.of ha.mass
  have mmb := MayF.of hb.mass
  have hA := Lib.hid ha
  have hB := Lib.hid hb
  clear ha hb hk
  obtain ⟨s1, s2⟩ := ov_spec2 a b hd
  rw [ho] at s1 s2
  rw [okB_ok] at s1
  rw [eOf_ok] at s2
  have md1 := MayF.of rdx
  have md2 := MayF.of rdy
  have hv0 : eqv dx dy = true := by unfold eqv; rw [h0.1, h0.2]; rfl
  clear h0
  go_enter Try.func19, Try.ntmps19
  go_wp2_with (first | (go_at_call 47; refine (reck_vec_Sub (w.heap.size + 1 + 1 + 1 + 1) 0 _ _ _ _ _ _ _ _ _  (by first | exact One.new_ _ _ (by simp) | exact pOg) (by assumption) (by assumption) (by assumption) (by assumption)).mono ?_; rintro e u1 ⟨rfl, ho, hg⟩; (try simp only [val_hl, val_00] at hg); (try simp only [rE_0, rX_0, rY_0, rN_0, eOf_ok, xOf_ok, yOf_ok, nOf_ok, hd] at hg); have hzu1 := Only.size ho; (try simp at hzu1); have HB2 : Hid (Below w.heap.size w u1) := Lib.hid (Below.only (by exact pBl) ho pSd pSd); (try clear HB); have HB := HB2; clear HB2; have B2 := blk_only (g := w.heap.size) ho pSd pSd; (try simp (disch := first | omega | (simp; done) | (simp; omega)) only [pBk] at B2); (try rw [Hid.out B_a] at B2); (try simp only [pBk] at B2); (try clear c_a f_a r_a B_a); obtain ⟨c_a, f_a, l_u1_a, r_a, B_a⟩ := blk_all B2; clear B2; have B2 := blk_only (g := w.heap.size + 1) ho pSd pSd; (try simp (disch := first | omega | (simp; done) | (simp; omega)) only [pBk] at B2); (try rw [Hid.out B_b] at B2); (try simp only [pBk] at B2); (try clear c_b f_b r_b B_b); obtain ⟨c_b, f_b, l_u1_b, r_b, B_b⟩ := blk_all B2; clear B2; have B2 := blk_only (g := w.heap.size + 1 + 1) ho pSd pSd; (try simp (disch := first | omega | (simp; done) | (simp; omega)) only [pBk] at B2); (try rw [Hid.out B_k] at B2); (try simp only [pBk] at B2); (try clear c_k f_k r_k B_k); obtain ⟨c_k, f_k, l_u1_k, r_k, B_k⟩ := blk_all B2; clear B2; have B2 := blk_only (g := w.heap.size + 1 + 1 + 1) ho pSd pSd; (try simp (disch := first | omega | (simp; done) | (simp; omega)) only [pBk] at B2); (try rw [Hid.out B_r] at B2); (try simp only [pBk] at B2); (try clear c_r f_r r_r B_r); obtain ⟨c_r, f_r, l_u1_r, r_r, B_r⟩ := blk_all B2; clear B2; have hc_g := One.cell hg; have hf_g := One.free hg; have hlu1_g := One.lt hg; (try clear B_g); have B_g := Lib.hid (blk_one hg); have Hg2 := Lib.hid hg; (try clear Hg); have Hg := Hg2; clear Hg2 hg ho) | (go_at_call 49; refine (reck_over (w.heap.size + 1 + 1 + 1 + 1) 0 _ _ _ _ _ (by exact pOg) (by exact Hid.out hA) (by exact Hid.out hB) (by exact rdx) (by exact rdy)).mono ?_; rintro e u2 ⟨rfl, ho, hg⟩; (try simp only [val_hl, val_00] at hg); (try simp only [rE_0, rX_0, rY_0, rN_0, eOf_ok, xOf_ok, yOf_ok, nOf_ok, hd, s2] at hg); have hzu2 := Only.size ho; (try simp at hzu2); have HB2 : Hid (Below w.heap.size w u2) := Lib.hid (Below.only (by exact pBl) ho pSd pSd); (try clear HB); have HB := HB2; clear HB2; have B2 := blk_only (g := w.heap.size) ho pSd pSd; (try simp (disch := first | omega | (simp; done) | (simp; omega)) only [pBk] at B2); (try rw [Hid.out B_a] at B2); (try simp only [pBk] at B2); (try clear c_a f_a r_a B_a); obtain ⟨c_a, f_a, l_u2_a, r_a, B_a⟩ := blk_all B2; clear B2; have B2 := blk_only (g := w.heap.size + 1) ho pSd pSd; (try simp (disch := first | omega | (simp; done) | (simp; omega)) only [pBk] at B2); (try rw [Hid.out B_b] at B2); (try simp only [pBk] at B2); (try clear c_b f_b r_b B_b); obtain ⟨c_b, f_b, l_u2_b, r_b, B_b⟩ := blk_all B2; clear B2; have B2 := blk_only (g := w.heap.size + 1 + 1) ho pSd pSd; (try simp (disch := first | omega | (simp; done) | (simp; omega)) only [pBk] at B2); (try rw [Hid.out B_k] at B2); (try simp only [pBk] at B2); (try clear c_k f_k r_k B_k); obtain ⟨c_k, f_k, l_u2_k, r_k, B_k⟩ := blk_all B2; clear B2; have B2 := blk_only (g := w.heap.size + 1 + 1 + 1) ho pSd pSd; (try simp (disch := first | omega | (simp; done) | (simp; omega)) only [pBk] at B2); (try rw [Hid.out B_r] at B2); (try simp only [pBk] at B2); (try clear c_r f_r r_r B_r); obtain ⟨c_r, f_r, l_u2_r, r_r, B_r⟩ := blk_all B2; clear B2; have B2 := blk_only (g := u1.heap.size) ho pSd pSd; (try simp (disch := first | omega | (simp; done) | (simp; omega)) only [pBk] at B2); (try rw [Hid.out B_d] at B2); (try simp only [pBk] at B2); (try clear c_d f_d r_d B_d); obtain ⟨c_d, f_d, l_u2_d, r_d, B_d⟩ := blk_all B2; clear B2; have hc_g := One.cell hg; have hf_g := One.free hg; have hlu2_g := One.lt hg; (try clear B_g); have B_g := Lib.hid (blk_one hg); have Hg2 := Lib.hid hg; (try clear Hg); have Hg := Hg2; clear Hg2 hg ho))
  go_region
  all_goals go_wp2
  all_goals refine bodyPost_ret ?r rfl ⟨rfl, ?b⟩
  case r => simp (maxDischargeDepth := 9) [results, Try.results19, go_sem, *]
  case b => exact pBr

set_option maxRecDepth 100000 in
set_option maxHeartbeats 16000000 in
theorem blow_p3 (a b : BodyI) (k : Int) (w : World) (ha : MayN a) (hb : MayN b) (hk : R k) (ho : overX a b = .ok true) (dx dy : Int) (hd : subV b.x b.y a.x a.y = .ok (dx, dy)) (rdx : R dx) (rdy : R dy) (hne : ¬ (dx = 0 ∧ dy = 0)) (L : Int) (hl : dotX dx dy dx dy = .ok L) (rL : R L) (hL : L = 0) :
    Calls Try.prog 19 #[.agg #[.int .i64 (hi a.mass), .int .u64 (lo a.mass), .int .i64 (hi a.radius), .int .u64 (lo a.radius), .int .i64 (hi a.x), .int .u64 (lo a.x), .int .i64 (hi a.y), .int .u64 (lo a.y), .int .i64 (hi a.px), .int .u64 (lo a.px), .int .i64 (hi a.py), .int .u64 (lo a.py), .int .i64 (hi a.fuel), .int .u64 (lo a.fuel), .int .i64 (hi a.rate), .int .u64 (lo a.rate), .int .i64 (hi a.exh), .int .u64 (lo a.exh), .int .i64 a.thr, .int .i64 a.head], .agg #[.int .i64 (hi b.mass), .int .u64 (lo b.mass), .int .i64 (hi b.radius), .int .u64 (lo b.radius), .int .i64 (hi b.x), .int .u64 (lo b.x), .int .i64 (hi b.y), .int .u64 (lo b.y), .int .i64 (hi b.px), .int .u64 (lo b.px), .int .i64 (hi b.py), .int .u64 (lo b.py), .int .i64 (hi b.fuel), .int .u64 (lo b.fuel), .int .i64 (hi b.rate), .int .u64 (lo b.rate), .int .i64 (hi b.exh), .int .u64 (lo b.exh), .int .i64 b.thr, .int .i64 b.head], .agg #[.int .i64 (hi k), .int .u64 (lo k)]] w fun e w' => e = .returned (.tuple #[.agg #[.int .i64 0, .int .u64 0, .int .i64 0, .int .u64 0], .bool false, .int .i64 0]) ∧ Below w.heap.size w w' := by
  have m1 := MayF.of ha.x
  have m2 := MayF.of ha.y
  have m3 := MayF.of hb.x
  have m4 := MayF.of hb.y
  have mk := MayF.of hk
  have mma := MayF.of ha.mass
  have mmb := MayF.of hb.mass
  have hA := Lib.hid ha
  have hB := Lib.hid hb
  clear ha hb hk
  obtain ⟨s1, s2⟩ := ov_spec2 a b hd
  rw [ho] at s1 s2
  rw [okB_ok] at s1
  rw [eOf_ok] at s2
  have md1 := MayF.of rdx
  have md2 := MayF.of rdy
  have hv0 : eqv dx dy = false := by unfold eqv; by_cases h1 : dx = 0 <;> by_cases h2 : dy = 0 <;> simp_all
  clear hne
  have mL := MayF.of rL
  have hL0 := decide_eq_true hL
  clear hL
  go_enter Try.func19, Try.ntmps19
  go_wp2_with (first | (go_at_call 47; refine (reck_vec_Sub (w.heap.size + 1 + 1 + 1 + 1) 0 _ _ _ _ _ _ _ _ _  (by first | exact One.new_ _ _ (by simp) | exact pOg) (by assumption) (by assumption) (by assumption) (by assumption)).mono ?_; rintro e u1 ⟨rfl, ho, hg⟩; (try simp only [val_hl, val_00] at hg); (try simp only [rE_0, rX_0, rY_0, rN_0, eOf_ok, xOf_ok, yOf_ok, nOf_ok, hd] at hg); have hzu1 := Only.size ho; (try simp at hzu1); have HB2 : Hid (Below w.heap.size w u1) := Lib.hid (Below.only (by exact pBl) ho pSd pSd); (try clear HB); have HB := HB2; clear HB2; have B2 := blk_only (g := w.heap.size) ho pSd pSd; (try simp (disch := first | omega | (simp; done) | (simp; omega)) only [pBk] at B2); (try rw [Hid.out B_a] at B2); (try simp only [pBk] at B2); (try clear c_a f_a r_a B_a); obtain ⟨c_a, f_a, l_u1_a, r_a, B_a⟩ := blk_all B2; clear B2; have B2 := blk_only (g := w.heap.size + 1) ho pSd pSd; (try simp (disch := first | omega | (simp; done) | (simp; omega)) only [pBk] at B2); (try rw [Hid.out B_b] at B2); (try simp only [pBk] at B2); (try clear c_b f_b r_b B_b); obtain ⟨c_b, f_b, l_u1_b, r_b, B_b⟩ := blk_all B2; clear B2; have B2 := blk_only (g := w.heap.size + 1 + 1) ho pSd pSd; (try simp (disch := first | omega | (simp; done) | (simp; omega)) only [pBk] at B2); (try rw [Hid.out B_k] at B2); (try simp only [pBk] at B2); (try clear c_k f_k r_k B_k); obtain ⟨c_k, f_k, l_u1_k, r_k, B_k⟩ := blk_all B2; clear B2; have B2 := blk_only (g := w.heap.size + 1 + 1 + 1) ho pSd pSd; (try simp (disch := first | omega | (simp; done) | (simp; omega)) only [pBk] at B2); (try rw [Hid.out B_r] at B2); (try simp only [pBk] at B2); (try clear c_r f_r r_r B_r); obtain ⟨c_r, f_r, l_u1_r, r_r, B_r⟩ := blk_all B2; clear B2; have hc_g := One.cell hg; have hf_g := One.free hg; have hlu1_g := One.lt hg; (try clear B_g); have B_g := Lib.hid (blk_one hg); have Hg2 := Lib.hid hg; (try clear Hg); have Hg := Hg2; clear Hg2 hg ho) | (go_at_call 49; refine (reck_over (w.heap.size + 1 + 1 + 1 + 1) 0 _ _ _ _ _ (by exact pOg) (by exact Hid.out hA) (by exact Hid.out hB) (by exact rdx) (by exact rdy)).mono ?_; rintro e u2 ⟨rfl, ho, hg⟩; (try simp only [val_hl, val_00] at hg); (try simp only [rE_0, rX_0, rY_0, rN_0, eOf_ok, xOf_ok, yOf_ok, nOf_ok, hd, s2] at hg); have hzu2 := Only.size ho; (try simp at hzu2); have HB2 : Hid (Below w.heap.size w u2) := Lib.hid (Below.only (by exact pBl) ho pSd pSd); (try clear HB); have HB := HB2; clear HB2; have B2 := blk_only (g := w.heap.size) ho pSd pSd; (try simp (disch := first | omega | (simp; done) | (simp; omega)) only [pBk] at B2); (try rw [Hid.out B_a] at B2); (try simp only [pBk] at B2); (try clear c_a f_a r_a B_a); obtain ⟨c_a, f_a, l_u2_a, r_a, B_a⟩ := blk_all B2; clear B2; have B2 := blk_only (g := w.heap.size + 1) ho pSd pSd; (try simp (disch := first | omega | (simp; done) | (simp; omega)) only [pBk] at B2); (try rw [Hid.out B_b] at B2); (try simp only [pBk] at B2); (try clear c_b f_b r_b B_b); obtain ⟨c_b, f_b, l_u2_b, r_b, B_b⟩ := blk_all B2; clear B2; have B2 := blk_only (g := w.heap.size + 1 + 1) ho pSd pSd; (try simp (disch := first | omega | (simp; done) | (simp; omega)) only [pBk] at B2); (try rw [Hid.out B_k] at B2); (try simp only [pBk] at B2); (try clear c_k f_k r_k B_k); obtain ⟨c_k, f_k, l_u2_k, r_k, B_k⟩ := blk_all B2; clear B2; have B2 := blk_only (g := w.heap.size + 1 + 1 + 1) ho pSd pSd; (try simp (disch := first | omega | (simp; done) | (simp; omega)) only [pBk] at B2); (try rw [Hid.out B_r] at B2); (try simp only [pBk] at B2); (try clear c_r f_r r_r B_r); obtain ⟨c_r, f_r, l_u2_r, r_r, B_r⟩ := blk_all B2; clear B2; have B2 := blk_only (g := u1.heap.size) ho pSd pSd; (try simp (disch := first | omega | (simp; done) | (simp; omega)) only [pBk] at B2); (try rw [Hid.out B_d] at B2); (try simp only [pBk] at B2); (try clear c_d f_d r_d B_d); obtain ⟨c_d, f_d, l_u2_d, r_d, B_d⟩ := blk_all B2; clear B2; have hc_g := One.cell hg; have hf_g := One.free hg; have hlu2_g := One.lt hg; (try clear B_g); have B_g := Lib.hid (blk_one hg); have Hg2 := Lib.hid hg; (try clear Hg); have Hg := Hg2; clear Hg2 hg ho) | (go_at_call 53; refine (reck_dot (w.heap.size + 1 + 1 + 1 + 1) 0 _ _ _ _ _ _ _ _ _  (by exact pOg) (by assumption) (by assumption) (by assumption) (by assumption)).mono ?_; rintro e u3 ⟨rfl, ho, hg⟩; (try simp only [val_hl, val_00] at hg); (try simp only [rE_0, rX_0, rY_0, rN_0, eOf_ok, xOf_ok, yOf_ok, nOf_ok, hd, s2, hl] at hg); have hzu3 := Only.size ho; (try simp at hzu3); have HB2 : Hid (Below w.heap.size w u3) := Lib.hid (Below.only (by exact pBl) ho pSd pSd); (try clear HB); have HB := HB2; clear HB2; have B2 := blk_only (g := w.heap.size) ho pSd pSd; (try simp (disch := first | omega | (simp; done) | (simp; omega)) only [pBk] at B2); (try rw [Hid.out B_a] at B2); (try simp only [pBk] at B2); (try clear c_a f_a r_a B_a); obtain ⟨c_a, f_a, l_u3_a, r_a, B_a⟩ := blk_all B2; clear B2; have B2 := blk_only (g := w.heap.size + 1) ho pSd pSd; (try simp (disch := first | omega | (simp; done) | (simp; omega)) only [pBk] at B2); (try rw [Hid.out B_b] at B2); (try simp only [pBk] at B2); (try clear c_b f_b r_b B_b); obtain ⟨c_b, f_b, l_u3_b, r_b, B_b⟩ := blk_all B2; clear B2; have B2 := blk_only (g := w.heap.size + 1 + 1) ho pSd pSd; (try simp (disch := first | omega | (simp; done) | (simp; omega)) only [pBk] at B2); (try rw [Hid.out B_k] at B2); (try simp only [pBk] at B2); (try clear c_k f_k r_k B_k); obtain ⟨c_k, f_k, l_u3_k, r_k, B_k⟩ := blk_all B2; clear B2; have B2 := blk_only (g := w.heap.size + 1 + 1 + 1) ho pSd pSd; (try simp (disch := first | omega | (simp; done) | (simp; omega)) only [pBk] at B2); (try rw [Hid.out B_r] at B2); (try simp only [pBk] at B2); (try clear c_r f_r r_r B_r); obtain ⟨c_r, f_r, l_u3_r, r_r, B_r⟩ := blk_all B2; clear B2; have B2 := blk_only (g := u1.heap.size) ho pSd pSd; (try simp (disch := first | omega | (simp; done) | (simp; omega)) only [pBk] at B2); (try rw [Hid.out B_d] at B2); (try simp only [pBk] at B2); (try clear c_d f_d r_d B_d); obtain ⟨c_d, f_d, l_u3_d, r_d, B_d⟩ := blk_all B2; clear B2; have hc_g := One.cell hg; have hf_g := One.free hg; have hlu3_g := One.lt hg; (try clear B_g); have B_g := Lib.hid (blk_one hg); have Hg2 := Lib.hid hg; (try clear Hg); have Hg := Hg2; clear Hg2 hg ho))
  all_goals refine bodyPost_ret ?r rfl ⟨rfl, ?b⟩
  case r => simp (maxDischargeDepth := 9) [results, Try.results19, go_sem, *]
  case b => exact pBr
end Go.Proofs.Ytdphhkbbphfjlaa
