/- The walk of ContactAll where the bodies may be. -/
import Derived.Test.YtdphhkbbphfjlaaLawC
import Derived.Test.YtdphhkbbphfjlaaRefN
import Derived.Test.YtdphhkbbphfjlaaRefQ
set_option linter.unusedVariables false
set_option linter.unusedSimpArgs false
namespace Go.Proofs.Ytdphhkbbphfjlaa
open Go.RowKit
attribute [local go_sem] uwrap_lo lo_lo hi_lo val_hl val_00 v4_q
attribute [local go_sem ↓] Go.wp_at_zero Go.wp_at_succ
attribute [local go_sem] fld_sum0 fld_sum1
attribute [local go_sem] nOf_ok nOf_err eOf_ok eOf_err xOf_ok yOf_ok xOf_err yOf_err vecX_ok vecX_err vecX_ok_err hi_z lo_z okB_ok okB_err hitV_some hitV_none hitV_err hitB_some hitB_none hitB_err
attribute [local go_sem ↓] loadRow_body
attribute [local go_sem] rowAt_at rowAt_past rowAt_drew rowAt_far run_load_body row_0_0 row_0_1 row_0_2 row_0_3 row_0_4 row_0_5 row_1_0 row_1_1 row_1_2 row_1_3 row_1_4 row_2_0 row_2_1 row_2_2 row_2_3
attribute [local go_sem] cmpI_gt' cmpI_lt' cmpI_ge' cmpI_le'
attribute [local go_sem ↓] Try.vec_self
attribute [local go_sem] c_one
theorem bb_self (b : Bool) : (b == b) = true := by cases b <;> rfl
theorem ii_self (n : Int) : (n == n) = true := by simp
theorem dd_self (n : Int) : decide (n = n) = true := by simp
attribute [local go_sem] bb_self ii_self dd_self
attribute [local irreducible] overX blowX

set_option maxRecDepth 100000 in
set_option maxHeartbeats 16000000 in
theorem all_p (a b : BodyI) (k : Int) (w : World) (wa : Wide a) (wb : Wide b) (ik : I64 (hi k)) (h0 : mayB a = true) (h1 : mayB b = true) (h2 : decide (R k) = true) (h3 : decide (k < 0) = false) (h4 : decide (one < k) = false) :
    Calls Try.prog 3 #[.agg #[.int .i64 (hi a.mass), .int .u64 (lo a.mass), .int .i64 (hi a.radius), .int .u64 (lo a.radius), .int .i64 (hi a.x), .int .u64 (lo a.x), .int .i64 (hi a.y), .int .u64 (lo a.y), .int .i64 (hi a.px), .int .u64 (lo a.px), .int .i64 (hi a.py), .int .u64 (lo a.py), .int .i64 (hi a.fuel), .int .u64 (lo a.fuel), .int .i64 (hi a.rate), .int .u64 (lo a.rate), .int .i64 (hi a.exh), .int .u64 (lo a.exh), .int .i64 a.thr, .int .i64 a.head], .agg #[.int .i64 (hi b.mass), .int .u64 (lo b.mass), .int .i64 (hi b.radius), .int .u64 (lo b.radius), .int .i64 (hi b.x), .int .u64 (lo b.x), .int .i64 (hi b.y), .int .u64 (lo b.y), .int .i64 (hi b.px), .int .u64 (lo b.px), .int .i64 (hi b.py), .int .u64 (lo b.py), .int .i64 (hi b.fuel), .int .u64 (lo b.fuel), .int .i64 (hi b.rate), .int .u64 (lo b.rate), .int .i64 (hi b.exh), .int .u64 (lo b.exh), .int .i64 b.thr, .int .i64 b.head], .agg #[.int .i64 (hi k), .int .u64 (lo k)]] w fun e w' => e = .returned (.bool true) ∧ Below w.heap.size w w' := by
  have na := mayB_MayN h0
  have nb := mayB_MayN h1
  have rk := of_decide_eq_true h2
  have cOv := fun w => contact_OverX a b w na nb
  have cRo := fun w => r16_Over a b w na nb
  have cBl := fun w => contact_Blow a b k w na nb rk
  have cRb := fun w => r16_Blow a b k w na nb rk
  generalize okB (overX a b) = oB at cOv cRo
  generalize eOf (overX a b) = oE at cOv cRo
  generalize (hitV (blowX a b k)).1 = j1 at cBl cRb
  generalize (hitV (blowX a b k)).2 = j2 at cBl cRb
  generalize hitB (blowX a b k) = hB at cBl cRb
  generalize eOf (blowX a b k) = hE at cBl cRb
  go_enter Try.func3, Try.ntmps3
  go_wp2_with fail
  refine wp_region_G (fun w' => rowAt w' (w.heap.size) = #[.int .i64 (hi a.mass), .int .u64 (lo a.mass), .int .i64 (hi a.radius), .int .u64 (lo a.radius), .int .i64 (hi a.x), .int .u64 (lo a.x), .int .i64 (hi a.y), .int .u64 (lo a.y), .int .i64 (hi a.px), .int .u64 (lo a.px), .int .i64 (hi a.py), .int .u64 (lo a.py), .int .i64 (hi a.fuel), .int .u64 (lo a.fuel), .int .i64 (hi a.rate), .int .u64 (lo a.rate), .int .i64 (hi a.exh), .int .u64 (lo a.exh), .int .i64 a.thr, .int .i64 a.head] ∧ rowAt w' (w.heap.size + 1) = #[.int .i64 (hi b.mass), .int .u64 (lo b.mass), .int .i64 (hi b.radius), .int .u64 (lo b.radius), .int .i64 (hi b.x), .int .u64 (lo b.x), .int .i64 (hi b.y), .int .u64 (lo b.y), .int .i64 (hi b.px), .int .u64 (lo b.px), .int .i64 (hi b.py), .int .u64 (lo b.py), .int .i64 (hi b.fuel), .int .u64 (lo b.fuel), .int .i64 (hi b.rate), .int .u64 (lo b.rate), .int .i64 (hi b.exh), .int .u64 (lo b.exh), .int .i64 b.thr, .int .i64 b.head] ∧ w'.cell? ⟨w.heap.size + 1 + 1, 0, none⟩ = some (.int .i64 (hi k)) ∧ w'.cell? ⟨w.heap.size + 1 + 1, 1, none⟩ = some (.int .u64 (lo k))) 24 (by kernel_rfl) ?_ (fun hHeld => ?_)
  · exact pKp
  refine Gw.tk 0 rfl ?_
  (try simp only [pLy])
  refine Gw.one (i := 1) rfl (by kernel_rfl) (fun K hK => ?_)
  go_simp
  (go_at_call 12; refine (r22_MayBody a _ (by assumption)).mono ?_; rintro e u1 ⟨rfl, ho⟩; have hzu1 := Below.size ho; (try simp at hzu1); have HB2 : Hid (Below w.heap.size w u1) := Lib.hid (Below.trans (by exact pBl) (Below.mono ho pSd)); (try clear HB); have HB := HB2; clear HB2; have B2 := blk_below (g := w.heap.size) ho pSd; (try simp (disch := first | omega | (simp; done) | (simp; omega)) only [pBk] at B2); (try rw [Hid.out B_a] at B2); (try simp only [pBk] at B2); (try clear c_a f_a r_a B_a); obtain ⟨c_a, f_a, l_u1_a, r_a, B_a⟩ := blk_all B2; clear B2; have B2 := blk_below (g := w.heap.size + 1) ho pSd; (try simp (disch := first | omega | (simp; done) | (simp; omega)) only [pBk] at B2); (try rw [Hid.out B_b] at B2); (try simp only [pBk] at B2); (try clear c_b f_b r_b B_b); obtain ⟨c_b, f_b, l_u1_b, r_b, B_b⟩ := blk_all B2; clear B2; have B2 := blk_below (g := w.heap.size + 1 + 1) ho pSd; (try simp (disch := first | omega | (simp; done) | (simp; omega)) only [pBk] at B2); (try rw [Hid.out B_k] at B2); (try simp only [pBk] at B2); (try clear c_k f_k r_k B_k); obtain ⟨c_k, f_k, l_u1_k, r_k, B_k⟩ := blk_all B2; clear B2; clear ho)
  (try go_wp2_with fail)
  refine hK.out _ _ ?_ (fun hHeld2 => ?_)
  · exact pKp
  (try clear hHeld); have hHeld := hHeld2; clear hHeld2
  clear hK K
  (try simp only [pLy])
  refine Gw.tk 2 rfl ?_
  (try simp only [pLy])
  refine Gw.tk 3 rfl ?_
  (try simp only [pLy])
  refine Gw.tk 4 rfl ?_
  (try simp only [pLy])
  refine Gw.one (i := 5) rfl (by kernel_rfl) (fun K hK => ?_)
  go_simp
  (go_at_call 12; refine (r22_MayBody b _ (by assumption)).mono ?_; rintro e u2 ⟨rfl, ho⟩; have hzu2 := Below.size ho; (try simp at hzu2); have HB2 : Hid (Below w.heap.size w u2) := Lib.hid (Below.trans (by exact pBl) (Below.mono ho pSd)); (try clear HB); have HB := HB2; clear HB2; have B2 := blk_below (g := w.heap.size) ho pSd; (try simp (disch := first | omega | (simp; done) | (simp; omega)) only [pBk] at B2); (try rw [Hid.out B_a] at B2); (try simp only [pBk] at B2); (try clear c_a f_a r_a B_a); obtain ⟨c_a, f_a, l_u2_a, r_a, B_a⟩ := blk_all B2; clear B2; have B2 := blk_below (g := w.heap.size + 1) ho pSd; (try simp (disch := first | omega | (simp; done) | (simp; omega)) only [pBk] at B2); (try rw [Hid.out B_b] at B2); (try simp only [pBk] at B2); (try clear c_b f_b r_b B_b); obtain ⟨c_b, f_b, l_u2_b, r_b, B_b⟩ := blk_all B2; clear B2; have B2 := blk_below (g := w.heap.size + 1 + 1) ho pSd; (try simp (disch := first | omega | (simp; done) | (simp; omega)) only [pBk] at B2); (try rw [Hid.out B_k] at B2); (try simp only [pBk] at B2); (try clear c_k f_k r_k B_k); obtain ⟨c_k, f_k, l_u2_k, r_k, B_k⟩ := blk_all B2; clear B2; clear ho)
  (try go_wp2_with fail)
  refine hK.out _ _ ?_ (fun hHeld2 => ?_)
  · exact pKp
  (try clear hHeld); have hHeld := hHeld2; clear hHeld2
  clear hK K
  (try simp only [pLy])
  refine Gw.tk 6 rfl ?_
  (try simp only [pLy])
  refine Gw.tk 7 rfl ?_
  (try simp only [pLy])
  refine Gw.tk 8 rfl ?_
  (try simp only [pLy])
  refine Gw.tk 9 rfl ?_
  (try simp only [pLy])
  refine Gw.one (i := 10) rfl (by kernel_rfl) (fun K hK => ?_)
  go_simp
  (go_at_call 13; refine (r1_May _ _ _ (by exact W64_lo _) (by assumption)).mono ?_; rintro e u3 ⟨rfl, ho⟩; have hzu3 := Below.size ho; (try simp at hzu3); have HB2 : Hid (Below w.heap.size w u3) := Lib.hid (Below.trans (by exact pBl) (Below.mono ho pSd)); (try clear HB); have HB := HB2; clear HB2; have B2 := blk_below (g := w.heap.size) ho pSd; (try simp (disch := first | omega | (simp; done) | (simp; omega)) only [pBk] at B2); (try rw [Hid.out B_a] at B2); (try simp only [pBk] at B2); (try clear c_a f_a r_a B_a); obtain ⟨c_a, f_a, l_u3_a, r_a, B_a⟩ := blk_all B2; clear B2; have B2 := blk_below (g := w.heap.size + 1) ho pSd; (try simp (disch := first | omega | (simp; done) | (simp; omega)) only [pBk] at B2); (try rw [Hid.out B_b] at B2); (try simp only [pBk] at B2); (try clear c_b f_b r_b B_b); obtain ⟨c_b, f_b, l_u3_b, r_b, B_b⟩ := blk_all B2; clear B2; have B2 := blk_below (g := w.heap.size + 1 + 1) ho pSd; (try simp (disch := first | omega | (simp; done) | (simp; omega)) only [pBk] at B2); (try rw [Hid.out B_k] at B2); (try simp only [pBk] at B2); (try clear c_k f_k r_k B_k); obtain ⟨c_k, f_k, l_u3_k, r_k, B_k⟩ := blk_all B2; clear B2; clear ho)
  (try go_wp2_with fail)
  refine hK.out _ _ ?_ (fun hHeld2 => ?_)
  · exact pKp
  (try clear hHeld); have hHeld := hHeld2; clear hHeld2
  clear hK K
  (try simp only [pLy])
  refine Gw.tk 11 rfl ?_
  (try simp only [pLy])
  refine Gw.tk 12 rfl ?_
  (try simp only [pLy])
  refine Gw.tk 13 rfl ?_
  (try simp only [pLy])
  refine Gw.tk 14 rfl ?_
  (try simp only [pLy])
  refine Gw.tk 15 rfl ?_
  (try simp only [pLy])
  refine Gw.one (i := 16) rfl (by kernel_rfl) (fun K hK => ?_)
  go_simp
  (go_at_call 14; refine (r1_Cmp _ _ _ _ _ (by exact W64_lo _) (by exact W64_0)).mono ?_; rintro e u4 ⟨rfl, ho⟩; have hzu4 := Below.size ho; (try simp at hzu4); have HB2 : Hid (Below w.heap.size w u4) := Lib.hid (Below.trans (by exact pBl) (Below.mono ho pSd)); (try clear HB); have HB := HB2; clear HB2; have B2 := blk_below (g := w.heap.size) ho pSd; (try simp (disch := first | omega | (simp; done) | (simp; omega)) only [pBk] at B2); (try rw [Hid.out B_a] at B2); (try simp only [pBk] at B2); (try clear c_a f_a r_a B_a); obtain ⟨c_a, f_a, l_u4_a, r_a, B_a⟩ := blk_all B2; clear B2; have B2 := blk_below (g := w.heap.size + 1) ho pSd; (try simp (disch := first | omega | (simp; done) | (simp; omega)) only [pBk] at B2); (try rw [Hid.out B_b] at B2); (try simp only [pBk] at B2); (try clear c_b f_b r_b B_b); obtain ⟨c_b, f_b, l_u4_b, r_b, B_b⟩ := blk_all B2; clear B2; have B2 := blk_below (g := w.heap.size + 1 + 1) ho pSd; (try simp (disch := first | omega | (simp; done) | (simp; omega)) only [pBk] at B2); (try rw [Hid.out B_k] at B2); (try simp only [pBk] at B2); (try clear c_k f_k r_k B_k); obtain ⟨c_k, f_k, l_u4_k, r_k, B_k⟩ := blk_all B2; clear B2; clear ho)
  (try go_wp2_with fail)
  refine hK.out _ _ ?_ (fun hHeld2 => ?_)
  · exact pKp
  (try clear hHeld); have hHeld := hHeld2; clear hHeld2
  clear hK K
  (try simp only [pLy])
  refine Gw.tk 17 rfl ?_
  (try simp only [pLy])
  refine Gw.tk 18 rfl ?_
  (try simp only [pLy])
  refine Gw.tk 19 rfl ?_
  (try simp only [pLy])
  refine Gw.tk 20 rfl ?_
  (try simp only [pLy])
  refine Gw.one (i := 21) rfl (by kernel_rfl) (fun K hK => ?_)
  go_simp
  (go_at_call 15; refine (r1_Int _ _ (by decide)).mono ?_; rintro e u5 ⟨rfl, ho⟩; have hzu5 := Below.size ho; (try simp at hzu5); have HB2 : Hid (Below w.heap.size w u5) := Lib.hid (Below.trans (by exact pBl) (Below.mono ho pSd)); (try clear HB); have HB := HB2; clear HB2; have B2 := blk_below (g := w.heap.size) ho pSd; (try simp (disch := first | omega | (simp; done) | (simp; omega)) only [pBk] at B2); (try rw [Hid.out B_a] at B2); (try simp only [pBk] at B2); (try clear c_a f_a r_a B_a); obtain ⟨c_a, f_a, l_u5_a, r_a, B_a⟩ := blk_all B2; clear B2; have B2 := blk_below (g := w.heap.size + 1) ho pSd; (try simp (disch := first | omega | (simp; done) | (simp; omega)) only [pBk] at B2); (try rw [Hid.out B_b] at B2); (try simp only [pBk] at B2); (try clear c_b f_b r_b B_b); obtain ⟨c_b, f_b, l_u5_b, r_b, B_b⟩ := blk_all B2; clear B2; have B2 := blk_below (g := w.heap.size + 1 + 1) ho pSd; (try simp (disch := first | omega | (simp; done) | (simp; omega)) only [pBk] at B2); (try rw [Hid.out B_k] at B2); (try simp only [pBk] at B2); (try clear c_k f_k r_k B_k); obtain ⟨c_k, f_k, l_u5_k, r_k, B_k⟩ := blk_all B2; clear B2; clear ho)
  (try go_wp2_with fail)
  refine hK.out _ _ ?_ (fun hHeld2 => ?_)
  · exact pKp
  (try clear hHeld); have hHeld := hHeld2; clear hHeld2
  clear hK K
  (try simp only [pLy])
  refine Gw.one (i := 22) rfl (by kernel_rfl) (fun K hK => ?_)
  go_simp
  (go_at_call 14; refine (r1_Cmp _ _ _ _ _ (by exact W64_lo _) (by exact W64_0)).mono ?_; rintro e u6 ⟨rfl, ho⟩; have hzu6 := Below.size ho; (try simp at hzu6); have HB2 : Hid (Below w.heap.size w u6) := Lib.hid (Below.trans (by exact pBl) (Below.mono ho pSd)); (try clear HB); have HB := HB2; clear HB2; have B2 := blk_below (g := w.heap.size) ho pSd; (try simp (disch := first | omega | (simp; done) | (simp; omega)) only [pBk] at B2); (try rw [Hid.out B_a] at B2); (try simp only [pBk] at B2); (try clear c_a f_a r_a B_a); obtain ⟨c_a, f_a, l_u6_a, r_a, B_a⟩ := blk_all B2; clear B2; have B2 := blk_below (g := w.heap.size + 1) ho pSd; (try simp (disch := first | omega | (simp; done) | (simp; omega)) only [pBk] at B2); (try rw [Hid.out B_b] at B2); (try simp only [pBk] at B2); (try clear c_b f_b r_b B_b); obtain ⟨c_b, f_b, l_u6_b, r_b, B_b⟩ := blk_all B2; clear B2; have B2 := blk_below (g := w.heap.size + 1 + 1) ho pSd; (try simp (disch := first | omega | (simp; done) | (simp; omega)) only [pBk] at B2); (try rw [Hid.out B_k] at B2); (try simp only [pBk] at B2); (try clear c_k f_k r_k B_k); obtain ⟨c_k, f_k, l_u6_k, r_k, B_k⟩ := blk_all B2; clear B2; clear ho)
  (try go_wp2_with fail)
  refine hK.out _ _ ?_ (fun hHeld2 => ?_)
  · exact pKp
  (try clear hHeld); have hHeld := hHeld2; clear hHeld2
  clear hK K
  (try simp only [pLy])
  refine Gw.tk 23 rfl ?_
  (try simp only [pLy])
  refine Gw.last (i := 24) rfl (by kernel_rfl) (by decide) (fun K hK => ?_)
  go_simp
  refine hK.out _ _ ?_
  clear hK K
  (try simp only [pLy])
  refine Gw.done (by kernel_rfl) ?_ _
  (try clear hHeld)
  go_upto_region 6 with (first | (go_at_call 17; refine (cOv _).mono ?_; rintro e u10 ⟨rfl, ho⟩; have hzu10 := Below.size ho; (try simp at hzu10); have HB2 : Hid (Below w.heap.size w u10) := Lib.hid (Below.trans (by exact pBl) (Below.mono ho pSd)); (try clear HB); have HB := HB2; clear HB2; have B2 := blk_below (g := w.heap.size) ho pSd; (try simp (disch := first | omega | (simp; done) | (simp; omega)) only [pBk] at B2); (try rw [Hid.out B_a] at B2); (try simp only [pBk] at B2); (try clear c_a f_a r_a B_a); obtain ⟨c_a, f_a, l_u10_a, r_a, B_a⟩ := blk_all B2; clear B2; have B2 := blk_below (g := w.heap.size + 1) ho pSd; (try simp (disch := first | omega | (simp; done) | (simp; omega)) only [pBk] at B2); (try rw [Hid.out B_b] at B2); (try simp only [pBk] at B2); (try clear c_b f_b r_b B_b); obtain ⟨c_b, f_b, l_u10_b, r_b, B_b⟩ := blk_all B2; clear B2; have B2 := blk_below (g := w.heap.size + 1 + 1) ho pSd; (try simp (disch := first | omega | (simp; done) | (simp; omega)) only [pBk] at B2); (try rw [Hid.out B_k] at B2); (try simp only [pBk] at B2); (try clear c_k f_k r_k B_k); obtain ⟨c_k, f_k, l_u10_k, r_k, B_k⟩ := blk_all B2; clear B2; clear ho) | (go_at_call 18; refine (cRo _).mono ?_; rintro e u11 ⟨rfl, ho⟩; have hzu11 := Below.size ho; (try simp at hzu11); have HB2 : Hid (Below w.heap.size w u11) := Lib.hid (Below.trans (by exact pBl) (Below.mono ho pSd)); (try clear HB); have HB := HB2; clear HB2; have B2 := blk_below (g := w.heap.size) ho pSd; (try simp (disch := first | omega | (simp; done) | (simp; omega)) only [pBk] at B2); (try rw [Hid.out B_a] at B2); (try simp only [pBk] at B2); (try clear c_a f_a r_a B_a); obtain ⟨c_a, f_a, l_u11_a, r_a, B_a⟩ := blk_all B2; clear B2; have B2 := blk_below (g := w.heap.size + 1) ho pSd; (try simp (disch := first | omega | (simp; done) | (simp; omega)) only [pBk] at B2); (try rw [Hid.out B_b] at B2); (try simp only [pBk] at B2); (try clear c_b f_b r_b B_b); obtain ⟨c_b, f_b, l_u11_b, r_b, B_b⟩ := blk_all B2; clear B2; have B2 := blk_below (g := w.heap.size + 1 + 1) ho pSd; (try simp (disch := first | omega | (simp; done) | (simp; omega)) only [pBk] at B2); (try rw [Hid.out B_k] at B2); (try simp only [pBk] at B2); (try clear c_k f_k r_k B_k); obtain ⟨c_k, f_k, l_u11_k, r_k, B_k⟩ := blk_all B2; clear B2; clear ho) | (go_at_call 19; refine (cBl _).mono ?_; rintro e u12 ⟨rfl, ho⟩; have hzu12 := Below.size ho; (try simp at hzu12); have HB2 : Hid (Below w.heap.size w u12) := Lib.hid (Below.trans (by exact pBl) (Below.mono ho pSd)); (try clear HB); have HB := HB2; clear HB2; have B2 := blk_below (g := w.heap.size) ho pSd; (try simp (disch := first | omega | (simp; done) | (simp; omega)) only [pBk] at B2); (try rw [Hid.out B_a] at B2); (try simp only [pBk] at B2); (try clear c_a f_a r_a B_a); obtain ⟨c_a, f_a, l_u12_a, r_a, B_a⟩ := blk_all B2; clear B2; have B2 := blk_below (g := w.heap.size + 1) ho pSd; (try simp (disch := first | omega | (simp; done) | (simp; omega)) only [pBk] at B2); (try rw [Hid.out B_b] at B2); (try simp only [pBk] at B2); (try clear c_b f_b r_b B_b); obtain ⟨c_b, f_b, l_u12_b, r_b, B_b⟩ := blk_all B2; clear B2; have B2 := blk_below (g := w.heap.size + 1 + 1) ho pSd; (try simp (disch := first | omega | (simp; done) | (simp; omega)) only [pBk] at B2); (try rw [Hid.out B_k] at B2); (try simp only [pBk] at B2); (try clear c_k f_k r_k B_k); obtain ⟨c_k, f_k, l_u12_k, r_k, B_k⟩ := blk_all B2; clear B2; have B2 := blk_below (g := u11.heap.size) ho pSd; (try simp (disch := first | omega | (simp; done) | (simp; omega)) only [pBk] at B2); (try rw [Hid.out B_o] at B2); (try simp only [pBk] at B2); (try clear c_o f_o r_o B_o); obtain ⟨c_o, f_o, l_u12_o, r_o, B_o⟩ := blk_all B2; clear B2; clear ho))
  clear cOv cRo cBl
  go_cut [7, 8, 9, 10, 11, 12, 13] (fun s7 s8 s9 s10 s11 s12 s13 wx => ∃ g_h : Nat, s7 = .bool oB ∧ s8 = .int .i64 oE ∧ s9 = .pointer (some ⟨u11.heap.size, 0, none⟩) ∧ s10 = .pointer (some ⟨u12.heap.size, 0, none⟩) ∧ s11 = .bool hB ∧ s12 = .int .i64 hE ∧ s13 = .pointer (some ⟨g_h, 0, none⟩) ∧ Below w.heap.size w wx ∧ blk wx (u11.heap.size) = some (.cells #[.bool oB, .int .i64 oE] 38 (0, 0)) ∧ blk wx (u12.heap.size) = some (.cells #[.int .i64 (hi j1), .int .u64 (lo j1), .int .i64 (hi j2), .int .u64 (lo j2)] 26 (0, 0)) ∧ blk wx (g_h) = some (.cells #[.int .i64 (hi j1), .int .u64 (lo j1), .int .i64 (hi j2), .int .u64 (lo j2), .bool hB, .int .i64 hE] 43 (0, 0)))
  case first =>
    go_wp2_with (go_at_call 20; refine (cRb _).mono ?_; rintro e u13 ⟨rfl, ho⟩; have hzu13 := Below.size ho; (try simp at hzu13); have HB2 : Hid (Below w.heap.size w u13) := Lib.hid (Below.trans (by exact pBl) (Below.mono ho pSd)); (try clear HB); have HB := HB2; clear HB2; have B2 := blk_below (g := w.heap.size) ho pSd; (try simp (disch := first | omega | (simp; done) | (simp; omega)) only [pBk] at B2); (try rw [Hid.out B_a] at B2); (try simp only [pBk] at B2); (try clear c_a f_a r_a B_a); obtain ⟨c_a, f_a, l_u13_a, r_a, B_a⟩ := blk_all B2; clear B2; have B2 := blk_below (g := w.heap.size + 1) ho pSd; (try simp (disch := first | omega | (simp; done) | (simp; omega)) only [pBk] at B2); (try rw [Hid.out B_b] at B2); (try simp only [pBk] at B2); (try clear c_b f_b r_b B_b); obtain ⟨c_b, f_b, l_u13_b, r_b, B_b⟩ := blk_all B2; clear B2; have B2 := blk_below (g := w.heap.size + 1 + 1) ho pSd; (try simp (disch := first | omega | (simp; done) | (simp; omega)) only [pBk] at B2); (try rw [Hid.out B_k] at B2); (try simp only [pBk] at B2); (try clear c_k f_k r_k B_k); obtain ⟨c_k, f_k, l_u13_k, r_k, B_k⟩ := blk_all B2; clear B2; have B2 := blk_below (g := u11.heap.size) ho pSd; (try simp (disch := first | omega | (simp; done) | (simp; omega)) only [pBk] at B2); (try rw [Hid.out B_o] at B2); (try simp only [pBk] at B2); (try clear c_o f_o r_o B_o); obtain ⟨c_o, f_o, l_u13_o, r_o, B_o⟩ := blk_all B2; clear B2; have B2 := blk_below (g := u12.heap.size) ho pSd; (try simp (disch := first | omega | (simp; done) | (simp; omega)) only [pBk] at B2); (try rw [Hid.out B_j] at B2); (try simp only [pBk] at B2); (try clear c_j f_j r_j B_j); obtain ⟨c_j, f_j, l_u13_j, r_j, B_j⟩ := blk_all B2; clear B2; clear ho)
    go_meet
    refine ⟨_, rfl, rfl, rfl, rfl, rfl, rfl, rfl, ?_, ?_, ?_, ?_⟩
    · exact pBl
    all_goals ((try simp (disch := first | omega | (simp; done) | (simp; omega)) only [pBk]); first | done | with_reducible rfl | with_reducible exact Hid.out (by assumption) | (with_reducible rw [Hid.out B_o]; (try simp only [pBk]); first | done | with_reducible rfl) | (with_reducible rw [Hid.out B_j]; (try simp only [pBk]); first | done | with_reducible rfl))
  case rest =>
    obtain ⟨g_h, rfl, rfl, rfl, rfl, rfl, rfl, rfl, hb_, e_o, e_j, e_h⟩ := hcut
    clear cRb c_a f_a r_a B_a c_b f_b r_b B_b c_k f_k r_k B_k h0 h1 h2 h3 h4 na nb rk wa wb ik c_o f_o r_o B_o HB
    have HB := Lib.hid hb_; clear hb_
    (try clear c_o); (try clear f_o r_o B_o); obtain ⟨c_o, f_o, l_o, r_o, B_o⟩ := blk_all e_o; clear e_o; (try clear c_j); (try clear f_j r_j B_j); obtain ⟨c_j, f_j, l_j, r_j, B_j⟩ := blk_all e_j; clear e_j; (try clear c_h); (try clear f_h r_h B_h); obtain ⟨c_h, f_h, l_h, r_h, B_h⟩ := blk_all e_h; clear e_h
    go_wp2_with fail
    refine wp_region_G (fun w' => w'.cell? ⟨u11.heap.size, 0, none⟩ = some (.bool oB) ∧ w'.cell? ⟨u11.heap.size, 1, none⟩ = some (.int .i64 oE) ∧ w'.cell? ⟨u12.heap.size, 0, none⟩ = some (.int .i64 (hi j1)) ∧ w'.cell? ⟨u12.heap.size, 1, none⟩ = some (.int .u64 (lo j1)) ∧ w'.cell? ⟨u12.heap.size, 2, none⟩ = some (.int .i64 (hi j2)) ∧ w'.cell? ⟨u12.heap.size, 3, none⟩ = some (.int .u64 (lo j2)) ∧ w'.cell? ⟨g_h, 0, none⟩ = some (.int .i64 (hi j1)) ∧ w'.cell? ⟨g_h, 1, none⟩ = some (.int .u64 (lo j1)) ∧ w'.cell? ⟨g_h, 2, none⟩ = some (.int .i64 (hi j2)) ∧ w'.cell? ⟨g_h, 3, none⟩ = some (.int .u64 (lo j2)) ∧ w'.cell? ⟨g_h, 4, none⟩ = some (.bool hB) ∧ w'.cell? ⟨g_h, 5, none⟩ = some (.int .i64 hE)) 33 (by kernel_rfl) ?_ (fun hHeld => ?_)
    · exact pKp
    refine Gw.tk 0 rfl ?_
    (try simp only [pLy])
    refine Gw.tk 1 rfl ?_
    (try simp only [pLy])
    refine Gw.tk 2 rfl ?_
    (try simp only [pLy])
    refine Gw.tk 3 rfl ?_
    (try simp only [pLy])
    refine Gw.tk 4 rfl ?_
    (try simp only [pLy])
    refine Gw.tk 5 rfl ?_
    (try simp only [pLy])
    refine Gw.tk 7 rfl ?_
    (try simp only [pLy])
    refine Gw.tk 8 rfl ?_
    (try simp only [pLy])
    refine Gw.one (i := 6) rfl (by kernel_rfl) (fun K hK => ?_)
    go_simp
    (go_at_call 21; refine (l1_Num _ _).mono ?_; rintro e u14 ⟨rfl, ho⟩; have hzu14 := Below.size ho; (try simp at hzu14); have HB2 : Hid (Below w.heap.size w u14) := Lib.hid (Below.trans (by exact pBl) (Below.mono ho pSd)); (try clear HB); have HB := HB2; clear HB2; have B2 := blk_below (g := u11.heap.size) ho pSd; (try simp (disch := first | omega | (simp; done) | (simp; omega)) only [pBk] at B2); (try rw [Hid.out B_o] at B2); (try simp only [pBk] at B2); (try clear c_o f_o r_o B_o); obtain ⟨c_o, f_o, l_u14_o, r_o, B_o⟩ := blk_all B2; clear B2; have B2 := blk_below (g := u12.heap.size) ho pSd; (try simp (disch := first | omega | (simp; done) | (simp; omega)) only [pBk] at B2); (try rw [Hid.out B_j] at B2); (try simp only [pBk] at B2); (try clear c_j f_j r_j B_j); obtain ⟨c_j, f_j, l_u14_j, r_j, B_j⟩ := blk_all B2; clear B2; have B2 := blk_below (g := g_h) ho pSd; (try simp (disch := first | omega | (simp; done) | (simp; omega)) only [pBk] at B2); (try rw [Hid.out B_h] at B2); (try simp only [pBk] at B2); (try clear c_h f_h r_h B_h); obtain ⟨c_h, f_h, l_u14_h, r_h, B_h⟩ := blk_all B2; clear B2; clear ho)
    (try go_wp2_with fail)
    refine hK.out _ _ ?_ (fun hHeld2 => ?_)
    · exact pKp
    (try clear hHeld); have hHeld := hHeld2; clear hHeld2
    clear hK K
    (try simp only [pLy])
    refine Gw.tk 9 rfl ?_
    (try simp only [pLy])
    refine Gw.tk 10 rfl ?_
    (try simp only [pLy])
    refine Gw.tk 11 rfl ?_
    (try simp only [pLy])
    refine Gw.tk 12 rfl ?_
    (try simp only [pLy])
    refine Gw.tk 13 rfl ?_
    (try simp only [pLy])
    refine Gw.tk 14 rfl ?_
    (try simp only [pLy])
    refine Gw.tk 15 rfl ?_
    (try simp only [pLy])
    refine Gw.tk 16 rfl ?_
    (try simp only [pLy])
    refine Gw.tk 17 rfl ?_
    (try simp only [pLy])
    refine Gw.tk 18 rfl ?_
    (try simp only [pLy])
    refine Gw.tk 19 rfl ?_
    (try simp only [pLy])
    refine Gw.tk 20 rfl ?_
    (try simp only [pLy])
    refine Gw.tk 21 rfl ?_
    (try simp only [pLy])
    refine Gw.tk 22 rfl ?_
    (try simp only [pLy])
    refine Gw.tk 23 rfl ?_
    (try simp only [pLy])
    refine Gw.tk 24 rfl ?_
    (try simp only [pLy])
    refine Gw.tk 26 rfl ?_
    (try simp only [pLy])
    refine Gw.tk 27 rfl ?_
    (try simp only [pLy])
    refine Gw.one (i := 25) rfl (by kernel_rfl) (fun K hK => ?_)
    go_simp
    (go_at_call 21; refine (l1_Num _ _).mono ?_; rintro e u15 ⟨rfl, ho⟩; have hzu15 := Below.size ho; (try simp at hzu15); have HB2 : Hid (Below w.heap.size w u15) := Lib.hid (Below.trans (by exact pBl) (Below.mono ho pSd)); (try clear HB); have HB := HB2; clear HB2; have B2 := blk_below (g := u11.heap.size) ho pSd; (try simp (disch := first | omega | (simp; done) | (simp; omega)) only [pBk] at B2); (try rw [Hid.out B_o] at B2); (try simp only [pBk] at B2); (try clear c_o f_o r_o B_o); obtain ⟨c_o, f_o, l_u15_o, r_o, B_o⟩ := blk_all B2; clear B2; have B2 := blk_below (g := u12.heap.size) ho pSd; (try simp (disch := first | omega | (simp; done) | (simp; omega)) only [pBk] at B2); (try rw [Hid.out B_j] at B2); (try simp only [pBk] at B2); (try clear c_j f_j r_j B_j); obtain ⟨c_j, f_j, l_u15_j, r_j, B_j⟩ := blk_all B2; clear B2; have B2 := blk_below (g := g_h) ho pSd; (try simp (disch := first | omega | (simp; done) | (simp; omega)) only [pBk] at B2); (try rw [Hid.out B_h] at B2); (try simp only [pBk] at B2); (try clear c_h f_h r_h B_h); obtain ⟨c_h, f_h, l_u15_h, r_h, B_h⟩ := blk_all B2; clear B2; clear ho)
    (try go_wp2_with fail)
    refine hK.out _ _ ?_ (fun hHeld2 => ?_)
    · exact pKp
    (try clear hHeld); have hHeld := hHeld2; clear hHeld2
    clear hK K
    (try simp only [pLy])
    refine Gw.tk 28 rfl ?_
    (try simp only [pLy])
    refine Gw.tk 29 rfl ?_
    (try simp only [pLy])
    refine Gw.tk 30 rfl ?_
    (try simp only [pLy])
    refine Gw.one (i := 31) rfl (by kernel_rfl) (fun K hK => ?_)
    go_simp
    (go_at_call 16; refine (l17_awake _).mono ?_; rintro e u16 ⟨rfl, ho⟩; have hzu16 := Below.size ho; (try simp at hzu16); have HB2 : Hid (Below w.heap.size w u16) := Lib.hid (Below.trans (by exact pBl) (Below.mono ho pSd)); (try clear HB); have HB := HB2; clear HB2; have B2 := blk_below (g := u11.heap.size) ho pSd; (try simp (disch := first | omega | (simp; done) | (simp; omega)) only [pBk] at B2); (try rw [Hid.out B_o] at B2); (try simp only [pBk] at B2); (try clear c_o f_o r_o B_o); obtain ⟨c_o, f_o, l_u16_o, r_o, B_o⟩ := blk_all B2; clear B2; have B2 := blk_below (g := u12.heap.size) ho pSd; (try simp (disch := first | omega | (simp; done) | (simp; omega)) only [pBk] at B2); (try rw [Hid.out B_j] at B2); (try simp only [pBk] at B2); (try clear c_j f_j r_j B_j); obtain ⟨c_j, f_j, l_u16_j, r_j, B_j⟩ := blk_all B2; clear B2; have B2 := blk_below (g := g_h) ho pSd; (try simp (disch := first | omega | (simp; done) | (simp; omega)) only [pBk] at B2); (try rw [Hid.out B_h] at B2); (try simp only [pBk] at B2); (try clear c_h f_h r_h B_h); obtain ⟨c_h, f_h, l_u16_h, r_h, B_h⟩ := blk_all B2; clear B2; clear ho)
    (try go_wp2_with fail)
    refine hK.out _ _ ?_ (fun hHeld2 => ?_)
    · exact pKp
    (try clear hHeld); have hHeld := hHeld2; clear hHeld2
    clear hK K
    (try simp only [pLy])
    refine Gw.tk 32 rfl ?_
    (try simp only [pLy])
    refine Gw.last (i := 33) rfl (by kernel_rfl) (by decide) (fun K hK => ?_)
    go_simp
    refine hK.out _ _ ?_
    clear hK K
    (try simp only [pLy])
    refine Gw.done (by kernel_rfl) ?_ _
    go_wp2_with fail
    all_goals refine bodyPost_ret ?r rfl ⟨rfl, ?b⟩
    case r => simp (maxDischargeDepth := 9) [results, Try.results3, go_sem, *]
    case b => exact pBl
end Go.Proofs.Ytdphhkbbphfjlaa
