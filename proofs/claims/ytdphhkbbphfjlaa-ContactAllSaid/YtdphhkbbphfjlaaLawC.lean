/- The walk of ContactAll. -/
import Derived.Test.YtdphhkbbphfjlaaLawB
import Derived.Test.YtdphhkbbphfjlaaRefN
import Derived.Test.YtdphhkbbphfjlaaRefQ
set_option linter.unusedVariables false
set_option linter.unusedSimpArgs false
namespace Go.Proofs.Ytdphhkbbphfjlaa
open Go.RowKit
attribute [local go_sem] uwrap_lo lo_lo hi_lo val_hl val_00 v4_q
attribute [local go_sem ↓] Go.wp_at_zero Go.wp_at_succ
attribute [local go_sem] fld_sum0 fld_sum1
attribute [local go_sem] nOf_ok nOf_err eOf_ok eOf_err xOf_ok yOf_ok xOf_err yOf_err vecX_ok vecX_err vecX_ok_err hi_z lo_z okB_ok okB_err hitV_some hitV_none hitV_err hitB_some hitB_none hitB_err
attribute [local go_sem ↓] loadRow_body
attribute [local go_sem] rowAt_at rowAt_past rowAt_drew rowAt_far run_load_body row_0_0 row_0_1 row_0_2 row_0_3 row_0_4 row_0_5 row_1_0 row_1_1 row_1_2 row_1_3 row_1_4 row_2_0 row_2_1 row_2_2 row_2_3
attribute [local go_sem] cmpI_gt' cmpI_lt' cmpI_ge' cmpI_le'
theorem Try.vec_self (a b c d : Int) (w : World) : (binOp .eql 26 (.agg #[.int .i64 a, .int .u64 b, .int .i64 c, .int .u64 d]) (.agg #[.int .i64 a, .int .u64 b, .int .i64 c, .int .u64 d])).run Try.prog w = .ok (.bool true) w := by
  go_simp
attribute [local go_sem ↓] Try.vec_self
theorem c_one : val 1 0 = one := by unfold val one; omega
attribute [local go_sem] c_one

set_option maxRecDepth 100000 in
set_option maxHeartbeats 16000000 in
theorem all_f0 (a b : BodyI) (k : Int) (w : World) (wa : Wide a) (wb : Wide b) (ik : I64 (hi k)) (h0 : mayB a = false) :
    Calls Try.prog 3 #[.agg #[.int .i64 (hi a.mass), .int .u64 (lo a.mass), .int .i64 (hi a.radius), .int .u64 (lo a.radius), .int .i64 (hi a.x), .int .u64 (lo a.x), .int .i64 (hi a.y), .int .u64 (lo a.y), .int .i64 (hi a.px), .int .u64 (lo a.px), .int .i64 (hi a.py), .int .u64 (lo a.py), .int .i64 (hi a.fuel), .int .u64 (lo a.fuel), .int .i64 (hi a.rate), .int .u64 (lo a.rate), .int .i64 (hi a.exh), .int .u64 (lo a.exh), .int .i64 a.thr, .int .i64 a.head], .agg #[.int .i64 (hi b.mass), .int .u64 (lo b.mass), .int .i64 (hi b.radius), .int .u64 (lo b.radius), .int .i64 (hi b.x), .int .u64 (lo b.x), .int .i64 (hi b.y), .int .u64 (lo b.y), .int .i64 (hi b.px), .int .u64 (lo b.px), .int .i64 (hi b.py), .int .u64 (lo b.py), .int .i64 (hi b.fuel), .int .u64 (lo b.fuel), .int .i64 (hi b.rate), .int .u64 (lo b.rate), .int .i64 (hi b.exh), .int .u64 (lo b.exh), .int .i64 b.thr, .int .i64 b.head], .agg #[.int .i64 (hi k), .int .u64 (lo k)]] w fun e w' => e = .returned (.bool true) ∧ Below w.heap.size w w' := by
  go_enter Try.func3, Try.ntmps3
  go_wp2_with fail
  refine wp_region_G (fun w' => rowAt w' (w.heap.size) = #[.int .i64 (hi a.mass), .int .u64 (lo a.mass), .int .i64 (hi a.radius), .int .u64 (lo a.radius), .int .i64 (hi a.x), .int .u64 (lo a.x), .int .i64 (hi a.y), .int .u64 (lo a.y), .int .i64 (hi a.px), .int .u64 (lo a.px), .int .i64 (hi a.py), .int .u64 (lo a.py), .int .i64 (hi a.fuel), .int .u64 (lo a.fuel), .int .i64 (hi a.rate), .int .u64 (lo a.rate), .int .i64 (hi a.exh), .int .u64 (lo a.exh), .int .i64 a.thr, .int .i64 a.head] ∧ rowAt w' (w.heap.size + 1) = #[.int .i64 (hi b.mass), .int .u64 (lo b.mass), .int .i64 (hi b.radius), .int .u64 (lo b.radius), .int .i64 (hi b.x), .int .u64 (lo b.x), .int .i64 (hi b.y), .int .u64 (lo b.y), .int .i64 (hi b.px), .int .u64 (lo b.px), .int .i64 (hi b.py), .int .u64 (lo b.py), .int .i64 (hi b.fuel), .int .u64 (lo b.fuel), .int .i64 (hi b.rate), .int .u64 (lo b.rate), .int .i64 (hi b.exh), .int .u64 (lo b.exh), .int .i64 b.thr, .int .i64 b.head] ∧ w'.cell? ⟨w.heap.size + 1 + 1, 0, none⟩ = some (.int .i64 (hi k)) ∧ w'.cell? ⟨w.heap.size + 1 + 1, 1, none⟩ = some (.int .u64 (lo k))) 24 (by kernel_rfl) ?_ (fun hHeld => ?_)
  · exact pKp
  refine Gw.tk 0 rfl ?_
  (try simp only [pLy])
  refine Gw.one (i := 1) rfl (by kernel_rfl) (fun K hK => ?_)
  go_simp
  (go_at_call 12; refine (r22_MayBody a _ (by assumption)).mono ?_; rintro e u1 ⟨rfl, ho⟩; have hzu1 := Below.size ho; (try simp at hzu1); have HB2 : Hid (Below w.heap.size w u1) := Lib.hid (Below.trans (by exact pBl) (Below.mono ho pSd)); (try clear HB); have HB := HB2; clear HB2; have B2 := blk_below (g := w.heap.size) ho pSd; (try simp (disch := first | omega | (simp; done) | (simp; omega)) only [pBk] at B2); (try rw [Hid.out B_a] at B2); (try simp only [pBk] at B2); (try clear c_a f_a r_a B_a); obtain ⟨c_a, f_a, l_u1_a, r_a, B_a⟩ := blk_all B2; clear B2; have B2 := blk_below (g := w.heap.size + 1) ho pSd; (try simp (disch := first | omega | (simp; done) | (simp; omega)) only [pBk] at B2); (try rw [Hid.out B_b] at B2); (try simp only [pBk] at B2); (try clear c_b f_b r_b B_b); obtain ⟨c_b, f_b, l_u1_b, r_b, B_b⟩ := blk_all B2; clear B2; have B2 := blk_below (g := w.heap.size + 1 + 1) ho pSd; (try simp (disch := first | omega | (simp; done) | (simp; omega)) only [pBk] at B2); (try rw [Hid.out B_k] at B2); (try simp only [pBk] at B2); (try clear c_k f_k r_k B_k); obtain ⟨c_k, f_k, l_u1_k, r_k, B_k⟩ := blk_all B2; clear B2; clear ho)
  (try go_wp2_with fail)
  refine hK.out _ _ ?_ (fun hHeld => ?_)
  · exact pKp
  clear hK K
  (try simp only [pLy])
  refine Gw.tk 2 rfl ?_
  (try simp only [pLy])
  refine Gw.tk 3 rfl ?_
  (try simp only [pLy])
  refine Gw.ts 4 rfl ?_
  (try simp only [pLy])
  refine Gw.one (i := 5) rfl (by kernel_rfl) (fun K hK => ?_)
  go_simp
  refine hK.out _ _ ?_ (fun hHeld => ?_)
  · exact pKp
  clear hK K
  (try simp only [pLy])
  refine Gw.ts 6 rfl ?_
  (try simp only [pLy])
  refine Gw.tk 7 rfl ?_
  (try simp only [pLy])
  refine Gw.tk 8 rfl ?_
  (try simp only [pLy])
  refine Gw.ts 9 rfl ?_
  (try simp only [pLy])
  refine Gw.one (i := 10) rfl (by kernel_rfl) (fun K hK => ?_)
  go_simp
  refine hK.out _ _ ?_ (fun hHeld => ?_)
  · exact pKp
  clear hK K
  (try simp only [pLy])
  refine Gw.ts 11 rfl ?_
  (try simp only [pLy])
  refine Gw.tk 12 rfl ?_
  (try simp only [pLy])
  refine Gw.tk 13 rfl ?_
  (try simp only [pLy])
  refine Gw.ts 14 rfl ?_
  (try simp only [pLy])
  refine Gw.ts 15 rfl ?_
  (try simp only [pLy])
  refine Gw.one (i := 16) rfl (by kernel_rfl) (fun K hK => ?_)
  go_simp
  refine hK.out _ _ ?_ (fun hHeld => ?_)
  · exact pKp
  clear hK K
  (try simp only [pLy])
  refine Gw.ts 17 rfl ?_
  (try simp only [pLy])
  refine Gw.tk 18 rfl ?_
  (try simp only [pLy])
  refine Gw.tk 19 rfl ?_
  (try simp only [pLy])
  refine Gw.ts 20 rfl ?_
  (try simp only [pLy])
  refine Gw.one (i := 21) rfl (by kernel_rfl) (fun K hK => ?_)
  go_simp
  refine hK.out _ _ ?_ (fun hHeld => ?_)
  · exact pKp
  clear hK K
  (try simp only [pLy])
  refine Gw.one (i := 22) rfl (by kernel_rfl) (fun K hK => ?_)
  go_simp
  refine hK.out _ _ ?_ (fun hHeld => ?_)
  · exact pKp
  clear hK K
  (try simp only [pLy])
  refine Gw.ts 23 rfl ?_
  (try simp only [pLy])
  refine Gw.last (i := 24) rfl (by kernel_rfl) (by decide) (fun K hK => ?_)
  go_simp
  refine hK.out _ _ ?_
  clear hK K
  (try simp only [pLy])
  refine Gw.done (by kernel_rfl) ?_ _
  go_wp2_with (go_at_call 16; refine (l17_awake _).mono ?_; rintro e u9 ⟨rfl, ho⟩; have hzu9 := Below.size ho; (try simp at hzu9); have HB2 : Hid (Below w.heap.size w u9) := Lib.hid (Below.trans (by exact pBl) (Below.mono ho pSd)); (try clear HB); have HB := HB2; clear HB2; have B2 := blk_below (g := w.heap.size) ho pSd; (try simp (disch := first | omega | (simp; done) | (simp; omega)) only [pBk] at B2); (try rw [Hid.out B_a] at B2); (try simp only [pBk] at B2); (try clear c_a f_a r_a B_a); obtain ⟨c_a, f_a, l_u9_a, r_a, B_a⟩ := blk_all B2; clear B2; have B2 := blk_below (g := w.heap.size + 1) ho pSd; (try simp (disch := first | omega | (simp; done) | (simp; omega)) only [pBk] at B2); (try rw [Hid.out B_b] at B2); (try simp only [pBk] at B2); (try clear c_b f_b r_b B_b); obtain ⟨c_b, f_b, l_u9_b, r_b, B_b⟩ := blk_all B2; clear B2; have B2 := blk_below (g := w.heap.size + 1 + 1) ho pSd; (try simp (disch := first | omega | (simp; done) | (simp; omega)) only [pBk] at B2); (try rw [Hid.out B_k] at B2); (try simp only [pBk] at B2); (try clear c_k f_k r_k B_k); obtain ⟨c_k, f_k, l_u9_k, r_k, B_k⟩ := blk_all B2; clear B2; clear ho)
  all_goals refine bodyPost_ret ?r rfl ⟨rfl, ?b⟩
  case r => simp (maxDischargeDepth := 9) [results, Try.results3, go_sem, *]
  case b => exact pBl

set_option maxRecDepth 100000 in
set_option maxHeartbeats 16000000 in
theorem all_f1 (a b : BodyI) (k : Int) (w : World) (wa : Wide a) (wb : Wide b) (ik : I64 (hi k)) (h0 : mayB a = true) (h1 : mayB b = false) :
    Calls Try.prog 3 #[.agg #[.int .i64 (hi a.mass), .int .u64 (lo a.mass), .int .i64 (hi a.radius), .int .u64 (lo a.radius), .int .i64 (hi a.x), .int .u64 (lo a.x), .int .i64 (hi a.y), .int .u64 (lo a.y), .int .i64 (hi a.px), .int .u64 (lo a.px), .int .i64 (hi a.py), .int .u64 (lo a.py), .int .i64 (hi a.fuel), .int .u64 (lo a.fuel), .int .i64 (hi a.rate), .int .u64 (lo a.rate), .int .i64 (hi a.exh), .int .u64 (lo a.exh), .int .i64 a.thr, .int .i64 a.head], .agg #[.int .i64 (hi b.mass), .int .u64 (lo b.mass), .int .i64 (hi b.radius), .int .u64 (lo b.radius), .int .i64 (hi b.x), .int .u64 (lo b.x), .int .i64 (hi b.y), .int .u64 (lo b.y), .int .i64 (hi b.px), .int .u64 (lo b.px), .int .i64 (hi b.py), .int .u64 (lo b.py), .int .i64 (hi b.fuel), .int .u64 (lo b.fuel), .int .i64 (hi b.rate), .int .u64 (lo b.rate), .int .i64 (hi b.exh), .int .u64 (lo b.exh), .int .i64 b.thr, .int .i64 b.head], .agg #[.int .i64 (hi k), .int .u64 (lo k)]] w fun e w' => e = .returned (.bool true) ∧ Below w.heap.size w w' := by
  go_enter Try.func3, Try.ntmps3
  go_wp2_with fail
  refine wp_region_G (fun w' => rowAt w' (w.heap.size) = #[.int .i64 (hi a.mass), .int .u64 (lo a.mass), .int .i64 (hi a.radius), .int .u64 (lo a.radius), .int .i64 (hi a.x), .int .u64 (lo a.x), .int .i64 (hi a.y), .int .u64 (lo a.y), .int .i64 (hi a.px), .int .u64 (lo a.px), .int .i64 (hi a.py), .int .u64 (lo a.py), .int .i64 (hi a.fuel), .int .u64 (lo a.fuel), .int .i64 (hi a.rate), .int .u64 (lo a.rate), .int .i64 (hi a.exh), .int .u64 (lo a.exh), .int .i64 a.thr, .int .i64 a.head] ∧ rowAt w' (w.heap.size + 1) = #[.int .i64 (hi b.mass), .int .u64 (lo b.mass), .int .i64 (hi b.radius), .int .u64 (lo b.radius), .int .i64 (hi b.x), .int .u64 (lo b.x), .int .i64 (hi b.y), .int .u64 (lo b.y), .int .i64 (hi b.px), .int .u64 (lo b.px), .int .i64 (hi b.py), .int .u64 (lo b.py), .int .i64 (hi b.fuel), .int .u64 (lo b.fuel), .int .i64 (hi b.rate), .int .u64 (lo b.rate), .int .i64 (hi b.exh), .int .u64 (lo b.exh), .int .i64 b.thr, .int .i64 b.head] ∧ w'.cell? ⟨w.heap.size + 1 + 1, 0, none⟩ = some (.int .i64 (hi k)) ∧ w'.cell? ⟨w.heap.size + 1 + 1, 1, none⟩ = some (.int .u64 (lo k))) 24 (by kernel_rfl) ?_ (fun hHeld => ?_)
  · exact pKp
  refine Gw.tk 0 rfl ?_
  (try simp only [pLy])
  refine Gw.one (i := 1) rfl (by kernel_rfl) (fun K hK => ?_)
  go_simp
  (go_at_call 12; refine (r22_MayBody a _ (by assumption)).mono ?_; rintro e u1 ⟨rfl, ho⟩; have hzu1 := Below.size ho; (try simp at hzu1); have HB2 : Hid (Below w.heap.size w u1) := Lib.hid (Below.trans (by exact pBl) (Below.mono ho pSd)); (try clear HB); have HB := HB2; clear HB2; have B2 := blk_below (g := w.heap.size) ho pSd; (try simp (disch := first | omega | (simp; done) | (simp; omega)) only [pBk] at B2); (try rw [Hid.out B_a] at B2); (try simp only [pBk] at B2); (try clear c_a f_a r_a B_a); obtain ⟨c_a, f_a, l_u1_a, r_a, B_a⟩ := blk_all B2; clear B2; have B2 := blk_below (g := w.heap.size + 1) ho pSd; (try simp (disch := first | omega | (simp; done) | (simp; omega)) only [pBk] at B2); (try rw [Hid.out B_b] at B2); (try simp only [pBk] at B2); (try clear c_b f_b r_b B_b); obtain ⟨c_b, f_b, l_u1_b, r_b, B_b⟩ := blk_all B2; clear B2; have B2 := blk_below (g := w.heap.size + 1 + 1) ho pSd; (try simp (disch := first | omega | (simp; done) | (simp; omega)) only [pBk] at B2); (try rw [Hid.out B_k] at B2); (try simp only [pBk] at B2); (try clear c_k f_k r_k B_k); obtain ⟨c_k, f_k, l_u1_k, r_k, B_k⟩ := blk_all B2; clear B2; clear ho)
  (try go_wp2_with fail)
  refine hK.out _ _ ?_ (fun hHeld => ?_)
  · exact pKp
  clear hK K
  (try simp only [pLy])
  refine Gw.tk 2 rfl ?_
  (try simp only [pLy])
  refine Gw.tk 3 rfl ?_
  (try simp only [pLy])
  refine Gw.tk 4 rfl ?_
  (try simp only [pLy])
  refine Gw.one (i := 5) rfl (by kernel_rfl) (fun K hK => ?_)
  go_simp
  (go_at_call 12; refine (r22_MayBody b _ (by assumption)).mono ?_; rintro e u2 ⟨rfl, ho⟩; have hzu2 := Below.size ho; (try simp at hzu2); have HB2 : Hid (Below w.heap.size w u2) := Lib.hid (Below.trans (by exact pBl) (Below.mono ho pSd)); (try clear HB); have HB := HB2; clear HB2; have B2 := blk_below (g := w.heap.size) ho pSd; (try simp (disch := first | omega | (simp; done) | (simp; omega)) only [pBk] at B2); (try rw [Hid.out B_a] at B2); (try simp only [pBk] at B2); (try clear c_a f_a r_a B_a); obtain ⟨c_a, f_a, l_u2_a, r_a, B_a⟩ := blk_all B2; clear B2; have B2 := blk_below (g := w.heap.size + 1) ho pSd; (try simp (disch := first | omega | (simp; done) | (simp; omega)) only [pBk] at B2); (try rw [Hid.out B_b] at B2); (try simp only [pBk] at B2); (try clear c_b f_b r_b B_b); obtain ⟨c_b, f_b, l_u2_b, r_b, B_b⟩ := blk_all B2; clear B2; have B2 := blk_below (g := w.heap.size + 1 + 1) ho pSd; (try simp (disch := first | omega | (simp; done) | (simp; omega)) only [pBk] at B2); (try rw [Hid.out B_k] at B2); (try simp only [pBk] at B2); (try clear c_k f_k r_k B_k); obtain ⟨c_k, f_k, l_u2_k, r_k, B_k⟩ := blk_all B2; clear B2; clear ho)
  (try go_wp2_with fail)
  refine hK.out _ _ ?_ (fun hHeld => ?_)
  · exact pKp
  clear hK K
  (try simp only [pLy])
  refine Gw.tk 6 rfl ?_
  (try simp only [pLy])
  refine Gw.tk 7 rfl ?_
  (try simp only [pLy])
  refine Gw.tk 8 rfl ?_
  (try simp only [pLy])
  refine Gw.ts 9 rfl ?_
  (try simp only [pLy])
  refine Gw.one (i := 10) rfl (by kernel_rfl) (fun K hK => ?_)
  go_simp
  refine hK.out _ _ ?_ (fun hHeld => ?_)
  · exact pKp
  clear hK K
  (try simp only [pLy])
  refine Gw.ts 11 rfl ?_
  (try simp only [pLy])
  refine Gw.tk 12 rfl ?_
  (try simp only [pLy])
  refine Gw.tk 13 rfl ?_
  (try simp only [pLy])
  refine Gw.ts 14 rfl ?_
  (try simp only [pLy])
  refine Gw.ts 15 rfl ?_
  (try simp only [pLy])
  refine Gw.one (i := 16) rfl (by kernel_rfl) (fun K hK => ?_)
  go_simp
  refine hK.out _ _ ?_ (fun hHeld => ?_)
  · exact pKp
  clear hK K
  (try simp only [pLy])
  refine Gw.ts 17 rfl ?_
  (try simp only [pLy])
  refine Gw.tk 18 rfl ?_
  (try simp only [pLy])
  refine Gw.tk 19 rfl ?_
  (try simp only [pLy])
  refine Gw.ts 20 rfl ?_
  (try simp only [pLy])
  refine Gw.one (i := 21) rfl (by kernel_rfl) (fun K hK => ?_)
  go_simp
  refine hK.out _ _ ?_ (fun hHeld => ?_)
  · exact pKp
  clear hK K
  (try simp only [pLy])
  refine Gw.one (i := 22) rfl (by kernel_rfl) (fun K hK => ?_)
  go_simp
  refine hK.out _ _ ?_ (fun hHeld => ?_)
  · exact pKp
  clear hK K
  (try simp only [pLy])
  refine Gw.ts 23 rfl ?_
  (try simp only [pLy])
  refine Gw.last (i := 24) rfl (by kernel_rfl) (by decide) (fun K hK => ?_)
  go_simp
  refine hK.out _ _ ?_
  clear hK K
  (try simp only [pLy])
  refine Gw.done (by kernel_rfl) ?_ _
  go_wp2_with (go_at_call 16; refine (l17_awake _).mono ?_; rintro e u9 ⟨rfl, ho⟩; have hzu9 := Below.size ho; (try simp at hzu9); have HB2 : Hid (Below w.heap.size w u9) := Lib.hid (Below.trans (by exact pBl) (Below.mono ho pSd)); (try clear HB); have HB := HB2; clear HB2; have B2 := blk_below (g := w.heap.size) ho pSd; (try simp (disch := first | omega | (simp; done) | (simp; omega)) only [pBk] at B2); (try rw [Hid.out B_a] at B2); (try simp only [pBk] at B2); (try clear c_a f_a r_a B_a); obtain ⟨c_a, f_a, l_u9_a, r_a, B_a⟩ := blk_all B2; clear B2; have B2 := blk_below (g := w.heap.size + 1) ho pSd; (try simp (disch := first | omega | (simp; done) | (simp; omega)) only [pBk] at B2); (try rw [Hid.out B_b] at B2); (try simp only [pBk] at B2); (try clear c_b f_b r_b B_b); obtain ⟨c_b, f_b, l_u9_b, r_b, B_b⟩ := blk_all B2; clear B2; have B2 := blk_below (g := w.heap.size + 1 + 1) ho pSd; (try simp (disch := first | omega | (simp; done) | (simp; omega)) only [pBk] at B2); (try rw [Hid.out B_k] at B2); (try simp only [pBk] at B2); (try clear c_k f_k r_k B_k); obtain ⟨c_k, f_k, l_u9_k, r_k, B_k⟩ := blk_all B2; clear B2; clear ho)
  all_goals refine bodyPost_ret ?r rfl ⟨rfl, ?b⟩
  case r => simp (maxDischargeDepth := 9) [results, Try.results3, go_sem, *]
  case b => exact pBl

set_option maxRecDepth 100000 in
set_option maxHeartbeats 16000000 in
theorem all_f2 (a b : BodyI) (k : Int) (w : World) (wa : Wide a) (wb : Wide b) (ik : I64 (hi k)) (h0 : mayB a = true) (h1 : mayB b = true) (h2 : decide (R k) = false) :
    Calls Try.prog 3 #[.agg #[.int .i64 (hi a.mass), .int .u64 (lo a.mass), .int .i64 (hi a.radius), .int .u64 (lo a.radius), .int .i64 (hi a.x), .int .u64 (lo a.x), .int .i64 (hi a.y), .int .u64 (lo a.y), .int .i64 (hi a.px), .int .u64 (lo a.px), .int .i64 (hi a.py), .int .u64 (lo a.py), .int .i64 (hi a.fuel), .int .u64 (lo a.fuel), .int .i64 (hi a.rate), .int .u64 (lo a.rate), .int .i64 (hi a.exh), .int .u64 (lo a.exh), .int .i64 a.thr, .int .i64 a.head], .agg #[.int .i64 (hi b.mass), .int .u64 (lo b.mass), .int .i64 (hi b.radius), .int .u64 (lo b.radius), .int .i64 (hi b.x), .int .u64 (lo b.x), .int .i64 (hi b.y), .int .u64 (lo b.y), .int .i64 (hi b.px), .int .u64 (lo b.px), .int .i64 (hi b.py), .int .u64 (lo b.py), .int .i64 (hi b.fuel), .int .u64 (lo b.fuel), .int .i64 (hi b.rate), .int .u64 (lo b.rate), .int .i64 (hi b.exh), .int .u64 (lo b.exh), .int .i64 b.thr, .int .i64 b.head], .agg #[.int .i64 (hi k), .int .u64 (lo k)]] w fun e w' => e = .returned (.bool true) ∧ Below w.heap.size w w' := by
  go_enter Try.func3, Try.ntmps3
  go_wp2_with fail
  refine wp_region_G (fun w' => rowAt w' (w.heap.size) = #[.int .i64 (hi a.mass), .int .u64 (lo a.mass), .int .i64 (hi a.radius), .int .u64 (lo a.radius), .int .i64 (hi a.x), .int .u64 (lo a.x), .int .i64 (hi a.y), .int .u64 (lo a.y), .int .i64 (hi a.px), .int .u64 (lo a.px), .int .i64 (hi a.py), .int .u64 (lo a.py), .int .i64 (hi a.fuel), .int .u64 (lo a.fuel), .int .i64 (hi a.rate), .int .u64 (lo a.rate), .int .i64 (hi a.exh), .int .u64 (lo a.exh), .int .i64 a.thr, .int .i64 a.head] ∧ rowAt w' (w.heap.size + 1) = #[.int .i64 (hi b.mass), .int .u64 (lo b.mass), .int .i64 (hi b.radius), .int .u64 (lo b.radius), .int .i64 (hi b.x), .int .u64 (lo b.x), .int .i64 (hi b.y), .int .u64 (lo b.y), .int .i64 (hi b.px), .int .u64 (lo b.px), .int .i64 (hi b.py), .int .u64 (lo b.py), .int .i64 (hi b.fuel), .int .u64 (lo b.fuel), .int .i64 (hi b.rate), .int .u64 (lo b.rate), .int .i64 (hi b.exh), .int .u64 (lo b.exh), .int .i64 b.thr, .int .i64 b.head] ∧ w'.cell? ⟨w.heap.size + 1 + 1, 0, none⟩ = some (.int .i64 (hi k)) ∧ w'.cell? ⟨w.heap.size + 1 + 1, 1, none⟩ = some (.int .u64 (lo k))) 24 (by kernel_rfl) ?_ (fun hHeld => ?_)
  · exact pKp
  refine Gw.tk 0 rfl ?_
  (try simp only [pLy])
  refine Gw.one (i := 1) rfl (by kernel_rfl) (fun K hK => ?_)
  go_simp
  (go_at_call 12; refine (r22_MayBody a _ (by assumption)).mono ?_; rintro e u1 ⟨rfl, ho⟩; have hzu1 := Below.size ho; (try simp at hzu1); have HB2 : Hid (Below w.heap.size w u1) := Lib.hid (Below.trans (by exact pBl) (Below.mono ho pSd)); (try clear HB); have HB := HB2; clear HB2; have B2 := blk_below (g := w.heap.size) ho pSd; (try simp (disch := first | omega | (simp; done) | (simp; omega)) only [pBk] at B2); (try rw [Hid.out B_a] at B2); (try simp only [pBk] at B2); (try clear c_a f_a r_a B_a); obtain ⟨c_a, f_a, l_u1_a, r_a, B_a⟩ := blk_all B2; clear B2; have B2 := blk_below (g := w.heap.size + 1) ho pSd; (try simp (disch := first | omega | (simp; done) | (simp; omega)) only [pBk] at B2); (try rw [Hid.out B_b] at B2); (try simp only [pBk] at B2); (try clear c_b f_b r_b B_b); obtain ⟨c_b, f_b, l_u1_b, r_b, B_b⟩ := blk_all B2; clear B2; have B2 := blk_below (g := w.heap.size + 1 + 1) ho pSd; (try simp (disch := first | omega | (simp; done) | (simp; omega)) only [pBk] at B2); (try rw [Hid.out B_k] at B2); (try simp only [pBk] at B2); (try clear c_k f_k r_k B_k); obtain ⟨c_k, f_k, l_u1_k, r_k, B_k⟩ := blk_all B2; clear B2; clear ho)
  (try go_wp2_with fail)
  refine hK.out _ _ ?_ (fun hHeld => ?_)
  · exact pKp
  clear hK K
  (try simp only [pLy])
  refine Gw.tk 2 rfl ?_
  (try simp only [pLy])
  refine Gw.tk 3 rfl ?_
  (try simp only [pLy])
  refine Gw.tk 4 rfl ?_
  (try simp only [pLy])
  refine Gw.one (i := 5) rfl (by kernel_rfl) (fun K hK => ?_)
  go_simp
  (go_at_call 12; refine (r22_MayBody b _ (by assumption)).mono ?_; rintro e u2 ⟨rfl, ho⟩; have hzu2 := Below.size ho; (try simp at hzu2); have HB2 : Hid (Below w.heap.size w u2) := Lib.hid (Below.trans (by exact pBl) (Below.mono ho pSd)); (try clear HB); have HB := HB2; clear HB2; have B2 := blk_below (g := w.heap.size) ho pSd; (try simp (disch := first | omega | (simp; done) | (simp; omega)) only [pBk] at B2); (try rw [Hid.out B_a] at B2); (try simp only [pBk] at B2); (try clear c_a f_a r_a B_a); obtain ⟨c_a, f_a, l_u2_a, r_a, B_a⟩ := blk_all B2; clear B2; have B2 := blk_below (g := w.heap.size + 1) ho pSd; (try simp (disch := first | omega | (simp; done) | (simp; omega)) only [pBk] at B2); (try rw [Hid.out B_b] at B2); (try simp only [pBk] at B2); (try clear c_b f_b r_b B_b); obtain ⟨c_b, f_b, l_u2_b, r_b, B_b⟩ := blk_all B2; clear B2; have B2 := blk_below (g := w.heap.size + 1 + 1) ho pSd; (try simp (disch := first | omega | (simp; done) | (simp; omega)) only [pBk] at B2); (try rw [Hid.out B_k] at B2); (try simp only [pBk] at B2); (try clear c_k f_k r_k B_k); obtain ⟨c_k, f_k, l_u2_k, r_k, B_k⟩ := blk_all B2; clear B2; clear ho)
  (try go_wp2_with fail)
  refine hK.out _ _ ?_ (fun hHeld => ?_)
  · exact pKp
  clear hK K
  (try simp only [pLy])
  refine Gw.tk 6 rfl ?_
  (try simp only [pLy])
  refine Gw.tk 7 rfl ?_
  (try simp only [pLy])
  refine Gw.tk 8 rfl ?_
  (try simp only [pLy])
  refine Gw.tk 9 rfl ?_
  (try simp only [pLy])
  refine Gw.one (i := 10) rfl (by kernel_rfl) (fun K hK => ?_)
  go_simp
  (go_at_call 13; refine (r1_May _ _ _ (by exact W64_lo _) (by assumption)).mono ?_; rintro e u3 ⟨rfl, ho⟩; have hzu3 := Below.size ho; (try simp at hzu3); have HB2 : Hid (Below w.heap.size w u3) := Lib.hid (Below.trans (by exact pBl) (Below.mono ho pSd)); (try clear HB); have HB := HB2; clear HB2; have B2 := blk_below (g := w.heap.size) ho pSd; (try simp (disch := first | omega | (simp; done) | (simp; omega)) only [pBk] at B2); (try rw [Hid.out B_a] at B2); (try simp only [pBk] at B2); (try clear c_a f_a r_a B_a); obtain ⟨c_a, f_a, l_u3_a, r_a, B_a⟩ := blk_all B2; clear B2; have B2 := blk_below (g := w.heap.size + 1) ho pSd; (try simp (disch := first | omega | (simp; done) | (simp; omega)) only [pBk] at B2); (try rw [Hid.out B_b] at B2); (try simp only [pBk] at B2); (try clear c_b f_b r_b B_b); obtain ⟨c_b, f_b, l_u3_b, r_b, B_b⟩ := blk_all B2; clear B2; have B2 := blk_below (g := w.heap.size + 1 + 1) ho pSd; (try simp (disch := first | omega | (simp; done) | (simp; omega)) only [pBk] at B2); (try rw [Hid.out B_k] at B2); (try simp only [pBk] at B2); (try clear c_k f_k r_k B_k); obtain ⟨c_k, f_k, l_u3_k, r_k, B_k⟩ := blk_all B2; clear B2; clear ho)
  (try go_wp2_with fail)
  refine hK.out _ _ ?_ (fun hHeld => ?_)
  · exact pKp
  clear hK K
  (try simp only [pLy])
  refine Gw.tk 11 rfl ?_
  (try simp only [pLy])
  refine Gw.tk 12 rfl ?_
  (try simp only [pLy])
  refine Gw.tk 13 rfl ?_
  (try simp only [pLy])
  refine Gw.ts 14 rfl ?_
  (try simp only [pLy])
  refine Gw.ts 15 rfl ?_
  (try simp only [pLy])
  refine Gw.one (i := 16) rfl (by kernel_rfl) (fun K hK => ?_)
  go_simp
  refine hK.out _ _ ?_ (fun hHeld => ?_)
  · exact pKp
  clear hK K
  (try simp only [pLy])
  refine Gw.ts 17 rfl ?_
  (try simp only [pLy])
  refine Gw.tk 18 rfl ?_
  (try simp only [pLy])
  refine Gw.tk 19 rfl ?_
  (try simp only [pLy])
  refine Gw.ts 20 rfl ?_
  (try simp only [pLy])
  refine Gw.one (i := 21) rfl (by kernel_rfl) (fun K hK => ?_)
  go_simp
  refine hK.out _ _ ?_ (fun hHeld => ?_)
  · exact pKp
  clear hK K
  (try simp only [pLy])
  refine Gw.one (i := 22) rfl (by kernel_rfl) (fun K hK => ?_)
  go_simp
  refine hK.out _ _ ?_ (fun hHeld => ?_)
  · exact pKp
  clear hK K
  (try simp only [pLy])
  refine Gw.ts 23 rfl ?_
  (try simp only [pLy])
  refine Gw.last (i := 24) rfl (by kernel_rfl) (by decide) (fun K hK => ?_)
  go_simp
  refine hK.out _ _ ?_
  clear hK K
  (try simp only [pLy])
  refine Gw.done (by kernel_rfl) ?_ _
  go_wp2_with (go_at_call 16; refine (l17_awake _).mono ?_; rintro e u9 ⟨rfl, ho⟩; have hzu9 := Below.size ho; (try simp at hzu9); have HB2 : Hid (Below w.heap.size w u9) := Lib.hid (Below.trans (by exact pBl) (Below.mono ho pSd)); (try clear HB); have HB := HB2; clear HB2; have B2 := blk_below (g := w.heap.size) ho pSd; (try simp (disch := first | omega | (simp; done) | (simp; omega)) only [pBk] at B2); (try rw [Hid.out B_a] at B2); (try simp only [pBk] at B2); (try clear c_a f_a r_a B_a); obtain ⟨c_a, f_a, l_u9_a, r_a, B_a⟩ := blk_all B2; clear B2; have B2 := blk_below (g := w.heap.size + 1) ho pSd; (try simp (disch := first | omega | (simp; done) | (simp; omega)) only [pBk] at B2); (try rw [Hid.out B_b] at B2); (try simp only [pBk] at B2); (try clear c_b f_b r_b B_b); obtain ⟨c_b, f_b, l_u9_b, r_b, B_b⟩ := blk_all B2; clear B2; have B2 := blk_below (g := w.heap.size + 1 + 1) ho pSd; (try simp (disch := first | omega | (simp; done) | (simp; omega)) only [pBk] at B2); (try rw [Hid.out B_k] at B2); (try simp only [pBk] at B2); (try clear c_k f_k r_k B_k); obtain ⟨c_k, f_k, l_u9_k, r_k, B_k⟩ := blk_all B2; clear B2; clear ho)
  all_goals refine bodyPost_ret ?r rfl ⟨rfl, ?b⟩
  case r => simp (maxDischargeDepth := 9) [results, Try.results3, go_sem, *]
  case b => exact pBl

set_option maxRecDepth 100000 in
set_option maxHeartbeats 16000000 in
theorem all_f3 (a b : BodyI) (k : Int) (w : World) (wa : Wide a) (wb : Wide b) (ik : I64 (hi k)) (h0 : mayB a = true) (h1 : mayB b = true) (h2 : decide (R k) = true) (h3 : decide (k < 0) = true) :
    Calls Try.prog 3 #[.agg #[.int .i64 (hi a.mass), .int .u64 (lo a.mass), .int .i64 (hi a.radius), .int .u64 (lo a.radius), .int .i64 (hi a.x), .int .u64 (lo a.x), .int .i64 (hi a.y), .int .u64 (lo a.y), .int .i64 (hi a.px), .int .u64 (lo a.px), .int .i64 (hi a.py), .int .u64 (lo a.py), .int .i64 (hi a.fuel), .int .u64 (lo a.fuel), .int .i64 (hi a.rate), .int .u64 (lo a.rate), .int .i64 (hi a.exh), .int .u64 (lo a.exh), .int .i64 a.thr, .int .i64 a.head], .agg #[.int .i64 (hi b.mass), .int .u64 (lo b.mass), .int .i64 (hi b.radius), .int .u64 (lo b.radius), .int .i64 (hi b.x), .int .u64 (lo b.x), .int .i64 (hi b.y), .int .u64 (lo b.y), .int .i64 (hi b.px), .int .u64 (lo b.px), .int .i64 (hi b.py), .int .u64 (lo b.py), .int .i64 (hi b.fuel), .int .u64 (lo b.fuel), .int .i64 (hi b.rate), .int .u64 (lo b.rate), .int .i64 (hi b.exh), .int .u64 (lo b.exh), .int .i64 b.thr, .int .i64 b.head], .agg #[.int .i64 (hi k), .int .u64 (lo k)]] w fun e w' => e = .returned (.bool true) ∧ Below w.heap.size w w' := by
  go_enter Try.func3, Try.ntmps3
  go_wp2_with fail
  refine wp_region_G (fun w' => rowAt w' (w.heap.size) = #[.int .i64 (hi a.mass), .int .u64 (lo a.mass), .int .i64 (hi a.radius), .int .u64 (lo a.radius), .int .i64 (hi a.x), .int .u64 (lo a.x), .int .i64 (hi a.y), .int .u64 (lo a.y), .int .i64 (hi a.px), .int .u64 (lo a.px), .int .i64 (hi a.py), .int .u64 (lo a.py), .int .i64 (hi a.fuel), .int .u64 (lo a.fuel), .int .i64 (hi a.rate), .int .u64 (lo a.rate), .int .i64 (hi a.exh), .int .u64 (lo a.exh), .int .i64 a.thr, .int .i64 a.head] ∧ rowAt w' (w.heap.size + 1) = #[.int .i64 (hi b.mass), .int .u64 (lo b.mass), .int .i64 (hi b.radius), .int .u64 (lo b.radius), .int .i64 (hi b.x), .int .u64 (lo b.x), .int .i64 (hi b.y), .int .u64 (lo b.y), .int .i64 (hi b.px), .int .u64 (lo b.px), .int .i64 (hi b.py), .int .u64 (lo b.py), .int .i64 (hi b.fuel), .int .u64 (lo b.fuel), .int .i64 (hi b.rate), .int .u64 (lo b.rate), .int .i64 (hi b.exh), .int .u64 (lo b.exh), .int .i64 b.thr, .int .i64 b.head] ∧ w'.cell? ⟨w.heap.size + 1 + 1, 0, none⟩ = some (.int .i64 (hi k)) ∧ w'.cell? ⟨w.heap.size + 1 + 1, 1, none⟩ = some (.int .u64 (lo k))) 24 (by kernel_rfl) ?_ (fun hHeld => ?_)
  · exact pKp
  refine Gw.tk 0 rfl ?_
  (try simp only [pLy])
  refine Gw.one (i := 1) rfl (by kernel_rfl) (fun K hK => ?_)
  go_simp
  (go_at_call 12; refine (r22_MayBody a _ (by assumption)).mono ?_; rintro e u1 ⟨rfl, ho⟩; have hzu1 := Below.size ho; (try simp at hzu1); have HB2 : Hid (Below w.heap.size w u1) := Lib.hid (Below.trans (by exact pBl) (Below.mono ho pSd)); (try clear HB); have HB := HB2; clear HB2; have B2 := blk_below (g := w.heap.size) ho pSd; (try simp (disch := first | omega | (simp; done) | (simp; omega)) only [pBk] at B2); (try rw [Hid.out B_a] at B2); (try simp only [pBk] at B2); (try clear c_a f_a r_a B_a); obtain ⟨c_a, f_a, l_u1_a, r_a, B_a⟩ := blk_all B2; clear B2; have B2 := blk_below (g := w.heap.size + 1) ho pSd; (try simp (disch := first | omega | (simp; done) | (simp; omega)) only [pBk] at B2); (try rw [Hid.out B_b] at B2); (try simp only [pBk] at B2); (try clear c_b f_b r_b B_b); obtain ⟨c_b, f_b, l_u1_b, r_b, B_b⟩ := blk_all B2; clear B2; have B2 := blk_below (g := w.heap.size + 1 + 1) ho pSd; (try simp (disch := first | omega | (simp; done) | (simp; omega)) only [pBk] at B2); (try rw [Hid.out B_k] at B2); (try simp only [pBk] at B2); (try clear c_k f_k r_k B_k); obtain ⟨c_k, f_k, l_u1_k, r_k, B_k⟩ := blk_all B2; clear B2; clear ho)
  (try go_wp2_with fail)
  refine hK.out _ _ ?_ (fun hHeld => ?_)
  · exact pKp
  clear hK K
  (try simp only [pLy])
  refine Gw.tk 2 rfl ?_
  (try simp only [pLy])
  refine Gw.tk 3 rfl ?_
  (try simp only [pLy])
  refine Gw.tk 4 rfl ?_
  (try simp only [pLy])
  refine Gw.one (i := 5) rfl (by kernel_rfl) (fun K hK => ?_)
  go_simp
  (go_at_call 12; refine (r22_MayBody b _ (by assumption)).mono ?_; rintro e u2 ⟨rfl, ho⟩; have hzu2 := Below.size ho; (try simp at hzu2); have HB2 : Hid (Below w.heap.size w u2) := Lib.hid (Below.trans (by exact pBl) (Below.mono ho pSd)); (try clear HB); have HB := HB2; clear HB2; have B2 := blk_below (g := w.heap.size) ho pSd; (try simp (disch := first | omega | (simp; done) | (simp; omega)) only [pBk] at B2); (try rw [Hid.out B_a] at B2); (try simp only [pBk] at B2); (try clear c_a f_a r_a B_a); obtain ⟨c_a, f_a, l_u2_a, r_a, B_a⟩ := blk_all B2; clear B2; have B2 := blk_below (g := w.heap.size + 1) ho pSd; (try simp (disch := first | omega | (simp; done) | (simp; omega)) only [pBk] at B2); (try rw [Hid.out B_b] at B2); (try simp only [pBk] at B2); (try clear c_b f_b r_b B_b); obtain ⟨c_b, f_b, l_u2_b, r_b, B_b⟩ := blk_all B2; clear B2; have B2 := blk_below (g := w.heap.size + 1 + 1) ho pSd; (try simp (disch := first | omega | (simp; done) | (simp; omega)) only [pBk] at B2); (try rw [Hid.out B_k] at B2); (try simp only [pBk] at B2); (try clear c_k f_k r_k B_k); obtain ⟨c_k, f_k, l_u2_k, r_k, B_k⟩ := blk_all B2; clear B2; clear ho)
  (try go_wp2_with fail)
  refine hK.out _ _ ?_ (fun hHeld => ?_)
  · exact pKp
  clear hK K
  (try simp only [pLy])
  refine Gw.tk 6 rfl ?_
  (try simp only [pLy])
  refine Gw.tk 7 rfl ?_
  (try simp only [pLy])
  refine Gw.tk 8 rfl ?_
  (try simp only [pLy])
  refine Gw.tk 9 rfl ?_
  (try simp only [pLy])
  refine Gw.one (i := 10) rfl (by kernel_rfl) (fun K hK => ?_)
  go_simp
  (go_at_call 13; refine (r1_May _ _ _ (by exact W64_lo _) (by assumption)).mono ?_; rintro e u3 ⟨rfl, ho⟩; have hzu3 := Below.size ho; (try simp at hzu3); have HB2 : Hid (Below w.heap.size w u3) := Lib.hid (Below.trans (by exact pBl) (Below.mono ho pSd)); (try clear HB); have HB := HB2; clear HB2; have B2 := blk_below (g := w.heap.size) ho pSd; (try simp (disch := first | omega | (simp; done) | (simp; omega)) only [pBk] at B2); (try rw [Hid.out B_a] at B2); (try simp only [pBk] at B2); (try clear c_a f_a r_a B_a); obtain ⟨c_a, f_a, l_u3_a, r_a, B_a⟩ := blk_all B2; clear B2; have B2 := blk_below (g := w.heap.size + 1) ho pSd; (try simp (disch := first | omega | (simp; done) | (simp; omega)) only [pBk] at B2); (try rw [Hid.out B_b] at B2); (try simp only [pBk] at B2); (try clear c_b f_b r_b B_b); obtain ⟨c_b, f_b, l_u3_b, r_b, B_b⟩ := blk_all B2; clear B2; have B2 := blk_below (g := w.heap.size + 1 + 1) ho pSd; (try simp (disch := first | omega | (simp; done) | (simp; omega)) only [pBk] at B2); (try rw [Hid.out B_k] at B2); (try simp only [pBk] at B2); (try clear c_k f_k r_k B_k); obtain ⟨c_k, f_k, l_u3_k, r_k, B_k⟩ := blk_all B2; clear B2; clear ho)
  (try go_wp2_with fail)
  refine hK.out _ _ ?_ (fun hHeld => ?_)
  · exact pKp
  clear hK K
  (try simp only [pLy])
  refine Gw.tk 11 rfl ?_
  (try simp only [pLy])
  refine Gw.tk 12 rfl ?_
  (try simp only [pLy])
  refine Gw.tk 13 rfl ?_
  (try simp only [pLy])
  refine Gw.tk 14 rfl ?_
  (try simp only [pLy])
  refine Gw.tk 15 rfl ?_
  (try simp only [pLy])
  refine Gw.one (i := 16) rfl (by kernel_rfl) (fun K hK => ?_)
  go_simp
  (go_at_call 14; refine (r1_Cmp _ _ _ _ _ (by exact W64_lo _) (by exact W64_0)).mono ?_; rintro e u4 ⟨rfl, ho⟩; have hzu4 := Below.size ho; (try simp at hzu4); have HB2 : Hid (Below w.heap.size w u4) := Lib.hid (Below.trans (by exact pBl) (Below.mono ho pSd)); (try clear HB); have HB := HB2; clear HB2; have B2 := blk_below (g := w.heap.size) ho pSd; (try simp (disch := first | omega | (simp; done) | (simp; omega)) only [pBk] at B2); (try rw [Hid.out B_a] at B2); (try simp only [pBk] at B2); (try clear c_a f_a r_a B_a); obtain ⟨c_a, f_a, l_u4_a, r_a, B_a⟩ := blk_all B2; clear B2; have B2 := blk_below (g := w.heap.size + 1) ho pSd; (try simp (disch := first | omega | (simp; done) | (simp; omega)) only [pBk] at B2); (try rw [Hid.out B_b] at B2); (try simp only [pBk] at B2); (try clear c_b f_b r_b B_b); obtain ⟨c_b, f_b, l_u4_b, r_b, B_b⟩ := blk_all B2; clear B2; have B2 := blk_below (g := w.heap.size + 1 + 1) ho pSd; (try simp (disch := first | omega | (simp; done) | (simp; omega)) only [pBk] at B2); (try rw [Hid.out B_k] at B2); (try simp only [pBk] at B2); (try clear c_k f_k r_k B_k); obtain ⟨c_k, f_k, l_u4_k, r_k, B_k⟩ := blk_all B2; clear B2; clear ho)
  (try go_wp2_with fail)
  refine hK.out _ _ ?_ (fun hHeld => ?_)
  · exact pKp
  clear hK K
  (try simp only [pLy])
  refine Gw.tk 17 rfl ?_
  (try simp only [pLy])
  refine Gw.tk 18 rfl ?_
  (try simp only [pLy])
  refine Gw.tk 19 rfl ?_
  (try simp only [pLy])
  refine Gw.ts 20 rfl ?_
  (try simp only [pLy])
  refine Gw.one (i := 21) rfl (by kernel_rfl) (fun K hK => ?_)
  go_simp
  refine hK.out _ _ ?_ (fun hHeld => ?_)
  · exact pKp
  clear hK K
  (try simp only [pLy])
  refine Gw.one (i := 22) rfl (by kernel_rfl) (fun K hK => ?_)
  go_simp
  refine hK.out _ _ ?_ (fun hHeld => ?_)
  · exact pKp
  clear hK K
  (try simp only [pLy])
  refine Gw.ts 23 rfl ?_
  (try simp only [pLy])
  refine Gw.last (i := 24) rfl (by kernel_rfl) (by decide) (fun K hK => ?_)
  go_simp
  refine hK.out _ _ ?_
  clear hK K
  (try simp only [pLy])
  refine Gw.done (by kernel_rfl) ?_ _
  go_wp2_with (go_at_call 16; refine (l17_awake _).mono ?_; rintro e u9 ⟨rfl, ho⟩; have hzu9 := Below.size ho; (try simp at hzu9); have HB2 : Hid (Below w.heap.size w u9) := Lib.hid (Below.trans (by exact pBl) (Below.mono ho pSd)); (try clear HB); have HB := HB2; clear HB2; have B2 := blk_below (g := w.heap.size) ho pSd; (try simp (disch := first | omega | (simp; done) | (simp; omega)) only [pBk] at B2); (try rw [Hid.out B_a] at B2); (try simp only [pBk] at B2); (try clear c_a f_a r_a B_a); obtain ⟨c_a, f_a, l_u9_a, r_a, B_a⟩ := blk_all B2; clear B2; have B2 := blk_below (g := w.heap.size + 1) ho pSd; (try simp (disch := first | omega | (simp; done) | (simp; omega)) only [pBk] at B2); (try rw [Hid.out B_b] at B2); (try simp only [pBk] at B2); (try clear c_b f_b r_b B_b); obtain ⟨c_b, f_b, l_u9_b, r_b, B_b⟩ := blk_all B2; clear B2; have B2 := blk_below (g := w.heap.size + 1 + 1) ho pSd; (try simp (disch := first | omega | (simp; done) | (simp; omega)) only [pBk] at B2); (try rw [Hid.out B_k] at B2); (try simp only [pBk] at B2); (try clear c_k f_k r_k B_k); obtain ⟨c_k, f_k, l_u9_k, r_k, B_k⟩ := blk_all B2; clear B2; clear ho)
  all_goals refine bodyPost_ret ?r rfl ⟨rfl, ?b⟩
  case r => simp (maxDischargeDepth := 9) [results, Try.results3, go_sem, *]
  case b => exact pBl

set_option maxRecDepth 100000 in
set_option maxHeartbeats 16000000 in
theorem all_f4 (a b : BodyI) (k : Int) (w : World) (wa : Wide a) (wb : Wide b) (ik : I64 (hi k)) (h0 : mayB a = true) (h1 : mayB b = true) (h2 : decide (R k) = true) (h3 : decide (k < 0) = false) (h4 : decide (one < k) = true) :
    Calls Try.prog 3 #[.agg #[.int .i64 (hi a.mass), .int .u64 (lo a.mass), .int .i64 (hi a.radius), .int .u64 (lo a.radius), .int .i64 (hi a.x), .int .u64 (lo a.x), .int .i64 (hi a.y), .int .u64 (lo a.y), .int .i64 (hi a.px), .int .u64 (lo a.px), .int .i64 (hi a.py), .int .u64 (lo a.py), .int .i64 (hi a.fuel), .int .u64 (lo a.fuel), .int .i64 (hi a.rate), .int .u64 (lo a.rate), .int .i64 (hi a.exh), .int .u64 (lo a.exh), .int .i64 a.thr, .int .i64 a.head], .agg #[.int .i64 (hi b.mass), .int .u64 (lo b.mass), .int .i64 (hi b.radius), .int .u64 (lo b.radius), .int .i64 (hi b.x), .int .u64 (lo b.x), .int .i64 (hi b.y), .int .u64 (lo b.y), .int .i64 (hi b.px), .int .u64 (lo b.px), .int .i64 (hi b.py), .int .u64 (lo b.py), .int .i64 (hi b.fuel), .int .u64 (lo b.fuel), .int .i64 (hi b.rate), .int .u64 (lo b.rate), .int .i64 (hi b.exh), .int .u64 (lo b.exh), .int .i64 b.thr, .int .i64 b.head], .agg #[.int .i64 (hi k), .int .u64 (lo k)]] w fun e w' => e = .returned (.bool true) ∧ Below w.heap.size w w' := by
  go_enter Try.func3, Try.ntmps3
  go_wp2_with fail
  refine wp_region_G (fun w' => rowAt w' (w.heap.size) = #[.int .i64 (hi a.mass), .int .u64 (lo a.mass), .int .i64 (hi a.radius), .int .u64 (lo a.radius), .int .i64 (hi a.x), .int .u64 (lo a.x), .int .i64 (hi a.y), .int .u64 (lo a.y), .int .i64 (hi a.px), .int .u64 (lo a.px), .int .i64 (hi a.py), .int .u64 (lo a.py), .int .i64 (hi a.fuel), .int .u64 (lo a.fuel), .int .i64 (hi a.rate), .int .u64 (lo a.rate), .int .i64 (hi a.exh), .int .u64 (lo a.exh), .int .i64 a.thr, .int .i64 a.head] ∧ rowAt w' (w.heap.size + 1) = #[.int .i64 (hi b.mass), .int .u64 (lo b.mass), .int .i64 (hi b.radius), .int .u64 (lo b.radius), .int .i64 (hi b.x), .int .u64 (lo b.x), .int .i64 (hi b.y), .int .u64 (lo b.y), .int .i64 (hi b.px), .int .u64 (lo b.px), .int .i64 (hi b.py), .int .u64 (lo b.py), .int .i64 (hi b.fuel), .int .u64 (lo b.fuel), .int .i64 (hi b.rate), .int .u64 (lo b.rate), .int .i64 (hi b.exh), .int .u64 (lo b.exh), .int .i64 b.thr, .int .i64 b.head] ∧ w'.cell? ⟨w.heap.size + 1 + 1, 0, none⟩ = some (.int .i64 (hi k)) ∧ w'.cell? ⟨w.heap.size + 1 + 1, 1, none⟩ = some (.int .u64 (lo k))) 24 (by kernel_rfl) ?_ (fun hHeld => ?_)
  · exact pKp
  refine Gw.tk 0 rfl ?_
  (try simp only [pLy])
  refine Gw.one (i := 1) rfl (by kernel_rfl) (fun K hK => ?_)
  go_simp
  (go_at_call 12; refine (r22_MayBody a _ (by assumption)).mono ?_; rintro e u1 ⟨rfl, ho⟩; have hzu1 := Below.size ho; (try simp at hzu1); have HB2 : Hid (Below w.heap.size w u1) := Lib.hid (Below.trans (by exact pBl) (Below.mono ho pSd)); (try clear HB); have HB := HB2; clear HB2; have B2 := blk_below (g := w.heap.size) ho pSd; (try simp (disch := first | omega | (simp; done) | (simp; omega)) only [pBk] at B2); (try rw [Hid.out B_a] at B2); (try simp only [pBk] at B2); (try clear c_a f_a r_a B_a); obtain ⟨c_a, f_a, l_u1_a, r_a, B_a⟩ := blk_all B2; clear B2; have B2 := blk_below (g := w.heap.size + 1) ho pSd; (try simp (disch := first | omega | (simp; done) | (simp; omega)) only [pBk] at B2); (try rw [Hid.out B_b] at B2); (try simp only [pBk] at B2); (try clear c_b f_b r_b B_b); obtain ⟨c_b, f_b, l_u1_b, r_b, B_b⟩ := blk_all B2; clear B2; have B2 := blk_below (g := w.heap.size + 1 + 1) ho pSd; (try simp (disch := first | omega | (simp; done) | (simp; omega)) only [pBk] at B2); (try rw [Hid.out B_k] at B2); (try simp only [pBk] at B2); (try clear c_k f_k r_k B_k); obtain ⟨c_k, f_k, l_u1_k, r_k, B_k⟩ := blk_all B2; clear B2; clear ho)
  (try go_wp2_with fail)
  refine hK.out _ _ ?_ (fun hHeld => ?_)
  · exact pKp
  clear hK K
  (try simp only [pLy])
  refine Gw.tk 2 rfl ?_
  (try simp only [pLy])
  refine Gw.tk 3 rfl ?_
  (try simp only [pLy])
  refine Gw.tk 4 rfl ?_
  (try simp only [pLy])
  refine Gw.one (i := 5) rfl (by kernel_rfl) (fun K hK => ?_)
  go_simp
  (go_at_call 12; refine (r22_MayBody b _ (by assumption)).mono ?_; rintro e u2 ⟨rfl, ho⟩; have hzu2 := Below.size ho; (try simp at hzu2); have HB2 : Hid (Below w.heap.size w u2) := Lib.hid (Below.trans (by exact pBl) (Below.mono ho pSd)); (try clear HB); have HB := HB2; clear HB2; have B2 := blk_below (g := w.heap.size) ho pSd; (try simp (disch := first | omega | (simp; done) | (simp; omega)) only [pBk] at B2); (try rw [Hid.out B_a] at B2); (try simp only [pBk] at B2); (try clear c_a f_a r_a B_a); obtain ⟨c_a, f_a, l_u2_a, r_a, B_a⟩ := blk_all B2; clear B2; have B2 := blk_below (g := w.heap.size + 1) ho pSd; (try simp (disch := first | omega | (simp; done) | (simp; omega)) only [pBk] at B2); (try rw [Hid.out B_b] at B2); (try simp only [pBk] at B2); (try clear c_b f_b r_b B_b); obtain ⟨c_b, f_b, l_u2_b, r_b, B_b⟩ := blk_all B2; clear B2; have B2 := blk_below (g := w.heap.size + 1 + 1) ho pSd; (try simp (disch := first | omega | (simp; done) | (simp; omega)) only [pBk] at B2); (try rw [Hid.out B_k] at B2); (try simp only [pBk] at B2); (try clear c_k f_k r_k B_k); obtain ⟨c_k, f_k, l_u2_k, r_k, B_k⟩ := blk_all B2; clear B2; clear ho)
  (try go_wp2_with fail)
  refine hK.out _ _ ?_ (fun hHeld => ?_)
  · exact pKp
  clear hK K
  (try simp only [pLy])
  refine Gw.tk 6 rfl ?_
  (try simp only [pLy])
  refine Gw.tk 7 rfl ?_
  (try simp only [pLy])
  refine Gw.tk 8 rfl ?_
  (try simp only [pLy])
  refine Gw.tk 9 rfl ?_
  (try simp only [pLy])
  refine Gw.one (i := 10) rfl (by kernel_rfl) (fun K hK => ?_)
  go_simp
  (go_at_call 13; refine (r1_May _ _ _ (by exact W64_lo _) (by assumption)).mono ?_; rintro e u3 ⟨rfl, ho⟩; have hzu3 := Below.size ho; (try simp at hzu3); have HB2 : Hid (Below w.heap.size w u3) := Lib.hid (Below.trans (by exact pBl) (Below.mono ho pSd)); (try clear HB); have HB := HB2; clear HB2; have B2 := blk_below (g := w.heap.size) ho pSd; (try simp (disch := first | omega | (simp; done) | (simp; omega)) only [pBk] at B2); (try rw [Hid.out B_a] at B2); (try simp only [pBk] at B2); (try clear c_a f_a r_a B_a); obtain ⟨c_a, f_a, l_u3_a, r_a, B_a⟩ := blk_all B2; clear B2; have B2 := blk_below (g := w.heap.size + 1) ho pSd; (try simp (disch := first | omega | (simp; done) | (simp; omega)) only [pBk] at B2); (try rw [Hid.out B_b] at B2); (try simp only [pBk] at B2); (try clear c_b f_b r_b B_b); obtain ⟨c_b, f_b, l_u3_b, r_b, B_b⟩ := blk_all B2; clear B2; have B2 := blk_below (g := w.heap.size + 1 + 1) ho pSd; (try simp (disch := first | omega | (simp; done) | (simp; omega)) only [pBk] at B2); (try rw [Hid.out B_k] at B2); (try simp only [pBk] at B2); (try clear c_k f_k r_k B_k); obtain ⟨c_k, f_k, l_u3_k, r_k, B_k⟩ := blk_all B2; clear B2; clear ho)
  (try go_wp2_with fail)
  refine hK.out _ _ ?_ (fun hHeld => ?_)
  · exact pKp
  clear hK K
  (try simp only [pLy])
  refine Gw.tk 11 rfl ?_
  (try simp only [pLy])
  refine Gw.tk 12 rfl ?_
  (try simp only [pLy])
  refine Gw.tk 13 rfl ?_
  (try simp only [pLy])
  refine Gw.tk 14 rfl ?_
  (try simp only [pLy])
  refine Gw.tk 15 rfl ?_
  (try simp only [pLy])
  refine Gw.one (i := 16) rfl (by kernel_rfl) (fun K hK => ?_)
  go_simp
  (go_at_call 14; refine (r1_Cmp _ _ _ _ _ (by exact W64_lo _) (by exact W64_0)).mono ?_; rintro e u4 ⟨rfl, ho⟩; have hzu4 := Below.size ho; (try simp at hzu4); have HB2 : Hid (Below w.heap.size w u4) := Lib.hid (Below.trans (by exact pBl) (Below.mono ho pSd)); (try clear HB); have HB := HB2; clear HB2; have B2 := blk_below (g := w.heap.size) ho pSd; (try simp (disch := first | omega | (simp; done) | (simp; omega)) only [pBk] at B2); (try rw [Hid.out B_a] at B2); (try simp only [pBk] at B2); (try clear c_a f_a r_a B_a); obtain ⟨c_a, f_a, l_u4_a, r_a, B_a⟩ := blk_all B2; clear B2; have B2 := blk_below (g := w.heap.size + 1) ho pSd; (try simp (disch := first | omega | (simp; done) | (simp; omega)) only [pBk] at B2); (try rw [Hid.out B_b] at B2); (try simp only [pBk] at B2); (try clear c_b f_b r_b B_b); obtain ⟨c_b, f_b, l_u4_b, r_b, B_b⟩ := blk_all B2; clear B2; have B2 := blk_below (g := w.heap.size + 1 + 1) ho pSd; (try simp (disch := first | omega | (simp; done) | (simp; omega)) only [pBk] at B2); (try rw [Hid.out B_k] at B2); (try simp only [pBk] at B2); (try clear c_k f_k r_k B_k); obtain ⟨c_k, f_k, l_u4_k, r_k, B_k⟩ := blk_all B2; clear B2; clear ho)
  (try go_wp2_with fail)
  refine hK.out _ _ ?_ (fun hHeld => ?_)
  · exact pKp
  clear hK K
  (try simp only [pLy])
  refine Gw.tk 17 rfl ?_
  (try simp only [pLy])
  refine Gw.tk 18 rfl ?_
  (try simp only [pLy])
  refine Gw.tk 19 rfl ?_
  (try simp only [pLy])
  refine Gw.tk 20 rfl ?_
  (try simp only [pLy])
  refine Gw.one (i := 21) rfl (by kernel_rfl) (fun K hK => ?_)
  go_simp
  (go_at_call 15; refine (r1_Int _ _ (by decide)).mono ?_; rintro e u5 ⟨rfl, ho⟩; have hzu5 := Below.size ho; (try simp at hzu5); have HB2 : Hid (Below w.heap.size w u5) := Lib.hid (Below.trans (by exact pBl) (Below.mono ho pSd)); (try clear HB); have HB := HB2; clear HB2; have B2 := blk_below (g := w.heap.size) ho pSd; (try simp (disch := first | omega | (simp; done) | (simp; omega)) only [pBk] at B2); (try rw [Hid.out B_a] at B2); (try simp only [pBk] at B2); (try clear c_a f_a r_a B_a); obtain ⟨c_a, f_a, l_u5_a, r_a, B_a⟩ := blk_all B2; clear B2; have B2 := blk_below (g := w.heap.size + 1) ho pSd; (try simp (disch := first | omega | (simp; done) | (simp; omega)) only [pBk] at B2); (try rw [Hid.out B_b] at B2); (try simp only [pBk] at B2); (try clear c_b f_b r_b B_b); obtain ⟨c_b, f_b, l_u5_b, r_b, B_b⟩ := blk_all B2; clear B2; have B2 := blk_below (g := w.heap.size + 1 + 1) ho pSd; (try simp (disch := first | omega | (simp; done) | (simp; omega)) only [pBk] at B2); (try rw [Hid.out B_k] at B2); (try simp only [pBk] at B2); (try clear c_k f_k r_k B_k); obtain ⟨c_k, f_k, l_u5_k, r_k, B_k⟩ := blk_all B2; clear B2; clear ho)
  (try go_wp2_with fail)
  refine hK.out _ _ ?_ (fun hHeld => ?_)
  · exact pKp
  clear hK K
  (try simp only [pLy])
  refine Gw.one (i := 22) rfl (by kernel_rfl) (fun K hK => ?_)
  go_simp
  (go_at_call 14; refine (r1_Cmp _ _ _ _ _ (by exact W64_lo _) (by exact W64_0)).mono ?_; rintro e u6 ⟨rfl, ho⟩; have hzu6 := Below.size ho; (try simp at hzu6); have HB2 : Hid (Below w.heap.size w u6) := Lib.hid (Below.trans (by exact pBl) (Below.mono ho pSd)); (try clear HB); have HB := HB2; clear HB2; have B2 := blk_below (g := w.heap.size) ho pSd; (try simp (disch := first | omega | (simp; done) | (simp; omega)) only [pBk] at B2); (try rw [Hid.out B_a] at B2); (try simp only [pBk] at B2); (try clear c_a f_a r_a B_a); obtain ⟨c_a, f_a, l_u6_a, r_a, B_a⟩ := blk_all B2; clear B2; have B2 := blk_below (g := w.heap.size + 1) ho pSd; (try simp (disch := first | omega | (simp; done) | (simp; omega)) only [pBk] at B2); (try rw [Hid.out B_b] at B2); (try simp only [pBk] at B2); (try clear c_b f_b r_b B_b); obtain ⟨c_b, f_b, l_u6_b, r_b, B_b⟩ := blk_all B2; clear B2; have B2 := blk_below (g := w.heap.size + 1 + 1) ho pSd; (try simp (disch := first | omega | (simp; done) | (simp; omega)) only [pBk] at B2); (try rw [Hid.out B_k] at B2); (try simp only [pBk] at B2); (try clear c_k f_k r_k B_k); obtain ⟨c_k, f_k, l_u6_k, r_k, B_k⟩ := blk_all B2; clear B2; clear ho)
  (try go_wp2_with fail)
  refine hK.out _ _ ?_ (fun hHeld => ?_)
  · exact pKp
  clear hK K
  (try simp only [pLy])
  refine Gw.tk 23 rfl ?_
  (try simp only [pLy])
  refine Gw.last (i := 24) rfl (by kernel_rfl) (by decide) (fun K hK => ?_)
  go_simp
  refine hK.out _ _ ?_
  clear hK K
  (try simp only [pLy])
  refine Gw.done (by kernel_rfl) ?_ _
  go_wp2_with (go_at_call 16; refine (l17_awake _).mono ?_; rintro e u9 ⟨rfl, ho⟩; have hzu9 := Below.size ho; (try simp at hzu9); have HB2 : Hid (Below w.heap.size w u9) := Lib.hid (Below.trans (by exact pBl) (Below.mono ho pSd)); (try clear HB); have HB := HB2; clear HB2; have B2 := blk_below (g := w.heap.size) ho pSd; (try simp (disch := first | omega | (simp; done) | (simp; omega)) only [pBk] at B2); (try rw [Hid.out B_a] at B2); (try simp only [pBk] at B2); (try clear c_a f_a r_a B_a); obtain ⟨c_a, f_a, l_u9_a, r_a, B_a⟩ := blk_all B2; clear B2; have B2 := blk_below (g := w.heap.size + 1) ho pSd; (try simp (disch := first | omega | (simp; done) | (simp; omega)) only [pBk] at B2); (try rw [Hid.out B_b] at B2); (try simp only [pBk] at B2); (try clear c_b f_b r_b B_b); obtain ⟨c_b, f_b, l_u9_b, r_b, B_b⟩ := blk_all B2; clear B2; have B2 := blk_below (g := w.heap.size + 1 + 1) ho pSd; (try simp (disch := first | omega | (simp; done) | (simp; omega)) only [pBk] at B2); (try rw [Hid.out B_k] at B2); (try simp only [pBk] at B2); (try clear c_k f_k r_k B_k); obtain ⟨c_k, f_k, l_u9_k, r_k, B_k⟩ := blk_all B2; clear B2; clear ho)
  all_goals refine bodyPost_ret ?r rfl ⟨rfl, ?b⟩
  case r => simp (maxDischargeDepth := 9) [results, Try.results3, go_sem, *]
  case b => exact pBl
end Go.Proofs.Ytdphhkbbphfjlaa
