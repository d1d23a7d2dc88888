/- The walk of the reference's MayBody. -/
import Derived.Test.YtdphhkbbphfjlaaRefL
import Derived.Test.YtdphhkbbphfjlaaRegG
set_option linter.unusedVariables false
set_option linter.unusedSimpArgs false
namespace Go.Proofs.Ytdphhkbbphfjlaa
open Go.RowKit
attribute [local go_sem] uwrap_lo lo_lo hi_lo val_hl val_00 v4_q
attribute [local go_sem ↓] Go.wp_at_zero Go.wp_at_succ
attribute [local go_sem] fld_sum0 fld_sum1
attribute [local go_sem] nOf_ok nOf_err eOf_ok eOf_err xOf_ok yOf_ok xOf_err yOf_err vecX_ok vecX_err vecX_ok_err hi_z lo_z okB_ok okB_err hitV_some hitV_none hitV_err hitB_some hitB_none hitB_err
attribute [local go_sem ↓] loadRow_body
attribute [local go_sem] rowAt_at rowAt_past rowAt_drew rowAt_far run_load_body row_0_0 row_0_1 row_0_2 row_0_3 row_0_4 row_0_5 row_1_0 row_1_1 row_1_2 row_1_3 row_1_4 row_2_0 row_2_1 row_2_2 row_2_3
attribute [local go_sem] cmpI_gt' cmpI_lt' cmpI_ge' cmpI_le'
/-- upper words are words -/
structure Wide (b : BodyI) : Prop where
  mass : I64 (hi b.mass)
  radius : I64 (hi b.radius)
  x : I64 (hi b.x)
  y : I64 (hi b.y)
  px : I64 (hi b.px)
  py : I64 (hi b.py)
  fuel : I64 (hi b.fuel)
  rate : I64 (hi b.rate)
  exh : I64 (hi b.exh)
def g0 (b : BodyI) : Bool := fromB b.mass 281474976710656 (val 1048576 0)
def g1 (b : BodyI) : Bool := fromB b.radius 0 (val 65536 0)
def g2 (b : BodyI) : Bool := fromB b.fuel 0 b.mass
def g3 (b : BodyI) : Bool := fromB b.rate 0 (val 65536 0)
def g4 (b : BodyI) : Bool := fromB b.exh 0 (val 65536 0)
def g5 (b : BodyI) : Bool := decide (R b.x) && decide (R b.y)
def g6 (b : BodyI) : Bool := decide (R b.px) && decide (R b.py)
def g7 (b : BodyI) : Bool := decide (281474976710656 ≤ nOf (subX b.mass b.fuel))
def g8 (b : BodyI) : Bool := !beyB b.x 1073741824 && !beyB b.y 1073741824
def ga (b : BodyI) : Bool := decide (0 ≤ b.thr) && decide (b.thr ≤ 100)
def gb (b : BodyI) : Bool := decide (0 ≤ b.head) && decide (b.head ≤ 65535)
/-- may a body be? -/
def mayB (b : BodyI) : Bool := g0 b && (g1 b && (g2 b && (g3 b && (g4 b && (g5 b && (g6 b && (g7 b && (g8 b && (slowB b && (ga b && gb b))))))))))
theorem val_048 : val 0 281474976710656 = 281474976710656 := by unfold val; omega
theorem W64_48 : W64 281474976710656 := by unfold W64; omega
theorem fld_gotP (a b c : Value) (w : World) : (Instr.field 50 (.agg #[a, b, c]) 0).run Try.prog w = .ok (.agg #[a, b]) w := by kernel_rfl
attribute [local go_sem] val_048 fld_gotP

set_option maxRecDepth 100000 in
set_option maxHeartbeats 16000000 in
theorem mayBody_f0 (b : BodyI) (w : World) (hw : Wide b) (h0 : g0 b = false) :
    Calls Try.prog 12 #[.agg #[.int .i64 (hi b.mass), .int .u64 (lo b.mass), .int .i64 (hi b.radius), .int .u64 (lo b.radius), .int .i64 (hi b.x), .int .u64 (lo b.x), .int .i64 (hi b.y), .int .u64 (lo b.y), .int .i64 (hi b.px), .int .u64 (lo b.px), .int .i64 (hi b.py), .int .u64 (lo b.py), .int .i64 (hi b.fuel), .int .u64 (lo b.fuel), .int .i64 (hi b.rate), .int .u64 (lo b.rate), .int .i64 (hi b.exh), .int .u64 (lo b.exh), .int .i64 b.thr, .int .i64 b.head]] w fun e w' => e = .returned (.bool false) ∧ Below w.heap.size w w' := by
  have i1 := hw.mass
  have i2 := hw.radius
  have i3 := hw.x
  have i4 := hw.y
  have i5 := hw.px
  have i6 := hw.py
  have i7 := hw.fuel
  have i8 := hw.rate
  have i9 := hw.exh
  clear hw
  unfold g0 at *
  go_enter Try.func12, Try.ntmps12
  go_wp2_with fail
  refine wp_region_G (fun w' => w'.cell? ⟨w.heap.size, 0, none⟩ = some (.int .i64 (hi b.mass)) ∧ w'.cell? ⟨w.heap.size, 1, none⟩ = some (.int .u64 (lo b.mass)) ∧ w'.cell? ⟨w.heap.size, 2, none⟩ = some (.int .i64 (hi b.radius)) ∧ w'.cell? ⟨w.heap.size, 3, none⟩ = some (.int .u64 (lo b.radius)) ∧ w'.cell? ⟨w.heap.size, 4, none⟩ = some (.int .i64 (hi b.x)) ∧ w'.cell? ⟨w.heap.size, 5, none⟩ = some (.int .u64 (lo b.x)) ∧ w'.cell? ⟨w.heap.size, 6, none⟩ = some (.int .i64 (hi b.y)) ∧ w'.cell? ⟨w.heap.size, 7, none⟩ = some (.int .u64 (lo b.y)) ∧ w'.cell? ⟨w.heap.size, 8, none⟩ = some (.int .i64 (hi b.px)) ∧ w'.cell? ⟨w.heap.size, 9, none⟩ = some (.int .u64 (lo b.px)) ∧ w'.cell? ⟨w.heap.size, 10, none⟩ = some (.int .i64 (hi b.py)) ∧ w'.cell? ⟨w.heap.size, 11, none⟩ = some (.int .u64 (lo b.py)) ∧ w'.cell? ⟨w.heap.size, 12, none⟩ = some (.int .i64 (hi b.fuel)) ∧ w'.cell? ⟨w.heap.size, 13, none⟩ = some (.int .u64 (lo b.fuel)) ∧ w'.cell? ⟨w.heap.size, 14, none⟩ = some (.int .i64 (hi b.rate)) ∧ w'.cell? ⟨w.heap.size, 15, none⟩ = some (.int .u64 (lo b.rate)) ∧ w'.cell? ⟨w.heap.size, 16, none⟩ = some (.int .i64 (hi b.exh)) ∧ w'.cell? ⟨w.heap.size, 17, none⟩ = some (.int .u64 (lo b.exh))) 44 (by kernel_rfl) ?_ (fun hHeld => ?_)
  · exact pKp
  refine Gw.tk 0 rfl ?_
  (try simp only [pLy])
  refine Gw.tk 1 rfl ?_
  (try simp only [pLy])
  refine Gw.tk 2 rfl ?_
  (try simp only [pLy])
  refine Gw.one (i := 3) rfl (by kernel_rfl) (fun K hK => ?_)
  go_simp
  (go_at_call 15; refine (r1_Int _ _ (by decide)).mono ?_; rintro e u1 ⟨rfl, ho⟩; have hzu1 := Below.size ho; (try simp at hzu1); have HB2 : Hid (Below w.heap.size w u1) := Lib.hid (Below.trans (by exact pBl) (Below.mono ho pSd)); (try clear HB); have HB := HB2; clear HB2; have B2 := blk_below (g := w.heap.size) ho pSd; (try simp (disch := first | omega | (simp; done) | (simp; omega)) only [pBk] at B2); (try rw [Hid.out B_b] at B2); (try simp only [pBk] at B2); (try clear c_b f_b r_b B_b); obtain ⟨c_b, f_b, l_u1_b, r_b, B_b⟩ := blk_all B2; clear B2; clear ho)
  (try go_wp2_with fail)
  refine hK.out _ _ ?_ (fun hHeld => ?_)
  · exact pKp
  clear hK K
  (try simp only [pLy])
  refine Gw.one (i := 4) rfl (by kernel_rfl) (fun K hK => ?_)
  go_simp
  (go_at_call 41; refine (r22_from _ _ _ _ _ _ _ (by exact W64_lo _) (by assumption) (by first | exact W64_48 | exact W64_0) (by first | exact W64_0 | exact W64_lo _)).mono ?_; rintro e u2 ⟨rfl, ho⟩; have hzu2 := Below.size ho; (try simp at hzu2); have HB2 : Hid (Below w.heap.size w u2) := Lib.hid (Below.trans (by exact pBl) (Below.mono ho pSd)); (try clear HB); have HB := HB2; clear HB2; have B2 := blk_below (g := w.heap.size) ho pSd; (try simp (disch := first | omega | (simp; done) | (simp; omega)) only [pBk] at B2); (try rw [Hid.out B_b] at B2); (try simp only [pBk] at B2); (try clear c_b f_b r_b B_b); obtain ⟨c_b, f_b, l_u2_b, r_b, B_b⟩ := blk_all B2; clear B2; clear ho)
  (try go_wp2_with fail)
  refine hK.out _ _ ?_ (fun hHeld => ?_)
  · exact pKp
  clear hK K
  (try simp only [pLy])
  refine Gw.tk 5 rfl ?_
  (try simp only [pLy])
  refine Gw.tk 6 rfl ?_
  (try simp only [pLy])
  refine Gw.ts 7 rfl ?_
  (try simp only [pLy])
  refine Gw.ts 8 rfl ?_
  (try simp only [pLy])
  refine Gw.one (i := 9) rfl (by kernel_rfl) (fun K hK => ?_)
  go_simp
  refine hK.out _ _ ?_ (fun hHeld => ?_)
  · exact pKp
  clear hK K
  (try simp only [pLy])
  refine Gw.ts 10 rfl ?_
  (try simp only [pLy])
  refine Gw.tk 11 rfl ?_
  (try simp only [pLy])
  refine Gw.tk 12 rfl ?_
  (try simp only [pLy])
  refine Gw.ts 13 rfl ?_
  (try simp only [pLy])
  refine Gw.ts 14 rfl ?_
  (try simp only [pLy])
  refine Gw.ts 15 rfl ?_
  (try simp only [pLy])
  refine Gw.ts 16 rfl ?_
  (try simp only [pLy])
  refine Gw.ts 17 rfl ?_
  (try simp only [pLy])
  refine Gw.one (i := 18) rfl (by kernel_rfl) (fun K hK => ?_)
  go_simp
  refine hK.out _ _ ?_ (fun hHeld => ?_)
  · exact pKp
  clear hK K
  (try simp only [pLy])
  refine Gw.ts 19 rfl ?_
  (try simp only [pLy])
  refine Gw.tk 20 rfl ?_
  (try simp only [pLy])
  refine Gw.tk 21 rfl ?_
  (try simp only [pLy])
  refine Gw.ts 22 rfl ?_
  (try simp only [pLy])
  refine Gw.ts 23 rfl ?_
  (try simp only [pLy])
  refine Gw.one (i := 24) rfl (by kernel_rfl) (fun K hK => ?_)
  go_simp
  refine hK.out _ _ ?_ (fun hHeld => ?_)
  · exact pKp
  clear hK K
  (try simp only [pLy])
  refine Gw.ts 25 rfl ?_
  (try simp only [pLy])
  refine Gw.tk 26 rfl ?_
  (try simp only [pLy])
  refine Gw.tk 27 rfl ?_
  (try simp only [pLy])
  refine Gw.ts 28 rfl ?_
  (try simp only [pLy])
  refine Gw.ts 29 rfl ?_
  (try simp only [pLy])
  refine Gw.one (i := 30) rfl (by kernel_rfl) (fun K hK => ?_)
  go_simp
  refine hK.out _ _ ?_ (fun hHeld => ?_)
  · exact pKp
  clear hK K
  (try simp only [pLy])
  refine Gw.ts 31 rfl ?_
  (try simp only [pLy])
  refine Gw.tk 32 rfl ?_
  (try simp only [pLy])
  refine Gw.tk 33 rfl ?_
  (try simp only [pLy])
  refine Gw.ts 34 rfl ?_
  (try simp only [pLy])
  refine Gw.ts 35 rfl ?_
  (try simp only [pLy])
  refine Gw.one (i := 36) rfl (by kernel_rfl) (fun K hK => ?_)
  go_simp
  refine hK.out _ _ ?_ (fun hHeld => ?_)
  · exact pKp
  clear hK K
  (try simp only [pLy])
  refine Gw.ts 37 rfl ?_
  (try simp only [pLy])
  refine Gw.tk 38 rfl ?_
  (try simp only [pLy])
  refine Gw.tk 39 rfl ?_
  (try simp only [pLy])
  refine Gw.ts 40 rfl ?_
  (try simp only [pLy])
  refine Gw.ts 41 rfl ?_
  (try simp only [pLy])
  refine Gw.one (i := 42) rfl (by kernel_rfl) (fun K hK => ?_)
  go_simp
  refine hK.out _ _ ?_ (fun hHeld => ?_)
  · exact pKp
  clear hK K
  (try simp only [pLy])
  refine Gw.ts 43 rfl ?_
  (try simp only [pLy])
  refine Gw.last (i := 44) rfl (by kernel_rfl) (by decide) (fun K hK => ?_)
  go_simp
  refine hK.out _ _ ?_
  clear hK K
  (try simp only [pLy])
  refine Gw.done (by kernel_rfl) ?_ _
  all_goals go_wp2
  all_goals refine bodyPost_ret ?r rfl ⟨rfl, ?b⟩
  case r => simp (maxDischargeDepth := 9) [results, Try.results12, go_sem, *]
  case b => exact pBl

set_option maxRecDepth 100000 in
set_option maxHeartbeats 16000000 in
theorem mayBody_f1 (b : BodyI) (w : World) (hw : Wide b) (h0 : g0 b = true) (h1 : g1 b = false) :
    Calls Try.prog 12 #[.agg #[.int .i64 (hi b.mass), .int .u64 (lo b.mass), .int .i64 (hi b.radius), .int .u64 (lo b.radius), .int .i64 (hi b.x), .int .u64 (lo b.x), .int .i64 (hi b.y), .int .u64 (lo b.y), .int .i64 (hi b.px), .int .u64 (lo b.px), .int .i64 (hi b.py), .int .u64 (lo b.py), .int .i64 (hi b.fuel), .int .u64 (lo b.fuel), .int .i64 (hi b.rate), .int .u64 (lo b.rate), .int .i64 (hi b.exh), .int .u64 (lo b.exh), .int .i64 b.thr, .int .i64 b.head]] w fun e w' => e = .returned (.bool false) ∧ Below w.heap.size w w' := by
  have i1 := hw.mass
  have i2 := hw.radius
  have i3 := hw.x
  have i4 := hw.y
  have i5 := hw.px
  have i6 := hw.py
  have i7 := hw.fuel
  have i8 := hw.rate
  have i9 := hw.exh
  clear hw
  unfold g0 g1 at *
  go_enter Try.func12, Try.ntmps12
  go_wp2_with fail
  refine wp_region_G (fun w' => w'.cell? ⟨w.heap.size, 0, none⟩ = some (.int .i64 (hi b.mass)) ∧ w'.cell? ⟨w.heap.size, 1, none⟩ = some (.int .u64 (lo b.mass)) ∧ w'.cell? ⟨w.heap.size, 2, none⟩ = some (.int .i64 (hi b.radius)) ∧ w'.cell? ⟨w.heap.size, 3, none⟩ = some (.int .u64 (lo b.radius)) ∧ w'.cell? ⟨w.heap.size, 4, none⟩ = some (.int .i64 (hi b.x)) ∧ w'.cell? ⟨w.heap.size, 5, none⟩ = some (.int .u64 (lo b.x)) ∧ w'.cell? ⟨w.heap.size, 6, none⟩ = some (.int .i64 (hi b.y)) ∧ w'.cell? ⟨w.heap.size, 7, none⟩ = some (.int .u64 (lo b.y)) ∧ w'.cell? ⟨w.heap.size, 8, none⟩ = some (.int .i64 (hi b.px)) ∧ w'.cell? ⟨w.heap.size, 9, none⟩ = some (.int .u64 (lo b.px)) ∧ w'.cell? ⟨w.heap.size, 10, none⟩ = some (.int .i64 (hi b.py)) ∧ w'.cell? ⟨w.heap.size, 11, none⟩ = some (.int .u64 (lo b.py)) ∧ w'.cell? ⟨w.heap.size, 12, none⟩ = some (.int .i64 (hi b.fuel)) ∧ w'.cell? ⟨w.heap.size, 13, none⟩ = some (.int .u64 (lo b.fuel)) ∧ w'.cell? ⟨w.heap.size, 14, none⟩ = some (.int .i64 (hi b.rate)) ∧ w'.cell? ⟨w.heap.size, 15, none⟩ = some (.int .u64 (lo b.rate)) ∧ w'.cell? ⟨w.heap.size, 16, none⟩ = some (.int .i64 (hi b.exh)) ∧ w'.cell? ⟨w.heap.size, 17, none⟩ = some (.int .u64 (lo b.exh))) 44 (by kernel_rfl) ?_ (fun hHeld => ?_)
  · exact pKp
  refine Gw.tk 0 rfl ?_
  (try simp only [pLy])
  refine Gw.tk 1 rfl ?_
  (try simp only [pLy])
  refine Gw.tk 2 rfl ?_
  (try simp only [pLy])
  refine Gw.one (i := 3) rfl (by kernel_rfl) (fun K hK => ?_)
  go_simp
  (go_at_call 15; refine (r1_Int _ _ (by decide)).mono ?_; rintro e u1 ⟨rfl, ho⟩; have hzu1 := Below.size ho; (try simp at hzu1); have HB2 : Hid (Below w.heap.size w u1) := Lib.hid (Below.trans (by exact pBl) (Below.mono ho pSd)); (try clear HB); have HB := HB2; clear HB2; have B2 := blk_below (g := w.heap.size) ho pSd; (try simp (disch := first | omega | (simp; done) | (simp; omega)) only [pBk] at B2); (try rw [Hid.out B_b] at B2); (try simp only [pBk] at B2); (try clear c_b f_b r_b B_b); obtain ⟨c_b, f_b, l_u1_b, r_b, B_b⟩ := blk_all B2; clear B2; clear ho)
  (try go_wp2_with fail)
  refine hK.out _ _ ?_ (fun hHeld => ?_)
  · exact pKp
  clear hK K
  (try simp only [pLy])
  refine Gw.one (i := 4) rfl (by kernel_rfl) (fun K hK => ?_)
  go_simp
  (go_at_call 41; refine (r22_from _ _ _ _ _ _ _ (by exact W64_lo _) (by assumption) (by first | exact W64_48 | exact W64_0) (by first | exact W64_0 | exact W64_lo _)).mono ?_; rintro e u2 ⟨rfl, ho⟩; have hzu2 := Below.size ho; (try simp at hzu2); have HB2 : Hid (Below w.heap.size w u2) := Lib.hid (Below.trans (by exact pBl) (Below.mono ho pSd)); (try clear HB); have HB := HB2; clear HB2; have B2 := blk_below (g := w.heap.size) ho pSd; (try simp (disch := first | omega | (simp; done) | (simp; omega)) only [pBk] at B2); (try rw [Hid.out B_b] at B2); (try simp only [pBk] at B2); (try clear c_b f_b r_b B_b); obtain ⟨c_b, f_b, l_u2_b, r_b, B_b⟩ := blk_all B2; clear B2; clear ho)
  (try go_wp2_with fail)
  refine hK.out _ _ ?_ (fun hHeld => ?_)
  · exact pKp
  clear hK K
  (try simp only [pLy])
  refine Gw.tk 5 rfl ?_
  (try simp only [pLy])
  refine Gw.tk 6 rfl ?_
  (try simp only [pLy])
  refine Gw.tk 7 rfl ?_
  (try simp only [pLy])
  refine Gw.tk 8 rfl ?_
  (try simp only [pLy])
  refine Gw.one (i := 9) rfl (by kernel_rfl) (fun K hK => ?_)
  go_simp
  (go_at_call 42; refine (r22_to _ _ _ _ (by exact W64_lo _) (by assumption) (by decide)).mono ?_; rintro e u3 ⟨rfl, ho⟩; have hzu3 := Below.size ho; (try simp at hzu3); have HB2 : Hid (Below w.heap.size w u3) := Lib.hid (Below.trans (by exact pBl) (Below.mono ho pSd)); (try clear HB); have HB := HB2; clear HB2; have B2 := blk_below (g := w.heap.size) ho pSd; (try simp (disch := first | omega | (simp; done) | (simp; omega)) only [pBk] at B2); (try rw [Hid.out B_b] at B2); (try simp only [pBk] at B2); (try clear c_b f_b r_b B_b); obtain ⟨c_b, f_b, l_u3_b, r_b, B_b⟩ := blk_all B2; clear B2; clear ho)
  (try go_wp2_with fail)
  refine hK.out _ _ ?_ (fun hHeld => ?_)
  · exact pKp
  clear hK K
  (try simp only [pLy])
  refine Gw.tk 10 rfl ?_
  (try simp only [pLy])
  refine Gw.tk 11 rfl ?_
  (try simp only [pLy])
  refine Gw.tk 12 rfl ?_
  (try simp only [pLy])
  refine Gw.ts 13 rfl ?_
  (try simp only [pLy])
  refine Gw.ts 14 rfl ?_
  (try simp only [pLy])
  refine Gw.ts 15 rfl ?_
  (try simp only [pLy])
  refine Gw.ts 16 rfl ?_
  (try simp only [pLy])
  refine Gw.ts 17 rfl ?_
  (try simp only [pLy])
  refine Gw.one (i := 18) rfl (by kernel_rfl) (fun K hK => ?_)
  go_simp
  refine hK.out _ _ ?_ (fun hHeld => ?_)
  · exact pKp
  clear hK K
  (try simp only [pLy])
  refine Gw.ts 19 rfl ?_
  (try simp only [pLy])
  refine Gw.tk 20 rfl ?_
  (try simp only [pLy])
  refine Gw.tk 21 rfl ?_
  (try simp only [pLy])
  refine Gw.ts 22 rfl ?_
  (try simp only [pLy])
  refine Gw.ts 23 rfl ?_
  (try simp only [pLy])
  refine Gw.one (i := 24) rfl (by kernel_rfl) (fun K hK => ?_)
  go_simp
  refine hK.out _ _ ?_ (fun hHeld => ?_)
  · exact pKp
  clear hK K
  (try simp only [pLy])
  refine Gw.ts 25 rfl ?_
  (try simp only [pLy])
  refine Gw.tk 26 rfl ?_
  (try simp only [pLy])
  refine Gw.tk 27 rfl ?_
  (try simp only [pLy])
  refine Gw.ts 28 rfl ?_
  (try simp only [pLy])
  refine Gw.ts 29 rfl ?_
  (try simp only [pLy])
  refine Gw.one (i := 30) rfl (by kernel_rfl) (fun K hK => ?_)
  go_simp
  refine hK.out _ _ ?_ (fun hHeld => ?_)
  · exact pKp
  clear hK K
  (try simp only [pLy])
  refine Gw.ts 31 rfl ?_
  (try simp only [pLy])
  refine Gw.tk 32 rfl ?_
  (try simp only [pLy])
  refine Gw.tk 33 rfl ?_
  (try simp only [pLy])
  refine Gw.ts 34 rfl ?_
  (try simp only [pLy])
  refine Gw.ts 35 rfl ?_
  (try simp only [pLy])
  refine Gw.one (i := 36) rfl (by kernel_rfl) (fun K hK => ?_)
  go_simp
  refine hK.out _ _ ?_ (fun hHeld => ?_)
  · exact pKp
  clear hK K
  (try simp only [pLy])
  refine Gw.ts 37 rfl ?_
  (try simp only [pLy])
  refine Gw.tk 38 rfl ?_
  (try simp only [pLy])
  refine Gw.tk 39 rfl ?_
  (try simp only [pLy])
  refine Gw.ts 40 rfl ?_
  (try simp only [pLy])
  refine Gw.ts 41 rfl ?_
  (try simp only [pLy])
  refine Gw.one (i := 42) rfl (by kernel_rfl) (fun K hK => ?_)
  go_simp
  refine hK.out _ _ ?_ (fun hHeld => ?_)
  · exact pKp
  clear hK K
  (try simp only [pLy])
  refine Gw.ts 43 rfl ?_
  (try simp only [pLy])
  refine Gw.last (i := 44) rfl (by kernel_rfl) (by decide) (fun K hK => ?_)
  go_simp
  refine hK.out _ _ ?_
  clear hK K
  (try simp only [pLy])
  refine Gw.done (by kernel_rfl) ?_ _
  all_goals go_wp2
  all_goals refine bodyPost_ret ?r rfl ⟨rfl, ?b⟩
  case r => simp (maxDischargeDepth := 9) [results, Try.results12, go_sem, *]
  case b => exact pBl

set_option maxRecDepth 100000 in
set_option maxHeartbeats 16000000 in
theorem mayBody_f2 (b : BodyI) (w : World) (hw : Wide b) (h0 : g0 b = true) (h1 : g1 b = true) (h2 : g2 b = false) :
    Calls Try.prog 12 #[.agg #[.int .i64 (hi b.mass), .int .u64 (lo b.mass), .int .i64 (hi b.radius), .int .u64 (lo b.radius), .int .i64 (hi b.x), .int .u64 (lo b.x), .int .i64 (hi b.y), .int .u64 (lo b.y), .int .i64 (hi b.px), .int .u64 (lo b.px), .int .i64 (hi b.py), .int .u64 (lo b.py), .int .i64 (hi b.fuel), .int .u64 (lo b.fuel), .int .i64 (hi b.rate), .int .u64 (lo b.rate), .int .i64 (hi b.exh), .int .u64 (lo b.exh), .int .i64 b.thr, .int .i64 b.head]] w fun e w' => e = .returned (.bool false) ∧ Below w.heap.size w w' := by
  have i1 := hw.mass
  have i2 := hw.radius
  have i3 := hw.x
  have i4 := hw.y
  have i5 := hw.px
  have i6 := hw.py
  have i7 := hw.fuel
  have i8 := hw.rate
  have i9 := hw.exh
  clear hw
  unfold g0 g1 g2 at *
  go_enter Try.func12, Try.ntmps12
  go_wp2_with fail
  refine wp_region_G (fun w' => w'.cell? ⟨w.heap.size, 0, none⟩ = some (.int .i64 (hi b.mass)) ∧ w'.cell? ⟨w.heap.size, 1, none⟩ = some (.int .u64 (lo b.mass)) ∧ w'.cell? ⟨w.heap.size, 2, none⟩ = some (.int .i64 (hi b.radius)) ∧ w'.cell? ⟨w.heap.size, 3, none⟩ = some (.int .u64 (lo b.radius)) ∧ w'.cell? ⟨w.heap.size, 4, none⟩ = some (.int .i64 (hi b.x)) ∧ w'.cell? ⟨w.heap.size, 5, none⟩ = some (.int .u64 (lo b.x)) ∧ w'.cell? ⟨w.heap.size, 6, none⟩ = some (.int .i64 (hi b.y)) ∧ w'.cell? ⟨w.heap.size, 7, none⟩ = some (.int .u64 (lo b.y)) ∧ w'.cell? ⟨w.heap.size, 8, none⟩ = some (.int .i64 (hi b.px)) ∧ w'.cell? ⟨w.heap.size, 9, none⟩ = some (.int .u64 (lo b.px)) ∧ w'.cell? ⟨w.heap.size, 10, none⟩ = some (.int .i64 (hi b.py)) ∧ w'.cell? ⟨w.heap.size, 11, none⟩ = some (.int .u64 (lo b.py)) ∧ w'.cell? ⟨w.heap.size, 12, none⟩ = some (.int .i64 (hi b.fuel)) ∧ w'.cell? ⟨w.heap.size, 13, none⟩ = some (.int .u64 (lo b.fuel)) ∧ w'.cell? ⟨w.heap.size, 14, none⟩ = some (.int .i64 (hi b.rate)) ∧ w'.cell? ⟨w.heap.size, 15, none⟩ = some (.int .u64 (lo b.rate)) ∧ w'.cell? ⟨w.heap.size, 16, none⟩ = some (.int .i64 (hi b.exh)) ∧ w'.cell? ⟨w.heap.size, 17, none⟩ = some (.int .u64 (lo b.exh))) 44 (by kernel_rfl) ?_ (fun hHeld => ?_)
  · exact pKp
  refine Gw.tk 0 rfl ?_
  (try simp only [pLy])
  refine Gw.tk 1 rfl ?_
  (try simp only [pLy])
  refine Gw.tk 2 rfl ?_
  (try simp only [pLy])
  refine Gw.one (i := 3) rfl (by kernel_rfl) (fun K hK => ?_)
  go_simp
  (go_at_call 15; refine (r1_Int _ _ (by decide)).mono ?_; rintro e u1 ⟨rfl, ho⟩; have hzu1 := Below.size ho; (try simp at hzu1); have HB2 : Hid (Below w.heap.size w u1) := Lib.hid (Below.trans (by exact pBl) (Below.mono ho pSd)); (try clear HB); have HB := HB2; clear HB2; have B2 := blk_below (g := w.heap.size) ho pSd; (try simp (disch := first | omega | (simp; done) | (simp; omega)) only [pBk] at B2); (try rw [Hid.out B_b] at B2); (try simp only [pBk] at B2); (try clear c_b f_b r_b B_b); obtain ⟨c_b, f_b, l_u1_b, r_b, B_b⟩ := blk_all B2; clear B2; clear ho)
  (try go_wp2_with fail)
  refine hK.out _ _ ?_ (fun hHeld => ?_)
  · exact pKp
  clear hK K
  (try simp only [pLy])
  refine Gw.one (i := 4) rfl (by kernel_rfl) (fun K hK => ?_)
  go_simp
  (go_at_call 41; refine (r22_from _ _ _ _ _ _ _ (by exact W64_lo _) (by assumption) (by first | exact W64_48 | exact W64_0) (by first | exact W64_0 | exact W64_lo _)).mono ?_; rintro e u2 ⟨rfl, ho⟩; have hzu2 := Below.size ho; (try simp at hzu2); have HB2 : Hid (Below w.heap.size w u2) := Lib.hid (Below.trans (by exact pBl) (Below.mono ho pSd)); (try clear HB); have HB := HB2; clear HB2; have B2 := blk_below (g := w.heap.size) ho pSd; (try simp (disch := first | omega | (simp; done) | (simp; omega)) only [pBk] at B2); (try rw [Hid.out B_b] at B2); (try simp only [pBk] at B2); (try clear c_b f_b r_b B_b); obtain ⟨c_b, f_b, l_u2_b, r_b, B_b⟩ := blk_all B2; clear B2; clear ho)
  (try go_wp2_with fail)
  refine hK.out _ _ ?_ (fun hHeld => ?_)
  · exact pKp
  clear hK K
  (try simp only [pLy])
  refine Gw.tk 5 rfl ?_
  (try simp only [pLy])
  refine Gw.tk 6 rfl ?_
  (try simp only [pLy])
  refine Gw.tk 7 rfl ?_
  (try simp only [pLy])
  refine Gw.tk 8 rfl ?_
  (try simp only [pLy])
  refine Gw.one (i := 9) rfl (by kernel_rfl) (fun K hK => ?_)
  go_simp
  (go_at_call 42; refine (r22_to _ _ _ _ (by exact W64_lo _) (by assumption) (by decide)).mono ?_; rintro e u3 ⟨rfl, ho⟩; have hzu3 := Below.size ho; (try simp at hzu3); have HB2 : Hid (Below w.heap.size w u3) := Lib.hid (Below.trans (by exact pBl) (Below.mono ho pSd)); (try clear HB); have HB := HB2; clear HB2; have B2 := blk_below (g := w.heap.size) ho pSd; (try simp (disch := first | omega | (simp; done) | (simp; omega)) only [pBk] at B2); (try rw [Hid.out B_b] at B2); (try simp only [pBk] at B2); (try clear c_b f_b r_b B_b); obtain ⟨c_b, f_b, l_u3_b, r_b, B_b⟩ := blk_all B2; clear B2; clear ho)
  (try go_wp2_with fail)
  refine hK.out _ _ ?_ (fun hHeld => ?_)
  · exact pKp
  clear hK K
  (try simp only [pLy])
  refine Gw.tk 10 rfl ?_
  (try simp only [pLy])
  refine Gw.tk 11 rfl ?_
  (try simp only [pLy])
  refine Gw.tk 12 rfl ?_
  (try simp only [pLy])
  refine Gw.tk 13 rfl ?_
  (try simp only [pLy])
  refine Gw.tk 14 rfl ?_
  (try simp only [pLy])
  refine Gw.tk 15 rfl ?_
  (try simp only [pLy])
  refine Gw.tk 16 rfl ?_
  (try simp only [pLy])
  refine Gw.tk 17 rfl ?_
  (try simp only [pLy])
  refine Gw.one (i := 18) rfl (by kernel_rfl) (fun K hK => ?_)
  go_simp
  (go_at_call 41; refine (r22_from _ _ _ _ _ _ _ (by exact W64_lo _) (by assumption) (by first | exact W64_48 | exact W64_0) (by first | exact W64_0 | exact W64_lo _)).mono ?_; rintro e u4 ⟨rfl, ho⟩; have hzu4 := Below.size ho; (try simp at hzu4); have HB2 : Hid (Below w.heap.size w u4) := Lib.hid (Below.trans (by exact pBl) (Below.mono ho pSd)); (try clear HB); have HB := HB2; clear HB2; have B2 := blk_below (g := w.heap.size) ho pSd; (try simp (disch := first | omega | (simp; done) | (simp; omega)) only [pBk] at B2); (try rw [Hid.out B_b] at B2); (try simp only [pBk] at B2); (try clear c_b f_b r_b B_b); obtain ⟨c_b, f_b, l_u4_b, r_b, B_b⟩ := blk_all B2; clear B2; clear ho)
  (try go_wp2_with fail)
  refine hK.out _ _ ?_ (fun hHeld => ?_)
  · exact pKp
  clear hK K
  (try simp only [pLy])
  refine Gw.tk 19 rfl ?_
  (try simp only [pLy])
  refine Gw.tk 20 rfl ?_
  (try simp only [pLy])
  refine Gw.tk 21 rfl ?_
  (try simp only [pLy])
  refine Gw.ts 22 rfl ?_
  (try simp only [pLy])
  refine Gw.ts 23 rfl ?_
  (try simp only [pLy])
  refine Gw.one (i := 24) rfl (by kernel_rfl) (fun K hK => ?_)
  go_simp
  refine hK.out _ _ ?_ (fun hHeld => ?_)
  · exact pKp
  clear hK K
  (try simp only [pLy])
  refine Gw.ts 25 rfl ?_
  (try simp only [pLy])
  refine Gw.tk 26 rfl ?_
  (try simp only [pLy])
  refine Gw.tk 27 rfl ?_
  (try simp only [pLy])
  refine Gw.ts 28 rfl ?_
  (try simp only [pLy])
  refine Gw.ts 29 rfl ?_
  (try simp only [pLy])
  refine Gw.one (i := 30) rfl (by kernel_rfl) (fun K hK => ?_)
  go_simp
  refine hK.out _ _ ?_ (fun hHeld => ?_)
  · exact pKp
  clear hK K
  (try simp only [pLy])
  refine Gw.ts 31 rfl ?_
  (try simp only [pLy])
  refine Gw.tk 32 rfl ?_
  (try simp only [pLy])
  refine Gw.tk 33 rfl ?_
  (try simp only [pLy])
  refine Gw.ts 34 rfl ?_
  (try simp only [pLy])
  refine Gw.ts 35 rfl ?_
  (try simp only [pLy])
  refine Gw.one (i := 36) rfl (by kernel_rfl) (fun K hK => ?_)
  go_simp
  refine hK.out _ _ ?_ (fun hHeld => ?_)
  · exact pKp
  clear hK K
  (try simp only [pLy])
  refine Gw.ts 37 rfl ?_
  (try simp only [pLy])
  refine Gw.tk 38 rfl ?_
  (try simp only [pLy])
  refine Gw.tk 39 rfl ?_
  (try simp only [pLy])
  refine Gw.ts 40 rfl ?_
  (try simp only [pLy])
  refine Gw.ts 41 rfl ?_
  (try simp only [pLy])
  refine Gw.one (i := 42) rfl (by kernel_rfl) (fun K hK => ?_)
  go_simp
  refine hK.out _ _ ?_ (fun hHeld => ?_)
  · exact pKp
  clear hK K
  (try simp only [pLy])
  refine Gw.ts 43 rfl ?_
  (try simp only [pLy])
  refine Gw.last (i := 44) rfl (by kernel_rfl) (by decide) (fun K hK => ?_)
  go_simp
  refine hK.out _ _ ?_
  clear hK K
  (try simp only [pLy])
  refine Gw.done (by kernel_rfl) ?_ _
  all_goals go_wp2
  all_goals refine bodyPost_ret ?r rfl ⟨rfl, ?b⟩
  case r => simp (maxDischargeDepth := 9) [results, Try.results12, go_sem, *]
  case b => exact pBl

set_option maxRecDepth 100000 in
set_option maxHeartbeats 16000000 in
theorem mayBody_f3 (b : BodyI) (w : World) (hw : Wide b) (h0 : g0 b = true) (h1 : g1 b = true) (h2 : g2 b = true) (h3 : g3 b = false) :
    Calls Try.prog 12 #[.agg #[.int .i64 (hi b.mass), .int .u64 (lo b.mass), .int .i64 (hi b.radius), .int .u64 (lo b.radius), .int .i64 (hi b.x), .int .u64 (lo b.x), .int .i64 (hi b.y), .int .u64 (lo b.y), .int .i64 (hi b.px), .int .u64 (lo b.px), .int .i64 (hi b.py), .int .u64 (lo b.py), .int .i64 (hi b.fuel), .int .u64 (lo b.fuel), .int .i64 (hi b.rate), .int .u64 (lo b.rate), .int .i64 (hi b.exh), .int .u64 (lo b.exh), .int .i64 b.thr, .int .i64 b.head]] w fun e w' => e = .returned (.bool false) ∧ Below w.heap.size w w' := by
  have i1 := hw.mass
  have i2 := hw.radius
  have i3 := hw.x
  have i4 := hw.y
  have i5 := hw.px
  have i6 := hw.py
  have i7 := hw.fuel
  have i8 := hw.rate
  have i9 := hw.exh
  clear hw
  unfold g0 g1 g2 g3 at *
  go_enter Try.func12, Try.ntmps12
  go_wp2_with fail
  refine wp_region_G (fun w' => w'.cell? ⟨w.heap.size, 0, none⟩ = some (.int .i64 (hi b.mass)) ∧ w'.cell? ⟨w.heap.size, 1, none⟩ = some (.int .u64 (lo b.mass)) ∧ w'.cell? ⟨w.heap.size, 2, none⟩ = some (.int .i64 (hi b.radius)) ∧ w'.cell? ⟨w.heap.size, 3, none⟩ = some (.int .u64 (lo b.radius)) ∧ w'.cell? ⟨w.heap.size, 4, none⟩ = some (.int .i64 (hi b.x)) ∧ w'.cell? ⟨w.heap.size, 5, none⟩ = some (.int .u64 (lo b.x)) ∧ w'.cell? ⟨w.heap.size, 6, none⟩ = some (.int .i64 (hi b.y)) ∧ w'.cell? ⟨w.heap.size, 7, none⟩ = some (.int .u64 (lo b.y)) ∧ w'.cell? ⟨w.heap.size, 8, none⟩ = some (.int .i64 (hi b.px)) ∧ w'.cell? ⟨w.heap.size, 9, none⟩ = some (.int .u64 (lo b.px)) ∧ w'.cell? ⟨w.heap.size, 10, none⟩ = some (.int .i64 (hi b.py)) ∧ w'.cell? ⟨w.heap.size, 11, none⟩ = some (.int .u64 (lo b.py)) ∧ w'.cell? ⟨w.heap.size, 12, none⟩ = some (.int .i64 (hi b.fuel)) ∧ w'.cell? ⟨w.heap.size, 13, none⟩ = some (.int .u64 (lo b.fuel)) ∧ w'.cell? ⟨w.heap.size, 14, none⟩ = some (.int .i64 (hi b.rate)) ∧ w'.cell? ⟨w.heap.size, 15, none⟩ = some (.int .u64 (lo b.rate)) ∧ w'.cell? ⟨w.heap.size, 16, none⟩ = some (.int .i64 (hi b.exh)) ∧ w'.cell? ⟨w.heap.size, 17, none⟩ = some (.int .u64 (lo b.exh))) 44 (by kernel_rfl) ?_ (fun hHeld => ?_)
  · exact pKp
  refine Gw.tk 0 rfl ?_
  (try simp only [pLy])
  refine Gw.tk 1 rfl ?_
  (try simp only [pLy])
  refine Gw.tk 2 rfl ?_
  (try simp only [pLy])
  refine Gw.one (i := 3) rfl (by kernel_rfl) (fun K hK => ?_)
  go_simp
  (go_at_call 15; refine (r1_Int _ _ (by decide)).mono ?_; rintro e u1 ⟨rfl, ho⟩; have hzu1 := Below.size ho; (try simp at hzu1); have HB2 : Hid (Below w.heap.size w u1) := Lib.hid (Below.trans (by exact pBl) (Below.mono ho pSd)); (try clear HB); have HB := HB2; clear HB2; have B2 := blk_below (g := w.heap.size) ho pSd; (try simp (disch := first | omega | (simp; done) | (simp; omega)) only [pBk] at B2); (try rw [Hid.out B_b] at B2); (try simp only [pBk] at B2); (try clear c_b f_b r_b B_b); obtain ⟨c_b, f_b, l_u1_b, r_b, B_b⟩ := blk_all B2; clear B2; clear ho)
  (try go_wp2_with fail)
  refine hK.out _ _ ?_ (fun hHeld => ?_)
  · exact pKp
  clear hK K
  (try simp only [pLy])
  refine Gw.one (i := 4) rfl (by kernel_rfl) (fun K hK => ?_)
  go_simp
  (go_at_call 41; refine (r22_from _ _ _ _ _ _ _ (by exact W64_lo _) (by assumption) (by first | exact W64_48 | exact W64_0) (by first | exact W64_0 | exact W64_lo _)).mono ?_; rintro e u2 ⟨rfl, ho⟩; have hzu2 := Below.size ho; (try simp at hzu2); have HB2 : Hid (Below w.heap.size w u2) := Lib.hid (Below.trans (by exact pBl) (Below.mono ho pSd)); (try clear HB); have HB := HB2; clear HB2; have B2 := blk_below (g := w.heap.size) ho pSd; (try simp (disch := first | omega | (simp; done) | (simp; omega)) only [pBk] at B2); (try rw [Hid.out B_b] at B2); (try simp only [pBk] at B2); (try clear c_b f_b r_b B_b); obtain ⟨c_b, f_b, l_u2_b, r_b, B_b⟩ := blk_all B2; clear B2; clear ho)
  (try go_wp2_with fail)
  refine hK.out _ _ ?_ (fun hHeld => ?_)
  · exact pKp
  clear hK K
  (try simp only [pLy])
  refine Gw.tk 5 rfl ?_
  (try simp only [pLy])
  refine Gw.tk 6 rfl ?_
  (try simp only [pLy])
  refine Gw.tk 7 rfl ?_
  (try simp only [pLy])
  refine Gw.tk 8 rfl ?_
  (try simp only [pLy])
  refine Gw.one (i := 9) rfl (by kernel_rfl) (fun K hK => ?_)
  go_simp
  (go_at_call 42; refine (r22_to _ _ _ _ (by exact W64_lo _) (by assumption) (by decide)).mono ?_; rintro e u3 ⟨rfl, ho⟩; have hzu3 := Below.size ho; (try simp at hzu3); have HB2 : Hid (Below w.heap.size w u3) := Lib.hid (Below.trans (by exact pBl) (Below.mono ho pSd)); (try clear HB); have HB := HB2; clear HB2; have B2 := blk_below (g := w.heap.size) ho pSd; (try simp (disch := first | omega | (simp; done) | (simp; omega)) only [pBk] at B2); (try rw [Hid.out B_b] at B2); (try simp only [pBk] at B2); (try clear c_b f_b r_b B_b); obtain ⟨c_b, f_b, l_u3_b, r_b, B_b⟩ := blk_all B2; clear B2; clear ho)
  (try go_wp2_with fail)
  refine hK.out _ _ ?_ (fun hHeld => ?_)
  · exact pKp
  clear hK K
  (try simp only [pLy])
  refine Gw.tk 10 rfl ?_
  (try simp only [pLy])
  refine Gw.tk 11 rfl ?_
  (try simp only [pLy])
  refine Gw.tk 12 rfl ?_
  (try simp only [pLy])
  refine Gw.tk 13 rfl ?_
  (try simp only [pLy])
  refine Gw.tk 14 rfl ?_
  (try simp only [pLy])
  refine Gw.tk 15 rfl ?_
  (try simp only [pLy])
  refine Gw.tk 16 rfl ?_
  (try simp only [pLy])
  refine Gw.tk 17 rfl ?_
  (try simp only [pLy])
  refine Gw.one (i := 18) rfl (by kernel_rfl) (fun K hK => ?_)
  go_simp
  (go_at_call 41; refine (r22_from _ _ _ _ _ _ _ (by exact W64_lo _) (by assumption) (by first | exact W64_48 | exact W64_0) (by first | exact W64_0 | exact W64_lo _)).mono ?_; rintro e u4 ⟨rfl, ho⟩; have hzu4 := Below.size ho; (try simp at hzu4); have HB2 : Hid (Below w.heap.size w u4) := Lib.hid (Below.trans (by exact pBl) (Below.mono ho pSd)); (try clear HB); have HB := HB2; clear HB2; have B2 := blk_below (g := w.heap.size) ho pSd; (try simp (disch := first | omega | (simp; done) | (simp; omega)) only [pBk] at B2); (try rw [Hid.out B_b] at B2); (try simp only [pBk] at B2); (try clear c_b f_b r_b B_b); obtain ⟨c_b, f_b, l_u4_b, r_b, B_b⟩ := blk_all B2; clear B2; clear ho)
  (try go_wp2_with fail)
  refine hK.out _ _ ?_ (fun hHeld => ?_)
  · exact pKp
  clear hK K
  (try simp only [pLy])
  refine Gw.tk 19 rfl ?_
  (try simp only [pLy])
  refine Gw.tk 20 rfl ?_
  (try simp only [pLy])
  refine Gw.tk 21 rfl ?_
  (try simp only [pLy])
  refine Gw.tk 22 rfl ?_
  (try simp only [pLy])
  refine Gw.tk 23 rfl ?_
  (try simp only [pLy])
  refine Gw.one (i := 24) rfl (by kernel_rfl) (fun K hK => ?_)
  go_simp
  (go_at_call 42; refine (r22_to _ _ _ _ (by exact W64_lo _) (by assumption) (by decide)).mono ?_; rintro e u5 ⟨rfl, ho⟩; have hzu5 := Below.size ho; (try simp at hzu5); have HB2 : Hid (Below w.heap.size w u5) := Lib.hid (Below.trans (by exact pBl) (Below.mono ho pSd)); (try clear HB); have HB := HB2; clear HB2; have B2 := blk_below (g := w.heap.size) ho pSd; (try simp (disch := first | omega | (simp; done) | (simp; omega)) only [pBk] at B2); (try rw [Hid.out B_b] at B2); (try simp only [pBk] at B2); (try clear c_b f_b r_b B_b); obtain ⟨c_b, f_b, l_u5_b, r_b, B_b⟩ := blk_all B2; clear B2; clear ho)
  (try go_wp2_with fail)
  refine hK.out _ _ ?_ (fun hHeld => ?_)
  · exact pKp
  clear hK K
  (try simp only [pLy])
  refine Gw.tk 25 rfl ?_
  (try simp only [pLy])
  refine Gw.tk 26 rfl ?_
  (try simp only [pLy])
  refine Gw.tk 27 rfl ?_
  (try simp only [pLy])
  refine Gw.ts 28 rfl ?_
  (try simp only [pLy])
  refine Gw.ts 29 rfl ?_
  (try simp only [pLy])
  refine Gw.one (i := 30) rfl (by kernel_rfl) (fun K hK => ?_)
  go_simp
  refine hK.out _ _ ?_ (fun hHeld => ?_)
  · exact pKp
  clear hK K
  (try simp only [pLy])
  refine Gw.ts 31 rfl ?_
  (try simp only [pLy])
  refine Gw.tk 32 rfl ?_
  (try simp only [pLy])
  refine Gw.tk 33 rfl ?_
  (try simp only [pLy])
  refine Gw.ts 34 rfl ?_
  (try simp only [pLy])
  refine Gw.ts 35 rfl ?_
  (try simp only [pLy])
  refine Gw.one (i := 36) rfl (by kernel_rfl) (fun K hK => ?_)
  go_simp
  refine hK.out _ _ ?_ (fun hHeld => ?_)
  · exact pKp
  clear hK K
  (try simp only [pLy])
  refine Gw.ts 37 rfl ?_
  (try simp only [pLy])
  refine Gw.tk 38 rfl ?_
  (try simp only [pLy])
  refine Gw.tk 39 rfl ?_
  (try simp only [pLy])
  refine Gw.ts 40 rfl ?_
  (try simp only [pLy])
  refine Gw.ts 41 rfl ?_
  (try simp only [pLy])
  refine Gw.one (i := 42) rfl (by kernel_rfl) (fun K hK => ?_)
  go_simp
  refine hK.out _ _ ?_ (fun hHeld => ?_)
  · exact pKp
  clear hK K
  (try simp only [pLy])
  refine Gw.ts 43 rfl ?_
  (try simp only [pLy])
  refine Gw.last (i := 44) rfl (by kernel_rfl) (by decide) (fun K hK => ?_)
  go_simp
  refine hK.out _ _ ?_
  clear hK K
  (try simp only [pLy])
  refine Gw.done (by kernel_rfl) ?_ _
  all_goals go_wp2
  all_goals refine bodyPost_ret ?r rfl ⟨rfl, ?b⟩
  case r => simp (maxDischargeDepth := 9) [results, Try.results12, go_sem, *]
  case b => exact pBl

set_option maxRecDepth 100000 in
set_option maxHeartbeats 16000000 in
theorem mayBody_f4 (b : BodyI) (w : World) (hw : Wide b) (h0 : g0 b = true) (h1 : g1 b = true) (h2 : g2 b = true) (h3 : g3 b = true) (h4 : g4 b = false) :
    Calls Try.prog 12 #[.agg #[.int .i64 (hi b.mass), .int .u64 (lo b.mass), .int .i64 (hi b.radius), .int .u64 (lo b.radius), .int .i64 (hi b.x), .int .u64 (lo b.x), .int .i64 (hi b.y), .int .u64 (lo b.y), .int .i64 (hi b.px), .int .u64 (lo b.px), .int .i64 (hi b.py), .int .u64 (lo b.py), .int .i64 (hi b.fuel), .int .u64 (lo b.fuel), .int .i64 (hi b.rate), .int .u64 (lo b.rate), .int .i64 (hi b.exh), .int .u64 (lo b.exh), .int .i64 b.thr, .int .i64 b.head]] w fun e w' => e = .returned (.bool false) ∧ Below w.heap.size w w' := by
  have i1 := hw.mass
  have i2 := hw.radius
  have i3 := hw.x
  have i4 := hw.y
  have i5 := hw.px
  have i6 := hw.py
  have i7 := hw.fuel
  have i8 := hw.rate
  have i9 := hw.exh
  clear hw
  unfold g0 g1 g2 g3 g4 at *
  go_enter Try.func12, Try.ntmps12
  go_wp2_with fail
  refine wp_region_G (fun w' => w'.cell? ⟨w.heap.size, 0, none⟩ = some (.int .i64 (hi b.mass)) ∧ w'.cell? ⟨w.heap.size, 1, none⟩ = some (.int .u64 (lo b.mass)) ∧ w'.cell? ⟨w.heap.size, 2, none⟩ = some (.int .i64 (hi b.radius)) ∧ w'.cell? ⟨w.heap.size, 3, none⟩ = some (.int .u64 (lo b.radius)) ∧ w'.cell? ⟨w.heap.size, 4, none⟩ = some (.int .i64 (hi b.x)) ∧ w'.cell? ⟨w.heap.size, 5, none⟩ = some (.int .u64 (lo b.x)) ∧ w'.cell? ⟨w.heap.size, 6, none⟩ = some (.int .i64 (hi b.y)) ∧ w'.cell? ⟨w.heap.size, 7, none⟩ = some (.int .u64 (lo b.y)) ∧ w'.cell? ⟨w.heap.size, 8, none⟩ = some (.int .i64 (hi b.px)) ∧ w'.cell? ⟨w.heap.size, 9, none⟩ = some (.int .u64 (lo b.px)) ∧ w'.cell? ⟨w.heap.size, 10, none⟩ = some (.int .i64 (hi b.py)) ∧ w'.cell? ⟨w.heap.size, 11, none⟩ = some (.int .u64 (lo b.py)) ∧ w'.cell? ⟨w.heap.size, 12, none⟩ = some (.int .i64 (hi b.fuel)) ∧ w'.cell? ⟨w.heap.size, 13, none⟩ = some (.int .u64 (lo b.fuel)) ∧ w'.cell? ⟨w.heap.size, 14, none⟩ = some (.int .i64 (hi b.rate)) ∧ w'.cell? ⟨w.heap.size, 15, none⟩ = some (.int .u64 (lo b.rate)) ∧ w'.cell? ⟨w.heap.size, 16, none⟩ = some (.int .i64 (hi b.exh)) ∧ w'.cell? ⟨w.heap.size, 17, none⟩ = some (.int .u64 (lo b.exh))) 44 (by kernel_rfl) ?_ (fun hHeld => ?_)
  · exact pKp
  refine Gw.tk 0 rfl ?_
  (try simp only [pLy])
  refine Gw.tk 1 rfl ?_
  (try simp only [pLy])
  refine Gw.tk 2 rfl ?_
  (try simp only [pLy])
  refine Gw.one (i := 3) rfl (by kernel_rfl) (fun K hK => ?_)
  go_simp
  (go_at_call 15; refine (r1_Int _ _ (by decide)).mono ?_; rintro e u1 ⟨rfl, ho⟩; have hzu1 := Below.size ho; (try simp at hzu1); have HB2 : Hid (Below w.heap.size w u1) := Lib.hid (Below.trans (by exact pBl) (Below.mono ho pSd)); (try clear HB); have HB := HB2; clear HB2; have B2 := blk_below (g := w.heap.size) ho pSd; (try simp (disch := first | omega | (simp; done) | (simp; omega)) only [pBk] at B2); (try rw [Hid.out B_b] at B2); (try simp only [pBk] at B2); (try clear c_b f_b r_b B_b); obtain ⟨c_b, f_b, l_u1_b, r_b, B_b⟩ := blk_all B2; clear B2; clear ho)
  (try go_wp2_with fail)
  refine hK.out _ _ ?_ (fun hHeld => ?_)
  · exact pKp
  clear hK K
  (try simp only [pLy])
  refine Gw.one (i := 4) rfl (by kernel_rfl) (fun K hK => ?_)
  go_simp
  (go_at_call 41; refine (r22_from _ _ _ _ _ _ _ (by exact W64_lo _) (by assumption) (by first | exact W64_48 | exact W64_0) (by first | exact W64_0 | exact W64_lo _)).mono ?_; rintro e u2 ⟨rfl, ho⟩; have hzu2 := Below.size ho; (try simp at hzu2); have HB2 : Hid (Below w.heap.size w u2) := Lib.hid (Below.trans (by exact pBl) (Below.mono ho pSd)); (try clear HB); have HB := HB2; clear HB2; have B2 := blk_below (g := w.heap.size) ho pSd; (try simp (disch := first | omega | (simp; done) | (simp; omega)) only [pBk] at B2); (try rw [Hid.out B_b] at B2); (try simp only [pBk] at B2); (try clear c_b f_b r_b B_b); obtain ⟨c_b, f_b, l_u2_b, r_b, B_b⟩ := blk_all B2; clear B2; clear ho)
  (try go_wp2_with fail)
  refine hK.out _ _ ?_ (fun hHeld => ?_)
  · exact pKp
  clear hK K
  (try simp only [pLy])
  refine Gw.tk 5 rfl ?_
  (try simp only [pLy])
  refine Gw.tk 6 rfl ?_
  (try simp only [pLy])
  refine Gw.tk 7 rfl ?_
  (try simp only [pLy])
  refine Gw.tk 8 rfl ?_
  (try simp only [pLy])
  refine Gw.one (i := 9) rfl (by kernel_rfl) (fun K hK => ?_)
  go_simp
  (go_at_call 42; refine (r22_to _ _ _ _ (by exact W64_lo _) (by assumption) (by decide)).mono ?_; rintro e u3 ⟨rfl, ho⟩; have hzu3 := Below.size ho; (try simp at hzu3); have HB2 : Hid (Below w.heap.size w u3) := Lib.hid (Below.trans (by exact pBl) (Below.mono ho pSd)); (try clear HB); have HB := HB2; clear HB2; have B2 := blk_below (g := w.heap.size) ho pSd; (try simp (disch := first | omega | (simp; done) | (simp; omega)) only [pBk] at B2); (try rw [Hid.out B_b] at B2); (try simp only [pBk] at B2); (try clear c_b f_b r_b B_b); obtain ⟨c_b, f_b, l_u3_b, r_b, B_b⟩ := blk_all B2; clear B2; clear ho)
  (try go_wp2_with fail)
  refine hK.out _ _ ?_ (fun hHeld => ?_)
  · exact pKp
  clear hK K
  (try simp only [pLy])
  refine Gw.tk 10 rfl ?_
  (try simp only [pLy])
  refine Gw.tk 11 rfl ?_
  (try simp only [pLy])
  refine Gw.tk 12 rfl ?_
  (try simp only [pLy])
  refine Gw.tk 13 rfl ?_
  (try simp only [pLy])
  refine Gw.tk 14 rfl ?_
  (try simp only [pLy])
  refine Gw.tk 15 rfl ?_
  (try simp only [pLy])
  refine Gw.tk 16 rfl ?_
  (try simp only [pLy])
  refine Gw.tk 17 rfl ?_
  (try simp only [pLy])
  refine Gw.one (i := 18) rfl (by kernel_rfl) (fun K hK => ?_)
  go_simp
  (go_at_call 41; refine (r22_from _ _ _ _ _ _ _ (by exact W64_lo _) (by assumption) (by first | exact W64_48 | exact W64_0) (by first | exact W64_0 | exact W64_lo _)).mono ?_; rintro e u4 ⟨rfl, ho⟩; have hzu4 := Below.size ho; (try simp at hzu4); have HB2 : Hid (Below w.heap.size w u4) := Lib.hid (Below.trans (by exact pBl) (Below.mono ho pSd)); (try clear HB); have HB := HB2; clear HB2; have B2 := blk_below (g := w.heap.size) ho pSd; (try simp (disch := first | omega | (simp; done) | (simp; omega)) only [pBk] at B2); (try rw [Hid.out B_b] at B2); (try simp only [pBk] at B2); (try clear c_b f_b r_b B_b); obtain ⟨c_b, f_b, l_u4_b, r_b, B_b⟩ := blk_all B2; clear B2; clear ho)
  (try go_wp2_with fail)
  refine hK.out _ _ ?_ (fun hHeld => ?_)
  · exact pKp
  clear hK K
  (try simp only [pLy])
  refine Gw.tk 19 rfl ?_
  (try simp only [pLy])
  refine Gw.tk 20 rfl ?_
  (try simp only [pLy])
  refine Gw.tk 21 rfl ?_
  (try simp only [pLy])
  refine Gw.tk 22 rfl ?_
  (try simp only [pLy])
  refine Gw.tk 23 rfl ?_
  (try simp only [pLy])
  refine Gw.one (i := 24) rfl (by kernel_rfl) (fun K hK => ?_)
  go_simp
  (go_at_call 42; refine (r22_to _ _ _ _ (by exact W64_lo _) (by assumption) (by decide)).mono ?_; rintro e u5 ⟨rfl, ho⟩; have hzu5 := Below.size ho; (try simp at hzu5); have HB2 : Hid (Below w.heap.size w u5) := Lib.hid (Below.trans (by exact pBl) (Below.mono ho pSd)); (try clear HB); have HB := HB2; clear HB2; have B2 := blk_below (g := w.heap.size) ho pSd; (try simp (disch := first | omega | (simp; done) | (simp; omega)) only [pBk] at B2); (try rw [Hid.out B_b] at B2); (try simp only [pBk] at B2); (try clear c_b f_b r_b B_b); obtain ⟨c_b, f_b, l_u5_b, r_b, B_b⟩ := blk_all B2; clear B2; clear ho)
  (try go_wp2_with fail)
  refine hK.out _ _ ?_ (fun hHeld => ?_)
  · exact pKp
  clear hK K
  (try simp only [pLy])
  refine Gw.tk 25 rfl ?_
  (try simp only [pLy])
  refine Gw.tk 26 rfl ?_
  (try simp only [pLy])
  refine Gw.tk 27 rfl ?_
  (try simp only [pLy])
  refine Gw.tk 28 rfl ?_
  (try simp only [pLy])
  refine Gw.tk 29 rfl ?_
  (try simp only [pLy])
  refine Gw.one (i := 30) rfl (by kernel_rfl) (fun K hK => ?_)
  go_simp
  (go_at_call 42; refine (r22_to _ _ _ _ (by exact W64_lo _) (by assumption) (by decide)).mono ?_; rintro e u6 ⟨rfl, ho⟩; have hzu6 := Below.size ho; (try simp at hzu6); have HB2 : Hid (Below w.heap.size w u6) := Lib.hid (Below.trans (by exact pBl) (Below.mono ho pSd)); (try clear HB); have HB := HB2; clear HB2; have B2 := blk_below (g := w.heap.size) ho pSd; (try simp (disch := first | omega | (simp; done) | (simp; omega)) only [pBk] at B2); (try rw [Hid.out B_b] at B2); (try simp only [pBk] at B2); (try clear c_b f_b r_b B_b); obtain ⟨c_b, f_b, l_u6_b, r_b, B_b⟩ := blk_all B2; clear B2; clear ho)
  (try go_wp2_with fail)
  refine hK.out _ _ ?_ (fun hHeld => ?_)
  · exact pKp
  clear hK K
  (try simp only [pLy])
  refine Gw.tk 31 rfl ?_
  (try simp only [pLy])
  refine Gw.tk 32 rfl ?_
  (try simp only [pLy])
  refine Gw.tk 33 rfl ?_
  (try simp only [pLy])
  refine Gw.ts 34 rfl ?_
  (try simp only [pLy])
  refine Gw.ts 35 rfl ?_
  (try simp only [pLy])
  refine Gw.one (i := 36) rfl (by kernel_rfl) (fun K hK => ?_)
  go_simp
  refine hK.out _ _ ?_ (fun hHeld => ?_)
  · exact pKp
  clear hK K
  (try simp only [pLy])
  refine Gw.ts 37 rfl ?_
  (try simp only [pLy])
  refine Gw.tk 38 rfl ?_
  (try simp only [pLy])
  refine Gw.tk 39 rfl ?_
  (try simp only [pLy])
  refine Gw.ts 40 rfl ?_
  (try simp only [pLy])
  refine Gw.ts 41 rfl ?_
  (try simp only [pLy])
  refine Gw.one (i := 42) rfl (by kernel_rfl) (fun K hK => ?_)
  go_simp
  refine hK.out _ _ ?_ (fun hHeld => ?_)
  · exact pKp
  clear hK K
  (try simp only [pLy])
  refine Gw.ts 43 rfl ?_
  (try simp only [pLy])
  refine Gw.last (i := 44) rfl (by kernel_rfl) (by decide) (fun K hK => ?_)
  go_simp
  refine hK.out _ _ ?_
  clear hK K
  (try simp only [pLy])
  refine Gw.done (by kernel_rfl) ?_ _
  all_goals go_wp2
  all_goals refine bodyPost_ret ?r rfl ⟨rfl, ?b⟩
  case r => simp (maxDischargeDepth := 9) [results, Try.results12, go_sem, *]
  case b => exact pBl

set_option maxRecDepth 100000 in
set_option maxHeartbeats 16000000 in
theorem mayBody_f5 (b : BodyI) (w : World) (hw : Wide b) (h0 : g0 b = true) (h1 : g1 b = true) (h2 : g2 b = true) (h3 : g3 b = true) (h4 : g4 b = true) (h5 : g5 b = false) :
    Calls Try.prog 12 #[.agg #[.int .i64 (hi b.mass), .int .u64 (lo b.mass), .int .i64 (hi b.radius), .int .u64 (lo b.radius), .int .i64 (hi b.x), .int .u64 (lo b.x), .int .i64 (hi b.y), .int .u64 (lo b.y), .int .i64 (hi b.px), .int .u64 (lo b.px), .int .i64 (hi b.py), .int .u64 (lo b.py), .int .i64 (hi b.fuel), .int .u64 (lo b.fuel), .int .i64 (hi b.rate), .int .u64 (lo b.rate), .int .i64 (hi b.exh), .int .u64 (lo b.exh), .int .i64 b.thr, .int .i64 b.head]] w fun e w' => e = .returned (.bool false) ∧ Below w.heap.size w w' := by
  have i1 := hw.mass
  have i2 := hw.radius
  have i3 := hw.x
  have i4 := hw.y
  have i5 := hw.px
  have i6 := hw.py
  have i7 := hw.fuel
  have i8 := hw.rate
  have i9 := hw.exh
  clear hw
  unfold g0 g1 g2 g3 g4 g5 at *
  go_enter Try.func12, Try.ntmps12
  go_wp2_with fail
  refine wp_region_G (fun w' => w'.cell? ⟨w.heap.size, 0, none⟩ = some (.int .i64 (hi b.mass)) ∧ w'.cell? ⟨w.heap.size, 1, none⟩ = some (.int .u64 (lo b.mass)) ∧ w'.cell? ⟨w.heap.size, 2, none⟩ = some (.int .i64 (hi b.radius)) ∧ w'.cell? ⟨w.heap.size, 3, none⟩ = some (.int .u64 (lo b.radius)) ∧ w'.cell? ⟨w.heap.size, 4, none⟩ = some (.int .i64 (hi b.x)) ∧ w'.cell? ⟨w.heap.size, 5, none⟩ = some (.int .u64 (lo b.x)) ∧ w'.cell? ⟨w.heap.size, 6, none⟩ = some (.int .i64 (hi b.y)) ∧ w'.cell? ⟨w.heap.size, 7, none⟩ = some (.int .u64 (lo b.y)) ∧ w'.cell? ⟨w.heap.size, 8, none⟩ = some (.int .i64 (hi b.px)) ∧ w'.cell? ⟨w.heap.size, 9, none⟩ = some (.int .u64 (lo b.px)) ∧ w'.cell? ⟨w.heap.size, 10, none⟩ = some (.int .i64 (hi b.py)) ∧ w'.cell? ⟨w.heap.size, 11, none⟩ = some (.int .u64 (lo b.py)) ∧ w'.cell? ⟨w.heap.size, 12, none⟩ = some (.int .i64 (hi b.fuel)) ∧ w'.cell? ⟨w.heap.size, 13, none⟩ = some (.int .u64 (lo b.fuel)) ∧ w'.cell? ⟨w.heap.size, 14, none⟩ = some (.int .i64 (hi b.rate)) ∧ w'.cell? ⟨w.heap.size, 15, none⟩ = some (.int .u64 (lo b.rate)) ∧ w'.cell? ⟨w.heap.size, 16, none⟩ = some (.int .i64 (hi b.exh)) ∧ w'.cell? ⟨w.heap.size, 17, none⟩ = some (.int .u64 (lo b.exh))) 44 (by kernel_rfl) ?_ (fun hHeld => ?_)
  · exact pKp
  refine Gw.tk 0 rfl ?_
  (try simp only [pLy])
  refine Gw.tk 1 rfl ?_
  (try simp only [pLy])
  refine Gw.tk 2 rfl ?_
  (try simp only [pLy])
  refine Gw.one (i := 3) rfl (by kernel_rfl) (fun K hK => ?_)
  go_simp
  (go_at_call 15; refine (r1_Int _ _ (by decide)).mono ?_; rintro e u1 ⟨rfl, ho⟩; have hzu1 := Below.size ho; (try simp at hzu1); have HB2 : Hid (Below w.heap.size w u1) := Lib.hid (Below.trans (by exact pBl) (Below.mono ho pSd)); (try clear HB); have HB := HB2; clear HB2; have B2 := blk_below (g := w.heap.size) ho pSd; (try simp (disch := first | omega | (simp; done) | (simp; omega)) only [pBk] at B2); (try rw [Hid.out B_b] at B2); (try simp only [pBk] at B2); (try clear c_b f_b r_b B_b); obtain ⟨c_b, f_b, l_u1_b, r_b, B_b⟩ := blk_all B2; clear B2; clear ho)
  (try go_wp2_with fail)
  refine hK.out _ _ ?_ (fun hHeld => ?_)
  · exact pKp
  clear hK K
  (try simp only [pLy])
  refine Gw.one (i := 4) rfl (by kernel_rfl) (fun K hK => ?_)
  go_simp
  (go_at_call 41; refine (r22_from _ _ _ _ _ _ _ (by exact W64_lo _) (by assumption) (by first | exact W64_48 | exact W64_0) (by first | exact W64_0 | exact W64_lo _)).mono ?_; rintro e u2 ⟨rfl, ho⟩; have hzu2 := Below.size ho; (try simp at hzu2); have HB2 : Hid (Below w.heap.size w u2) := Lib.hid (Below.trans (by exact pBl) (Below.mono ho pSd)); (try clear HB); have HB := HB2; clear HB2; have B2 := blk_below (g := w.heap.size) ho pSd; (try simp (disch := first | omega | (simp; done) | (simp; omega)) only [pBk] at B2); (try rw [Hid.out B_b] at B2); (try simp only [pBk] at B2); (try clear c_b f_b r_b B_b); obtain ⟨c_b, f_b, l_u2_b, r_b, B_b⟩ := blk_all B2; clear B2; clear ho)
  (try go_wp2_with fail)
  refine hK.out _ _ ?_ (fun hHeld => ?_)
  · exact pKp
  clear hK K
  (try simp only [pLy])
  refine Gw.tk 5 rfl ?_
  (try simp only [pLy])
  refine Gw.tk 6 rfl ?_
  (try simp only [pLy])
  refine Gw.tk 7 rfl ?_
  (try simp only [pLy])
  refine Gw.tk 8 rfl ?_
  (try simp only [pLy])
  refine Gw.one (i := 9) rfl (by kernel_rfl) (fun K hK => ?_)
  go_simp
  (go_at_call 42; refine (r22_to _ _ _ _ (by exact W64_lo _) (by assumption) (by decide)).mono ?_; rintro e u3 ⟨rfl, ho⟩; have hzu3 := Below.size ho; (try simp at hzu3); have HB2 : Hid (Below w.heap.size w u3) := Lib.hid (Below.trans (by exact pBl) (Below.mono ho pSd)); (try clear HB); have HB := HB2; clear HB2; have B2 := blk_below (g := w.heap.size) ho pSd; (try simp (disch := first | omega | (simp; done) | (simp; omega)) only [pBk] at B2); (try rw [Hid.out B_b] at B2); (try simp only [pBk] at B2); (try clear c_b f_b r_b B_b); obtain ⟨c_b, f_b, l_u3_b, r_b, B_b⟩ := blk_all B2; clear B2; clear ho)
  (try go_wp2_with fail)
  refine hK.out _ _ ?_ (fun hHeld => ?_)
  · exact pKp
  clear hK K
  (try simp only [pLy])
  refine Gw.tk 10 rfl ?_
  (try simp only [pLy])
  refine Gw.tk 11 rfl ?_
  (try simp only [pLy])
  refine Gw.tk 12 rfl ?_
  (try simp only [pLy])
  refine Gw.tk 13 rfl ?_
  (try simp only [pLy])
  refine Gw.tk 14 rfl ?_
  (try simp only [pLy])
  refine Gw.tk 15 rfl ?_
  (try simp only [pLy])
  refine Gw.tk 16 rfl ?_
  (try simp only [pLy])
  refine Gw.tk 17 rfl ?_
  (try simp only [pLy])
  refine Gw.one (i := 18) rfl (by kernel_rfl) (fun K hK => ?_)
  go_simp
  (go_at_call 41; refine (r22_from _ _ _ _ _ _ _ (by exact W64_lo _) (by assumption) (by first | exact W64_48 | exact W64_0) (by first | exact W64_0 | exact W64_lo _)).mono ?_; rintro e u4 ⟨rfl, ho⟩; have hzu4 := Below.size ho; (try simp at hzu4); have HB2 : Hid (Below w.heap.size w u4) := Lib.hid (Below.trans (by exact pBl) (Below.mono ho pSd)); (try clear HB); have HB := HB2; clear HB2; have B2 := blk_below (g := w.heap.size) ho pSd; (try simp (disch := first | omega | (simp; done) | (simp; omega)) only [pBk] at B2); (try rw [Hid.out B_b] at B2); (try simp only [pBk] at B2); (try clear c_b f_b r_b B_b); obtain ⟨c_b, f_b, l_u4_b, r_b, B_b⟩ := blk_all B2; clear B2; clear ho)
  (try go_wp2_with fail)
  refine hK.out _ _ ?_ (fun hHeld => ?_)
  · exact pKp
  clear hK K
  (try simp only [pLy])
  refine Gw.tk 19 rfl ?_
  (try simp only [pLy])
  refine Gw.tk 20 rfl ?_
  (try simp only [pLy])
  refine Gw.tk 21 rfl ?_
  (try simp only [pLy])
  refine Gw.tk 22 rfl ?_
  (try simp only [pLy])
  refine Gw.tk 23 rfl ?_
  (try simp only [pLy])
  refine Gw.one (i := 24) rfl (by kernel_rfl) (fun K hK => ?_)
  go_simp
  (go_at_call 42; refine (r22_to _ _ _ _ (by exact W64_lo _) (by assumption) (by decide)).mono ?_; rintro e u5 ⟨rfl, ho⟩; have hzu5 := Below.size ho; (try simp at hzu5); have HB2 : Hid (Below w.heap.size w u5) := Lib.hid (Below.trans (by exact pBl) (Below.mono ho pSd)); (try clear HB); have HB := HB2; clear HB2; have B2 := blk_below (g := w.heap.size) ho pSd; (try simp (disch := first | omega | (simp; done) | (simp; omega)) only [pBk] at B2); (try rw [Hid.out B_b] at B2); (try simp only [pBk] at B2); (try clear c_b f_b r_b B_b); obtain ⟨c_b, f_b, l_u5_b, r_b, B_b⟩ := blk_all B2; clear B2; clear ho)
  (try go_wp2_with fail)
  refine hK.out _ _ ?_ (fun hHeld => ?_)
  · exact pKp
  clear hK K
  (try simp only [pLy])
  refine Gw.tk 25 rfl ?_
  (try simp only [pLy])
  refine Gw.tk 26 rfl ?_
  (try simp only [pLy])
  refine Gw.tk 27 rfl ?_
  (try simp only [pLy])
  refine Gw.tk 28 rfl ?_
  (try simp only [pLy])
  refine Gw.tk 29 rfl ?_
  (try simp only [pLy])
  refine Gw.one (i := 30) rfl (by kernel_rfl) (fun K hK => ?_)
  go_simp
  (go_at_call 42; refine (r22_to _ _ _ _ (by exact W64_lo _) (by assumption) (by decide)).mono ?_; rintro e u6 ⟨rfl, ho⟩; have hzu6 := Below.size ho; (try simp at hzu6); have HB2 : Hid (Below w.heap.size w u6) := Lib.hid (Below.trans (by exact pBl) (Below.mono ho pSd)); (try clear HB); have HB := HB2; clear HB2; have B2 := blk_below (g := w.heap.size) ho pSd; (try simp (disch := first | omega | (simp; done) | (simp; omega)) only [pBk] at B2); (try rw [Hid.out B_b] at B2); (try simp only [pBk] at B2); (try clear c_b f_b r_b B_b); obtain ⟨c_b, f_b, l_u6_b, r_b, B_b⟩ := blk_all B2; clear B2; clear ho)
  (try go_wp2_with fail)
  refine hK.out _ _ ?_ (fun hHeld => ?_)
  · exact pKp
  clear hK K
  (try simp only [pLy])
  refine Gw.tk 31 rfl ?_
  (try simp only [pLy])
  refine Gw.tk 32 rfl ?_
  (try simp only [pLy])
  refine Gw.tk 33 rfl ?_
  (try simp only [pLy])
  refine Gw.tk 34 rfl ?_
  (try simp only [pLy])
  refine Gw.tk 35 rfl ?_
  (try simp only [pLy])
  refine Gw.one (i := 36) rfl (by kernel_rfl) (fun K hK => ?_)
  go_simp
  (go_at_call 43; refine (r1_MayVec _ _ _ _ _ (by exact W64_lo _) (by exact W64_lo _) (by assumption) (by assumption)).mono ?_; rintro e u7 ⟨rfl, ho⟩; have hzu7 := Below.size ho; (try simp at hzu7); have HB2 : Hid (Below w.heap.size w u7) := Lib.hid (Below.trans (by exact pBl) (Below.mono ho pSd)); (try clear HB); have HB := HB2; clear HB2; have B2 := blk_below (g := w.heap.size) ho pSd; (try simp (disch := first | omega | (simp; done) | (simp; omega)) only [pBk] at B2); (try rw [Hid.out B_b] at B2); (try simp only [pBk] at B2); (try clear c_b f_b r_b B_b); obtain ⟨c_b, f_b, l_u7_b, r_b, B_b⟩ := blk_all B2; clear B2; clear ho)
  (try go_wp2_with fail)
  refine hK.out _ _ ?_ (fun hHeld => ?_)
  · exact pKp
  clear hK K
  (try simp only [pLy])
  refine Gw.tk 37 rfl ?_
  (try simp only [pLy])
  refine Gw.tk 38 rfl ?_
  (try simp only [pLy])
  refine Gw.tk 39 rfl ?_
  (try simp only [pLy])
  refine Gw.ts 40 rfl ?_
  (try simp only [pLy])
  refine Gw.ts 41 rfl ?_
  (try simp only [pLy])
  refine Gw.one (i := 42) rfl (by kernel_rfl) (fun K hK => ?_)
  go_simp
  refine hK.out _ _ ?_ (fun hHeld => ?_)
  · exact pKp
  clear hK K
  (try simp only [pLy])
  refine Gw.ts 43 rfl ?_
  (try simp only [pLy])
  refine Gw.last (i := 44) rfl (by kernel_rfl) (by decide) (fun K hK => ?_)
  go_simp
  refine hK.out _ _ ?_
  clear hK K
  (try simp only [pLy])
  refine Gw.done (by kernel_rfl) ?_ _
  all_goals go_wp2
  all_goals refine bodyPost_ret ?r rfl ⟨rfl, ?b⟩
  case r => simp (maxDischargeDepth := 9) [results, Try.results12, go_sem, *]
  case b => exact pBl

set_option maxRecDepth 100000 in
set_option maxHeartbeats 16000000 in
theorem mayBody_f6 (b : BodyI) (w : World) (hw : Wide b) (h0 : g0 b = true) (h1 : g1 b = true) (h2 : g2 b = true) (h3 : g3 b = true) (h4 : g4 b = true) (h5 : g5 b = true) (h6 : g6 b = false) :
    Calls Try.prog 12 #[.agg #[.int .i64 (hi b.mass), .int .u64 (lo b.mass), .int .i64 (hi b.radius), .int .u64 (lo b.radius), .int .i64 (hi b.x), .int .u64 (lo b.x), .int .i64 (hi b.y), .int .u64 (lo b.y), .int .i64 (hi b.px), .int .u64 (lo b.px), .int .i64 (hi b.py), .int .u64 (lo b.py), .int .i64 (hi b.fuel), .int .u64 (lo b.fuel), .int .i64 (hi b.rate), .int .u64 (lo b.rate), .int .i64 (hi b.exh), .int .u64 (lo b.exh), .int .i64 b.thr, .int .i64 b.head]] w fun e w' => e = .returned (.bool false) ∧ Below w.heap.size w w' := by
  have i1 := hw.mass
  have i2 := hw.radius
  have i3 := hw.x
  have i4 := hw.y
  have i5 := hw.px
  have i6 := hw.py
  have i7 := hw.fuel
  have i8 := hw.rate
  have i9 := hw.exh
  clear hw
  unfold g0 g1 g2 g3 g4 g5 g6 at *
  go_enter Try.func12, Try.ntmps12
  go_wp2_with fail
  refine wp_region_G (fun w' => w'.cell? ⟨w.heap.size, 0, none⟩ = some (.int .i64 (hi b.mass)) ∧ w'.cell? ⟨w.heap.size, 1, none⟩ = some (.int .u64 (lo b.mass)) ∧ w'.cell? ⟨w.heap.size, 2, none⟩ = some (.int .i64 (hi b.radius)) ∧ w'.cell? ⟨w.heap.size, 3, none⟩ = some (.int .u64 (lo b.radius)) ∧ w'.cell? ⟨w.heap.size, 4, none⟩ = some (.int .i64 (hi b.x)) ∧ w'.cell? ⟨w.heap.size, 5, none⟩ = some (.int .u64 (lo b.x)) ∧ w'.cell? ⟨w.heap.size, 6, none⟩ = some (.int .i64 (hi b.y)) ∧ w'.cell? ⟨w.heap.size, 7, none⟩ = some (.int .u64 (lo b.y)) ∧ w'.cell? ⟨w.heap.size, 8, none⟩ = some (.int .i64 (hi b.px)) ∧ w'.cell? ⟨w.heap.size, 9, none⟩ = some (.int .u64 (lo b.px)) ∧ w'.cell? ⟨w.heap.size, 10, none⟩ = some (.int .i64 (hi b.py)) ∧ w'.cell? ⟨w.heap.size, 11, none⟩ = some (.int .u64 (lo b.py)) ∧ w'.cell? ⟨w.heap.size, 12, none⟩ = some (.int .i64 (hi b.fuel)) ∧ w'.cell? ⟨w.heap.size, 13, none⟩ = some (.int .u64 (lo b.fuel)) ∧ w'.cell? ⟨w.heap.size, 14, none⟩ = some (.int .i64 (hi b.rate)) ∧ w'.cell? ⟨w.heap.size, 15, none⟩ = some (.int .u64 (lo b.rate)) ∧ w'.cell? ⟨w.heap.size, 16, none⟩ = some (.int .i64 (hi b.exh)) ∧ w'.cell? ⟨w.heap.size, 17, none⟩ = some (.int .u64 (lo b.exh))) 44 (by kernel_rfl) ?_ (fun hHeld => ?_)
  · exact pKp
  refine Gw.tk 0 rfl ?_
  (try simp only [pLy])
  refine Gw.tk 1 rfl ?_
  (try simp only [pLy])
  refine Gw.tk 2 rfl ?_
  (try simp only [pLy])
  refine Gw.one (i := 3) rfl (by kernel_rfl) (fun K hK => ?_)
  go_simp
  (go_at_call 15; refine (r1_Int _ _ (by decide)).mono ?_; rintro e u1 ⟨rfl, ho⟩; have hzu1 := Below.size ho; (try simp at hzu1); have HB2 : Hid (Below w.heap.size w u1) := Lib.hid (Below.trans (by exact pBl) (Below.mono ho pSd)); (try clear HB); have HB := HB2; clear HB2; have B2 := blk_below (g := w.heap.size) ho pSd; (try simp (disch := first | omega | (simp; done) | (simp; omega)) only [pBk] at B2); (try rw [Hid.out B_b] at B2); (try simp only [pBk] at B2); (try clear c_b f_b r_b B_b); obtain ⟨c_b, f_b, l_u1_b, r_b, B_b⟩ := blk_all B2; clear B2; clear ho)
  (try go_wp2_with fail)
  refine hK.out _ _ ?_ (fun hHeld => ?_)
  · exact pKp
  clear hK K
  (try simp only [pLy])
  refine Gw.one (i := 4) rfl (by kernel_rfl) (fun K hK => ?_)
  go_simp
  (go_at_call 41; refine (r22_from _ _ _ _ _ _ _ (by exact W64_lo _) (by assumption) (by first | exact W64_48 | exact W64_0) (by first | exact W64_0 | exact W64_lo _)).mono ?_; rintro e u2 ⟨rfl, ho⟩; have hzu2 := Below.size ho; (try simp at hzu2); have HB2 : Hid (Below w.heap.size w u2) := Lib.hid (Below.trans (by exact pBl) (Below.mono ho pSd)); (try clear HB); have HB := HB2; clear HB2; have B2 := blk_below (g := w.heap.size) ho pSd; (try simp (disch := first | omega | (simp; done) | (simp; omega)) only [pBk] at B2); (try rw [Hid.out B_b] at B2); (try simp only [pBk] at B2); (try clear c_b f_b r_b B_b); obtain ⟨c_b, f_b, l_u2_b, r_b, B_b⟩ := blk_all B2; clear B2; clear ho)
  (try go_wp2_with fail)
  refine hK.out _ _ ?_ (fun hHeld => ?_)
  · exact pKp
  clear hK K
  (try simp only [pLy])
  refine Gw.tk 5 rfl ?_
  (try simp only [pLy])
  refine Gw.tk 6 rfl ?_
  (try simp only [pLy])
  refine Gw.tk 7 rfl ?_
  (try simp only [pLy])
  refine Gw.tk 8 rfl ?_
  (try simp only [pLy])
  refine Gw.one (i := 9) rfl (by kernel_rfl) (fun K hK => ?_)
  go_simp
  (go_at_call 42; refine (r22_to _ _ _ _ (by exact W64_lo _) (by assumption) (by decide)).mono ?_; rintro e u3 ⟨rfl, ho⟩; have hzu3 := Below.size ho; (try simp at hzu3); have HB2 : Hid (Below w.heap.size w u3) := Lib.hid (Below.trans (by exact pBl) (Below.mono ho pSd)); (try clear HB); have HB := HB2; clear HB2; have B2 := blk_below (g := w.heap.size) ho pSd; (try simp (disch := first | omega | (simp; done) | (simp; omega)) only [pBk] at B2); (try rw [Hid.out B_b] at B2); (try simp only [pBk] at B2); (try clear c_b f_b r_b B_b); obtain ⟨c_b, f_b, l_u3_b, r_b, B_b⟩ := blk_all B2; clear B2; clear ho)
  (try go_wp2_with fail)
  refine hK.out _ _ ?_ (fun hHeld => ?_)
  · exact pKp
  clear hK K
  (try simp only [pLy])
  refine Gw.tk 10 rfl ?_
  (try simp only [pLy])
  refine Gw.tk 11 rfl ?_
  (try simp only [pLy])
  refine Gw.tk 12 rfl ?_
  (try simp only [pLy])
  refine Gw.tk 13 rfl ?_
  (try simp only [pLy])
  refine Gw.tk 14 rfl ?_
  (try simp only [pLy])
  refine Gw.tk 15 rfl ?_
  (try simp only [pLy])
  refine Gw.tk 16 rfl ?_
  (try simp only [pLy])
  refine Gw.tk 17 rfl ?_
  (try simp only [pLy])
  refine Gw.one (i := 18) rfl (by kernel_rfl) (fun K hK => ?_)
  go_simp
  (go_at_call 41; refine (r22_from _ _ _ _ _ _ _ (by exact W64_lo _) (by assumption) (by first | exact W64_48 | exact W64_0) (by first | exact W64_0 | exact W64_lo _)).mono ?_; rintro e u4 ⟨rfl, ho⟩; have hzu4 := Below.size ho; (try simp at hzu4); have HB2 : Hid (Below w.heap.size w u4) := Lib.hid (Below.trans (by exact pBl) (Below.mono ho pSd)); (try clear HB); have HB := HB2; clear HB2; have B2 := blk_below (g := w.heap.size) ho pSd; (try simp (disch := first | omega | (simp; done) | (simp; omega)) only [pBk] at B2); (try rw [Hid.out B_b] at B2); (try simp only [pBk] at B2); (try clear c_b f_b r_b B_b); obtain ⟨c_b, f_b, l_u4_b, r_b, B_b⟩ := blk_all B2; clear B2; clear ho)
  (try go_wp2_with fail)
  refine hK.out _ _ ?_ (fun hHeld => ?_)
  · exact pKp
  clear hK K
  (try simp only [pLy])
  refine Gw.tk 19 rfl ?_
  (try simp only [pLy])
  refine Gw.tk 20 rfl ?_
  (try simp only [pLy])
  refine Gw.tk 21 rfl ?_
  (try simp only [pLy])
  refine Gw.tk 22 rfl ?_
  (try simp only [pLy])
  refine Gw.tk 23 rfl ?_
  (try simp only [pLy])
  refine Gw.one (i := 24) rfl (by kernel_rfl) (fun K hK => ?_)
  go_simp
  (go_at_call 42; refine (r22_to _ _ _ _ (by exact W64_lo _) (by assumption) (by decide)).mono ?_; rintro e u5 ⟨rfl, ho⟩; have hzu5 := Below.size ho; (try simp at hzu5); have HB2 : Hid (Below w.heap.size w u5) := Lib.hid (Below.trans (by exact pBl) (Below.mono ho pSd)); (try clear HB); have HB := HB2; clear HB2; have B2 := blk_below (g := w.heap.size) ho pSd; (try simp (disch := first | omega | (simp; done) | (simp; omega)) only [pBk] at B2); (try rw [Hid.out B_b] at B2); (try simp only [pBk] at B2); (try clear c_b f_b r_b B_b); obtain ⟨c_b, f_b, l_u5_b, r_b, B_b⟩ := blk_all B2; clear B2; clear ho)
  (try go_wp2_with fail)
  refine hK.out _ _ ?_ (fun hHeld => ?_)
  · exact pKp
  clear hK K
  (try simp only [pLy])
  refine Gw.tk 25 rfl ?_
  (try simp only [pLy])
  refine Gw.tk 26 rfl ?_
  (try simp only [pLy])
  refine Gw.tk 27 rfl ?_
  (try simp only [pLy])
  refine Gw.tk 28 rfl ?_
  (try simp only [pLy])
  refine Gw.tk 29 rfl ?_
  (try simp only [pLy])
  refine Gw.one (i := 30) rfl (by kernel_rfl) (fun K hK => ?_)
  go_simp
  (go_at_call 42; refine (r22_to _ _ _ _ (by exact W64_lo _) (by assumption) (by decide)).mono ?_; rintro e u6 ⟨rfl, ho⟩; have hzu6 := Below.size ho; (try simp at hzu6); have HB2 : Hid (Below w.heap.size w u6) := Lib.hid (Below.trans (by exact pBl) (Below.mono ho pSd)); (try clear HB); have HB := HB2; clear HB2; have B2 := blk_below (g := w.heap.size) ho pSd; (try simp (disch := first | omega | (simp; done) | (simp; omega)) only [pBk] at B2); (try rw [Hid.out B_b] at B2); (try simp only [pBk] at B2); (try clear c_b f_b r_b B_b); obtain ⟨c_b, f_b, l_u6_b, r_b, B_b⟩ := blk_all B2; clear B2; clear ho)
  (try go_wp2_with fail)
  refine hK.out _ _ ?_ (fun hHeld => ?_)
  · exact pKp
  clear hK K
  (try simp only [pLy])
  refine Gw.tk 31 rfl ?_
  (try simp only [pLy])
  refine Gw.tk 32 rfl ?_
  (try simp only [pLy])
  refine Gw.tk 33 rfl ?_
  (try simp only [pLy])
  refine Gw.tk 34 rfl ?_
  (try simp only [pLy])
  refine Gw.tk 35 rfl ?_
  (try simp only [pLy])
  refine Gw.one (i := 36) rfl (by kernel_rfl) (fun K hK => ?_)
  go_simp
  (go_at_call 43; refine (r1_MayVec _ _ _ _ _ (by exact W64_lo _) (by exact W64_lo _) (by assumption) (by assumption)).mono ?_; rintro e u7 ⟨rfl, ho⟩; have hzu7 := Below.size ho; (try simp at hzu7); have HB2 : Hid (Below w.heap.size w u7) := Lib.hid (Below.trans (by exact pBl) (Below.mono ho pSd)); (try clear HB); have HB := HB2; clear HB2; have B2 := blk_below (g := w.heap.size) ho pSd; (try simp (disch := first | omega | (simp; done) | (simp; omega)) only [pBk] at B2); (try rw [Hid.out B_b] at B2); (try simp only [pBk] at B2); (try clear c_b f_b r_b B_b); obtain ⟨c_b, f_b, l_u7_b, r_b, B_b⟩ := blk_all B2; clear B2; clear ho)
  (try go_wp2_with fail)
  refine hK.out _ _ ?_ (fun hHeld => ?_)
  · exact pKp
  clear hK K
  (try simp only [pLy])
  refine Gw.tk 37 rfl ?_
  (try simp only [pLy])
  refine Gw.tk 38 rfl ?_
  (try simp only [pLy])
  refine Gw.tk 39 rfl ?_
  (try simp only [pLy])
  refine Gw.tk 40 rfl ?_
  (try simp only [pLy])
  refine Gw.tk 41 rfl ?_
  (try simp only [pLy])
  refine Gw.one (i := 42) rfl (by kernel_rfl) (fun K hK => ?_)
  go_simp
  (go_at_call 43; refine (r1_MayVec _ _ _ _ _ (by exact W64_lo _) (by exact W64_lo _) (by assumption) (by assumption)).mono ?_; rintro e u8 ⟨rfl, ho⟩; have hzu8 := Below.size ho; (try simp at hzu8); have HB2 : Hid (Below w.heap.size w u8) := Lib.hid (Below.trans (by exact pBl) (Below.mono ho pSd)); (try clear HB); have HB := HB2; clear HB2; have B2 := blk_below (g := w.heap.size) ho pSd; (try simp (disch := first | omega | (simp; done) | (simp; omega)) only [pBk] at B2); (try rw [Hid.out B_b] at B2); (try simp only [pBk] at B2); (try clear c_b f_b r_b B_b); obtain ⟨c_b, f_b, l_u8_b, r_b, B_b⟩ := blk_all B2; clear B2; clear ho)
  (try go_wp2_with fail)
  refine hK.out _ _ ?_ (fun hHeld => ?_)
  · exact pKp
  clear hK K
  (try simp only [pLy])
  refine Gw.tk 43 rfl ?_
  (try simp only [pLy])
  refine Gw.last (i := 44) rfl (by kernel_rfl) (by decide) (fun K hK => ?_)
  go_simp
  refine hK.out _ _ ?_
  clear hK K
  (try simp only [pLy])
  refine Gw.done (by kernel_rfl) ?_ _
  all_goals go_wp2
  all_goals refine bodyPost_ret ?r rfl ⟨rfl, ?b⟩
  case r => simp (maxDischargeDepth := 9) [results, Try.results12, go_sem, *]
  case b => exact pBl
end Go.Proofs.Ytdphhkbbphfjlaa
