/- The walks of the reference's bodies: from, to, within, beyond, Inside, Speed, Slow. -/
import Derived.Test.YtdphhkbbphfjlaaRefJ
import Derived.Test.YtdphhkbbphfjlaaBodyB
set_option linter.unusedVariables false
set_option linter.unusedSimpArgs false
namespace Go.Proofs.Ytdphhkbbphfjlaa
open Go.RowKit
attribute [local go_sem] uwrap_lo lo_lo hi_lo val_hl val_00 v4_q
attribute [local go_sem ↓] Go.wp_at_zero Go.wp_at_succ
attribute [local go_sem] fld_sum0 fld_sum1
attribute [local go_sem] nOf_ok nOf_err eOf_ok eOf_err xOf_ok yOf_ok xOf_err yOf_err vecX_ok vecX_err vecX_ok_err hi_z lo_z
attribute [local go_sem ↓] loadRow_body
attribute [local go_sem] rowAt_at rowAt_past rowAt_drew rowAt_far run_load_body
theorem cmpI_gt' (a b : Int) : decide (0 < cmpI a b) = decide (b < a) := by
  rw [decide_eq_decide]; unfold cmpI; split
  · omega
  · split <;> omega
theorem cmpI_lt' (a b : Int) : decide (cmpI a b < 0) = decide (a < b) := by
  rw [decide_eq_decide]; unfold cmpI; split
  · omega
  · split <;> omega
theorem cmpI_ge' (a b : Int) : decide (0 ≤ cmpI a b) = decide (b ≤ a) := by
  rw [decide_eq_decide]; unfold cmpI; split
  · omega
  · split <;> omega
theorem cmpI_le' (a b : Int) : decide (cmpI a b ≤ 0) = decide (a ≤ b) := by
  rw [decide_eq_decide]; unfold cmpI; split
  · omega
  · split <;> omega
attribute [local go_sem] cmpI_gt' cmpI_lt' cmpI_ge' cmpI_le'
/-- is a number so? -/
def fromB (a l m : Int) : Bool := decide (R a) && decide (l ≤ a) && decide (a ≤ m)

set_option maxRecDepth 100000 in
set_option maxHeartbeats 2000000 in
theorem r22_from (ah al bh bl ch cl : Int) (w : World) (h1 : W64 al) (i1 : I64 ah) (h2 : W64 bl) (h3 : W64 cl) :
    Calls Try.prog 41 #[.agg #[.int .i64 ah, .int .u64 al], .agg #[.int .i64 bh, .int .u64 bl], .agg #[.int .i64 ch, .int .u64 cl]] w fun e w' => e = .returned (.bool (fromB (val ah al) (val bh bl) (val ch cl))) ∧ Below w.heap.size w w' := by
  unfold fromB
  by_cases c1 : R (val ah al)
  · have d1 := decide_eq_true c1
    clear c1
    by_cases c2 : val bh bl ≤ val ah al
    · have d2 := decide_eq_true c2
      clear c2
      go_enter Try.func41, Try.ntmps41
      go_wp2_with (first | (go_at_call 13; refine (r1_May _ _ _ (by assumption) (by assumption)).mono ?_; rintro e u1 ⟨rfl, ho⟩; have hzu1 := Below.size ho; (try simp at hzu1); have HB2 : Hid (Below w.heap.size w u1) := Lib.hid (Below.trans (by exact pBl) (Below.mono ho pSd)); (try clear HB); have HB := HB2; clear HB2; have B2 := blk_below (g := w.heap.size) ho pSd; (try simp (disch := first | omega | (simp; done) | (simp; omega)) only [pBk] at B2); (try rw [Hid.out B_a] at B2); (try simp only [pBk] at B2); (try clear c_a f_a r_a B_a); obtain ⟨c_a, f_a, l_u1_a, r_a, B_a⟩ := blk_all B2; clear B2; have B2 := blk_below (g := w.heap.size + 1) ho pSd; (try simp (disch := first | omega | (simp; done) | (simp; omega)) only [pBk] at B2); (try rw [Hid.out B_b] at B2); (try simp only [pBk] at B2); (try clear c_b f_b r_b B_b); obtain ⟨c_b, f_b, l_u1_b, r_b, B_b⟩ := blk_all B2; clear B2; have B2 := blk_below (g := w.heap.size + 1 + 1) ho pSd; (try simp (disch := first | omega | (simp; done) | (simp; omega)) only [pBk] at B2); (try rw [Hid.out B_c] at B2); (try simp only [pBk] at B2); (try clear c_c f_c r_c B_c); obtain ⟨c_c, f_c, l_u1_c, r_c, B_c⟩ := blk_all B2; clear B2; clear ho) | (go_at_call 14; refine (r1_Cmp _ _ _ _ _ (by assumption) (by assumption)).mono ?_; rintro e u2 ⟨rfl, ho⟩; have hzu2 := Below.size ho; (try simp at hzu2); have HB2 : Hid (Below w.heap.size w u2) := Lib.hid (Below.trans (by exact pBl) (Below.mono ho pSd)); (try clear HB); have HB := HB2; clear HB2; have B2 := blk_below (g := w.heap.size) ho pSd; (try simp (disch := first | omega | (simp; done) | (simp; omega)) only [pBk] at B2); (try rw [Hid.out B_a] at B2); (try simp only [pBk] at B2); (try clear c_a f_a r_a B_a); obtain ⟨c_a, f_a, l_u2_a, r_a, B_a⟩ := blk_all B2; clear B2; have B2 := blk_below (g := w.heap.size + 1) ho pSd; (try simp (disch := first | omega | (simp; done) | (simp; omega)) only [pBk] at B2); (try rw [Hid.out B_b] at B2); (try simp only [pBk] at B2); (try clear c_b f_b r_b B_b); obtain ⟨c_b, f_b, l_u2_b, r_b, B_b⟩ := blk_all B2; clear B2; have B2 := blk_below (g := w.heap.size + 1 + 1) ho pSd; (try simp (disch := first | omega | (simp; done) | (simp; omega)) only [pBk] at B2); (try rw [Hid.out B_c] at B2); (try simp only [pBk] at B2); (try clear c_c f_c r_c B_c); obtain ⟨c_c, f_c, l_u2_c, r_c, B_c⟩ := blk_all B2; clear B2; clear ho))
      all_goals refine bodyPost_ret ?r rfl ⟨rfl, ?b⟩
      case r => simp (maxDischargeDepth := 9) [results, Try.results41, go_sem, *]
      case b => exact pBl
    · have d2 := decide_eq_false c2
      clear c2
      go_enter Try.func41, Try.ntmps41
      go_wp2_with (first | (go_at_call 13; refine (r1_May _ _ _ (by assumption) (by assumption)).mono ?_; rintro e u1 ⟨rfl, ho⟩; have hzu1 := Below.size ho; (try simp at hzu1); have HB2 : Hid (Below w.heap.size w u1) := Lib.hid (Below.trans (by exact pBl) (Below.mono ho pSd)); (try clear HB); have HB := HB2; clear HB2; have B2 := blk_below (g := w.heap.size) ho pSd; (try simp (disch := first | omega | (simp; done) | (simp; omega)) only [pBk] at B2); (try rw [Hid.out B_a] at B2); (try simp only [pBk] at B2); (try clear c_a f_a r_a B_a); obtain ⟨c_a, f_a, l_u1_a, r_a, B_a⟩ := blk_all B2; clear B2; have B2 := blk_below (g := w.heap.size + 1) ho pSd; (try simp (disch := first | omega | (simp; done) | (simp; omega)) only [pBk] at B2); (try rw [Hid.out B_b] at B2); (try simp only [pBk] at B2); (try clear c_b f_b r_b B_b); obtain ⟨c_b, f_b, l_u1_b, r_b, B_b⟩ := blk_all B2; clear B2; have B2 := blk_below (g := w.heap.size + 1 + 1) ho pSd; (try simp (disch := first | omega | (simp; done) | (simp; omega)) only [pBk] at B2); (try rw [Hid.out B_c] at B2); (try simp only [pBk] at B2); (try clear c_c f_c r_c B_c); obtain ⟨c_c, f_c, l_u1_c, r_c, B_c⟩ := blk_all B2; clear B2; clear ho) | (go_at_call 14; refine (r1_Cmp _ _ _ _ _ (by assumption) (by assumption)).mono ?_; rintro e u2 ⟨rfl, ho⟩; have hzu2 := Below.size ho; (try simp at hzu2); have HB2 : Hid (Below w.heap.size w u2) := Lib.hid (Below.trans (by exact pBl) (Below.mono ho pSd)); (try clear HB); have HB := HB2; clear HB2; have B2 := blk_below (g := w.heap.size) ho pSd; (try simp (disch := first | omega | (simp; done) | (simp; omega)) only [pBk] at B2); (try rw [Hid.out B_a] at B2); (try simp only [pBk] at B2); (try clear c_a f_a r_a B_a); obtain ⟨c_a, f_a, l_u2_a, r_a, B_a⟩ := blk_all B2; clear B2; have B2 := blk_below (g := w.heap.size + 1) ho pSd; (try simp (disch := first | omega | (simp; done) | (simp; omega)) only [pBk] at B2); (try rw [Hid.out B_b] at B2); (try simp only [pBk] at B2); (try clear c_b f_b r_b B_b); obtain ⟨c_b, f_b, l_u2_b, r_b, B_b⟩ := blk_all B2; clear B2; have B2 := blk_below (g := w.heap.size + 1 + 1) ho pSd; (try simp (disch := first | omega | (simp; done) | (simp; omega)) only [pBk] at B2); (try rw [Hid.out B_c] at B2); (try simp only [pBk] at B2); (try clear c_c f_c r_c B_c); obtain ⟨c_c, f_c, l_u2_c, r_c, B_c⟩ := blk_all B2; clear B2; clear ho))
      all_goals refine bodyPost_ret ?r rfl ⟨rfl, ?b⟩
      case r => simp (maxDischargeDepth := 9) [results, Try.results41, go_sem, *]
      case b => exact pBl
  · have d1 := decide_eq_false c1
    clear c1
    go_enter Try.func41, Try.ntmps41
    go_wp2_with (first | (go_at_call 13; refine (r1_May _ _ _ (by assumption) (by assumption)).mono ?_; rintro e u1 ⟨rfl, ho⟩; have hzu1 := Below.size ho; (try simp at hzu1); have HB2 : Hid (Below w.heap.size w u1) := Lib.hid (Below.trans (by exact pBl) (Below.mono ho pSd)); (try clear HB); have HB := HB2; clear HB2; have B2 := blk_below (g := w.heap.size) ho pSd; (try simp (disch := first | omega | (simp; done) | (simp; omega)) only [pBk] at B2); (try rw [Hid.out B_a] at B2); (try simp only [pBk] at B2); (try clear c_a f_a r_a B_a); obtain ⟨c_a, f_a, l_u1_a, r_a, B_a⟩ := blk_all B2; clear B2; have B2 := blk_below (g := w.heap.size + 1) ho pSd; (try simp (disch := first | omega | (simp; done) | (simp; omega)) only [pBk] at B2); (try rw [Hid.out B_b] at B2); (try simp only [pBk] at B2); (try clear c_b f_b r_b B_b); obtain ⟨c_b, f_b, l_u1_b, r_b, B_b⟩ := blk_all B2; clear B2; have B2 := blk_below (g := w.heap.size + 1 + 1) ho pSd; (try simp (disch := first | omega | (simp; done) | (simp; omega)) only [pBk] at B2); (try rw [Hid.out B_c] at B2); (try simp only [pBk] at B2); (try clear c_c f_c r_c B_c); obtain ⟨c_c, f_c, l_u1_c, r_c, B_c⟩ := blk_all B2; clear B2; clear ho) | (go_at_call 14; refine (r1_Cmp _ _ _ _ _ (by assumption) (by assumption)).mono ?_; rintro e u2 ⟨rfl, ho⟩; have hzu2 := Below.size ho; (try simp at hzu2); have HB2 : Hid (Below w.heap.size w u2) := Lib.hid (Below.trans (by exact pBl) (Below.mono ho pSd)); (try clear HB); have HB := HB2; clear HB2; have B2 := blk_below (g := w.heap.size) ho pSd; (try simp (disch := first | omega | (simp; done) | (simp; omega)) only [pBk] at B2); (try rw [Hid.out B_a] at B2); (try simp only [pBk] at B2); (try clear c_a f_a r_a B_a); obtain ⟨c_a, f_a, l_u2_a, r_a, B_a⟩ := blk_all B2; clear B2; have B2 := blk_below (g := w.heap.size + 1) ho pSd; (try simp (disch := first | omega | (simp; done) | (simp; omega)) only [pBk] at B2); (try rw [Hid.out B_b] at B2); (try simp only [pBk] at B2); (try clear c_b f_b r_b B_b); obtain ⟨c_b, f_b, l_u2_b, r_b, B_b⟩ := blk_all B2; clear B2; have B2 := blk_below (g := w.heap.size + 1 + 1) ho pSd; (try simp (disch := first | omega | (simp; done) | (simp; omega)) only [pBk] at B2); (try rw [Hid.out B_c] at B2); (try simp only [pBk] at B2); (try clear c_c f_c r_c B_c); obtain ⟨c_c, f_c, l_u2_c, r_c, B_c⟩ := blk_all B2; clear B2; clear ho))
    all_goals refine bodyPost_ret ?r rfl ⟨rfl, ?b⟩
    case r => simp (maxDischargeDepth := 9) [results, Try.results41, go_sem, *]
    case b => exact pBl

set_option maxRecDepth 100000 in
set_option maxHeartbeats 2000000 in
theorem r22_to (ah al n : Int) (w : World) (h1 : W64 al) (i1 : I64 ah) (hn : 0 ≤ n) :
    Calls Try.prog 42 #[.agg #[.int .i64 ah, .int .u64 al], .int .i64 n] w fun e w' => e = .returned (.bool (fromB (val ah al) 0 (val n 0))) ∧ Below w.heap.size w w' := by
  go_enter Try.func42, Try.ntmps42
  go_wp2_with fail
  go_region_held3 (fun w' => w'.cell? ⟨w.heap.size, 0, none⟩ = some (.int .i64 ah) ∧ w'.cell? ⟨w.heap.size, 1, none⟩ = some (.int .u64 al)) (refine ⟨?_, ?_⟩ <;> (simp (maxDischargeDepth := 9) [go_sem, *]; done))
    ((first | (go_at_call 15; refine (r1_Int _ _ (by omega)).mono ?_; rintro e u1 ⟨rfl, ho⟩; have hzu1 := Below.size ho; (try simp at hzu1); have HB2 : Hid (Below w.heap.size w u1) := Lib.hid (Below.trans (by exact pBl) (Below.mono ho pSd)); (try clear HB); have HB := HB2; clear HB2; have B2 := blk_below (g := w.heap.size) ho pSd; (try simp (disch := first | omega | (simp; done) | (simp; omega)) only [pBk] at B2); (try rw [Hid.out B_a] at B2); (try simp only [pBk] at B2); (try clear c_a f_a r_a B_a); obtain ⟨c_a, f_a, l_u1_a, r_a, B_a⟩ := blk_all B2; clear B2; clear ho) | (go_at_call 41; refine (r22_from _ _ _ _ _ _ _ (by assumption) (by assumption) (by exact W64_0) (by exact W64_0)).mono ?_; rintro e u2 ⟨rfl, ho⟩; have hzu2 := Below.size ho; (try simp at hzu2); have HB2 : Hid (Below w.heap.size w u2) := Lib.hid (Below.trans (by exact pBl) (Below.mono ho pSd)); (try clear HB); have HB := HB2; clear HB2; have B2 := blk_below (g := w.heap.size) ho pSd; (try simp (disch := first | omega | (simp; done) | (simp; omega)) only [pBk] at B2); (try rw [Hid.out B_a] at B2); (try simp only [pBk] at B2); (try clear c_a f_a r_a B_a); obtain ⟨c_a, f_a, l_u2_a, r_a, B_a⟩ := blk_all B2; clear B2; clear ho)))
  all_goals go_wp2
  all_goals refine bodyPost_ret ?rr rfl ⟨rfl, ?bb⟩
  case rr => simp (maxDischargeDepth := 9) [results, Try.results42, go_sem, *]
  case bb => exact pBl

set_option maxRecDepth 100000 in
set_option maxHeartbeats 2000000 in
theorem r22_within (n a b : Int) (w : World) :
    Calls Try.prog 46 #[.int .i64 n, .int .i64 a, .int .i64 b] w fun e w' => e = .returned (.bool (decide (a ≤ n) && decide (n ≤ b))) ∧ Below w.heap.size w w' := by
  by_cases c1 : a ≤ n
  · have d1 := decide_eq_true c1
    go_enter Try.func46, Try.ntmps46
    go_wp2
    all_goals refine bodyPost_ret ?r rfl ⟨rfl, ?b⟩
    case r => simp (maxDischargeDepth := 9) [results, Try.results46, go_sem, *]
    case b => exact pBl
  · have d1 := decide_eq_false c1
    clear c1
    go_enter Try.func46, Try.ntmps46
    go_wp2
    all_goals refine bodyPost_ret ?r rfl ⟨rfl, ?b⟩
    case r => simp (maxDischargeDepth := 9) [results, Try.results46, go_sem, *]
    case b => exact pBl

/-- is a number beyond another one, on either side? -/
def beyB (a n : Int) : Bool := decide (val n 0 < a) || decide (a < val (-n) 0)
set_option maxRecDepth 100000 in
set_option maxHeartbeats 2000000 in
theorem r10_beyond (h l n : Int) (w : World) (hl : W64 l) (hn0 : 0 < n) (hn1 : n < 4611686018427387904) :
    Calls Try.prog 91 #[.agg #[.int .i64 h, .int .u64 l], .int .i64 n] w fun e w' => e = .returned (.bool (beyB (val h l) n)) ∧ Below w.heap.size w w' := by
  have hneg : IntKind.i64.wrap (-n) = -n := by rw [IntKind.wrap_i64]; omega
  unfold beyB
  by_cases hc : val n 0 < val h l
  · have hd := decide_eq_true hc
    rw [hd]
    clear hc
    go_enter Try.func91, Try.ntmps91
    go_wp2_with fail
    refine wp_region_G (fun w' => w'.cell? ⟨w.heap.size, 0, none⟩ = some (.int .i64 h) ∧ w'.cell? ⟨w.heap.size, 1, none⟩ = some (.int .u64 l)) 12 (by kernel_rfl) ?_ (fun hHeld => ?_)
    · exact pKp
    refine Gw.tk 0 rfl ?_
    (try simp only [pLy])
    refine Gw.tk 1 rfl ?_
    (try simp only [pLy])
    refine Gw.one (i := 2) rfl (by kernel_rfl) (fun K hK => ?_)
    go_simp
    (go_at_call 15; refine (r1_Int _ _ (by first | omega | (rw [hneg]; omega))).mono ?_; rintro e u1 ⟨rfl, ho⟩; have hzu1 := Below.size ho; (try simp at hzu1); have HB2 : Hid (Below w.heap.size w u1) := Lib.hid (Below.trans (by exact pBl) (Below.mono ho pSd)); (try clear HB); have HB := HB2; clear HB2; have B2 := blk_below (g := w.heap.size) ho pSd; (try simp (disch := first | omega | (simp; done) | (simp; omega)) only [pBk] at B2); (try rw [Hid.out B_a] at B2); (try simp only [pBk] at B2); (try clear c_a f_a r_a B_a); obtain ⟨c_a, f_a, l_u1_a, r_a, B_a⟩ := blk_all B2; clear B2; clear ho)
    (try go_wp2_with fail)
    refine hK.out _ _ ?_ (fun hHeld => ?_)
    · exact pKp
    clear hK K
    (try simp only [pLy])
    refine Gw.one (i := 3) rfl (by kernel_rfl) (fun K hK => ?_)
    go_simp
    (go_at_call 14; refine (r1_Cmp _ _ _ _ _ (by assumption) (by exact W64_0)).mono ?_; rintro e u2 ⟨rfl, ho⟩; have hzu2 := Below.size ho; (try simp at hzu2); have HB2 : Hid (Below w.heap.size w u2) := Lib.hid (Below.trans (by exact pBl) (Below.mono ho pSd)); (try clear HB); have HB := HB2; clear HB2; have B2 := blk_below (g := w.heap.size) ho pSd; (try simp (disch := first | omega | (simp; done) | (simp; omega)) only [pBk] at B2); (try rw [Hid.out B_a] at B2); (try simp only [pBk] at B2); (try clear c_a f_a r_a B_a); obtain ⟨c_a, f_a, l_u2_a, r_a, B_a⟩ := blk_all B2; clear B2; clear ho)
    (try go_wp2_with fail)
    refine hK.out _ _ ?_ (fun hHeld => ?_)
    · exact pKp
    clear hK K
    (try simp only [pLy])
    refine Gw.tk 4 rfl ?_
    (try simp only [pLy])
    refine Gw.tk 5 rfl ?_
    (try simp only [pLy])
    refine Gw.ts 6 rfl ?_
    (try simp only [pLy])
    refine Gw.ts 7 rfl ?_
    (try simp only [pLy])
    refine Gw.ts 8 rfl ?_
    (try simp only [pLy])
    refine Gw.one (i := 9) rfl (by kernel_rfl) (fun K hK => ?_)
    go_simp
    refine hK.out _ _ ?_ (fun hHeld => ?_)
    · exact pKp
    clear hK K
    (try simp only [pLy])
    refine Gw.one (i := 10) rfl (by kernel_rfl) (fun K hK => ?_)
    go_simp
    refine hK.out _ _ ?_ (fun hHeld => ?_)
    · exact pKp
    clear hK K
    (try simp only [pLy])
    refine Gw.ts 11 rfl ?_
    (try simp only [pLy])
    refine Gw.last (i := 12) rfl (by kernel_rfl) (by decide) (fun K hK => ?_)
    go_simp
    refine hK.out _ _ ?_
    clear hK K
    (try simp only [pLy])
    refine Gw.last (i := 13) rfl (by kernel_rfl) (by decide) (fun K hK => ?_)
    go_simp
    refine hK.out _ _ ?_
    clear hK K
    (try simp only [pLy])
    refine Gw.done (by kernel_rfl) ?_ _
    all_goals go_wp2
    all_goals refine bodyPost_ret ?rr rfl ⟨rfl, ?bb⟩
    case rr => simp (maxDischargeDepth := 9) [results, Try.results91, go_sem, *]
    case bb => exact pBl
  · have hd := decide_eq_false hc
    rw [hd]
    clear hc
    go_enter Try.func91, Try.ntmps91
    go_wp2_with fail
    refine wp_region_G (fun w' => w'.cell? ⟨w.heap.size, 0, none⟩ = some (.int .i64 h) ∧ w'.cell? ⟨w.heap.size, 1, none⟩ = some (.int .u64 l)) 12 (by kernel_rfl) ?_ (fun hHeld => ?_)
    · exact pKp
    refine Gw.tk 0 rfl ?_
    (try simp only [pLy])
    refine Gw.tk 1 rfl ?_
    (try simp only [pLy])
    refine Gw.one (i := 2) rfl (by kernel_rfl) (fun K hK => ?_)
    go_simp
    (go_at_call 15; refine (r1_Int _ _ (by first | omega | (rw [hneg]; omega))).mono ?_; rintro e u1 ⟨rfl, ho⟩; have hzu1 := Below.size ho; (try simp at hzu1); have HB2 : Hid (Below w.heap.size w u1) := Lib.hid (Below.trans (by exact pBl) (Below.mono ho pSd)); (try clear HB); have HB := HB2; clear HB2; have B2 := blk_below (g := w.heap.size) ho pSd; (try simp (disch := first | omega | (simp; done) | (simp; omega)) only [pBk] at B2); (try rw [Hid.out B_a] at B2); (try simp only [pBk] at B2); (try clear c_a f_a r_a B_a); obtain ⟨c_a, f_a, l_u1_a, r_a, B_a⟩ := blk_all B2; clear B2; clear ho)
    (try go_wp2_with fail)
    refine hK.out _ _ ?_ (fun hHeld => ?_)
    · exact pKp
    clear hK K
    (try simp only [pLy])
    refine Gw.one (i := 3) rfl (by kernel_rfl) (fun K hK => ?_)
    go_simp
    (go_at_call 14; refine (r1_Cmp _ _ _ _ _ (by assumption) (by exact W64_0)).mono ?_; rintro e u2 ⟨rfl, ho⟩; have hzu2 := Below.size ho; (try simp at hzu2); have HB2 : Hid (Below w.heap.size w u2) := Lib.hid (Below.trans (by exact pBl) (Below.mono ho pSd)); (try clear HB); have HB := HB2; clear HB2; have B2 := blk_below (g := w.heap.size) ho pSd; (try simp (disch := first | omega | (simp; done) | (simp; omega)) only [pBk] at B2); (try rw [Hid.out B_a] at B2); (try simp only [pBk] at B2); (try clear c_a f_a r_a B_a); obtain ⟨c_a, f_a, l_u2_a, r_a, B_a⟩ := blk_all B2; clear B2; clear ho)
    (try go_wp2_with fail)
    refine hK.out _ _ ?_ (fun hHeld => ?_)
    · exact pKp
    clear hK K
    (try simp only [pLy])
    refine Gw.tk 4 rfl ?_
    (try simp only [pLy])
    refine Gw.tk 5 rfl ?_
    (try simp only [pLy])
    refine Gw.tk 6 rfl ?_
    (try simp only [pLy])
    refine Gw.tk 7 rfl ?_
    (try simp only [pLy])
    refine Gw.tk 8 rfl ?_
    (try simp only [pLy])
    refine Gw.one (i := 9) rfl (by kernel_rfl) (fun K hK => ?_)
    go_simp
    (go_at_call 15; refine (r1_Int _ _ (by first | omega | (rw [hneg]; omega))).mono ?_; rintro e u3 ⟨rfl, ho⟩; have hzu3 := Below.size ho; (try simp at hzu3); have HB2 : Hid (Below w.heap.size w u3) := Lib.hid (Below.trans (by exact pBl) (Below.mono ho pSd)); (try clear HB); have HB := HB2; clear HB2; have B2 := blk_below (g := w.heap.size) ho pSd; (try simp (disch := first | omega | (simp; done) | (simp; omega)) only [pBk] at B2); (try rw [Hid.out B_a] at B2); (try simp only [pBk] at B2); (try clear c_a f_a r_a B_a); obtain ⟨c_a, f_a, l_u3_a, r_a, B_a⟩ := blk_all B2; clear B2; clear ho)
    (try go_wp2_with fail)
    refine hK.out _ _ ?_ (fun hHeld => ?_)
    · exact pKp
    clear hK K
    (try simp only [pLy])
    refine Gw.one (i := 10) rfl (by kernel_rfl) (fun K hK => ?_)
    go_simp
    (go_at_call 14; refine (r1_Cmp _ _ _ _ _ (by assumption) (by exact W64_0)).mono ?_; rintro e u4 ⟨rfl, ho⟩; have hzu4 := Below.size ho; (try simp at hzu4); have HB2 : Hid (Below w.heap.size w u4) := Lib.hid (Below.trans (by exact pBl) (Below.mono ho pSd)); (try clear HB); have HB := HB2; clear HB2; have B2 := blk_below (g := w.heap.size) ho pSd; (try simp (disch := first | omega | (simp; done) | (simp; omega)) only [pBk] at B2); (try rw [Hid.out B_a] at B2); (try simp only [pBk] at B2); (try clear c_a f_a r_a B_a); obtain ⟨c_a, f_a, l_u4_a, r_a, B_a⟩ := blk_all B2; clear B2; clear ho)
    (try go_wp2_with fail)
    refine hK.out _ _ ?_ (fun hHeld => ?_)
    · exact pKp
    clear hK K
    (try simp only [pLy])
    refine Gw.tk 11 rfl ?_
    (try simp only [pLy])
    refine Gw.last (i := 12) rfl (by kernel_rfl) (by decide) (fun K hK => ?_)
    go_simp
    refine hK.out _ _ ?_
    clear hK K
    (try simp only [pLy])
    refine Gw.last (i := 13) rfl (by kernel_rfl) (by decide) (fun K hK => ?_)
    go_simp
    refine hK.out _ _ ?_
    clear hK K
    (try simp only [pLy])
    refine Gw.done (by kernel_rfl) ?_ _
    all_goals go_wp2
    all_goals refine bodyPost_ret ?rr rfl ⟨rfl, ?bb⟩
    case rr => simp (maxDischargeDepth := 9) [results, Try.results91, go_sem, *]
    case bb => exact pBl

set_option maxRecDepth 100000 in
set_option maxHeartbeats 2000000 in
theorem r10_Inside (axh axl ayh ayl : Int) (w : World) (h1 : W64 axl) (h2 : W64 ayl) :
    Calls Try.prog 45 #[.agg #[.int .i64 axh, .int .u64 axl, .int .i64 ayh, .int .u64 ayl]] w fun e w' => e = .returned (.bool (!beyB (val axh axl) 1073741824 && !beyB (val ayh ayl) 1073741824)) ∧ Below w.heap.size w w' := by
  cases d1 : beyB (val axh axl) 1073741824
  · go_enter Try.func45, Try.ntmps45
    go_wp2_with (go_at_call 91; refine (r10_beyond _ _ _ _ (by assumption) (by decide) (by decide)).mono ?_; rintro e u1 ⟨rfl, ho⟩; have hzu1 := Below.size ho; (try simp at hzu1); have HB2 : Hid (Below w.heap.size w u1) := Lib.hid (Below.trans (by exact pBl) (Below.mono ho pSd)); (try clear HB); have HB := HB2; clear HB2; have B2 := blk_below (g := w.heap.size) ho pSd; (try simp (disch := first | omega | (simp; done) | (simp; omega)) only [pBk] at B2); (try rw [Hid.out B_a] at B2); (try simp only [pBk] at B2); (try clear c_a f_a r_a B_a); obtain ⟨c_a, f_a, l_u1_a, r_a, B_a⟩ := blk_all B2; clear B2; clear ho)
    all_goals refine bodyPost_ret ?r rfl ⟨rfl, ?b⟩
    case r => simp (maxDischargeDepth := 9) [results, Try.results45, go_sem, *]
    case b => exact pBl
  · go_enter Try.func45, Try.ntmps45
    go_wp2_with (go_at_call 91; refine (r10_beyond _ _ _ _ (by assumption) (by decide) (by decide)).mono ?_; rintro e u1 ⟨rfl, ho⟩; have hzu1 := Below.size ho; (try simp at hzu1); have HB2 : Hid (Below w.heap.size w u1) := Lib.hid (Below.trans (by exact pBl) (Below.mono ho pSd)); (try clear HB); have HB := HB2; clear HB2; have B2 := blk_below (g := w.heap.size) ho pSd; (try simp (disch := first | omega | (simp; done) | (simp; omega)) only [pBk] at B2); (try rw [Hid.out B_a] at B2); (try simp only [pBk] at B2); (try clear c_a f_a r_a B_a); obtain ⟨c_a, f_a, l_u1_a, r_a, B_a⟩ := blk_all B2; clear B2; clear ho)
    all_goals refine bodyPost_ret ?r rfl ⟨rfl, ?b⟩
    case r => simp (maxDischargeDepth := 9) [results, Try.results45, go_sem, *]
    case b => exact pBl

set_option maxRecDepth 100000 in
set_option maxHeartbeats 2000000 in
theorem r10_Speed (b : BodyI) (w : World) (h1 : R b.px) (h2 : R b.py) (h3 : R b.mass) :
    Calls Try.prog 90 #[.agg #[.int .i64 (hi b.mass), .int .u64 (lo b.mass), .int .i64 (hi b.radius), .int .u64 (lo b.radius), .int .i64 (hi b.x), .int .u64 (lo b.x), .int .i64 (hi b.y), .int .u64 (lo b.y), .int .i64 (hi b.px), .int .u64 (lo b.px), .int .i64 (hi b.py), .int .u64 (lo b.py), .int .i64 (hi b.fuel), .int .u64 (lo b.fuel), .int .i64 (hi b.rate), .int .u64 (lo b.rate), .int .i64 (hi b.exh), .int .u64 (lo b.exh), .int .i64 b.thr, .int .i64 b.head]] w fun e w' => e = .returned (.agg #[.int .i64 (hi (xOf (speedX b))), .int .u64 (lo (xOf (speedX b))), .int .i64 (hi (yOf (speedX b))), .int .u64 (lo (yOf (speedX b))), .int .i64 (eOf (speedX b))]) ∧ Below w.heap.size w w' := by
  have m1 := MayF.of h1
  have m2 := MayF.of h2
  have m3 := MayF.of h3
  have hGx := Good.div b.px b.mass
  have hGy := Good.div b.py b.mass
  have hS : speedX b = vecX (divX b.px b.mass) (divX b.py b.mass) := rfl
  rw [hS]
  clear hS
  rcases hGx.cases with ⟨x, hx, hx1⟩ | ⟨ex, hx, hex⟩
  · rcases hGy.cases with ⟨y, hy, hy1⟩ | ⟨ey, hy, hey⟩
    · rw [hx, hy]
      go_enter Try.func90, Try.ntmps90
      go_wp2_with (first | (go_at_call_of 23 (Value.agg #[.int .i64 (hi b.px), .int .u64 (lo b.px)]); refine (r1_DivF _ _ _ _ _ (by assumption) (by assumption)).mono ?_; rintro e u1 ⟨rfl, ho⟩; have hzu1 := Below.size ho; (try simp at hzu1); have HB2 : Hid (Below w.heap.size w u1) := Lib.hid (Below.trans (by exact pBl) (Below.mono ho pSd)); (try clear HB); have HB := HB2; clear HB2; have B2 := blk_below (g := w.heap.size) ho pSd; (try simp (disch := first | omega | (simp; done) | (simp; omega)) only [pBk] at B2); (try rw [Hid.out B_b] at B2); (try simp only [pBk] at B2); (try clear c_b f_b r_b B_b); obtain ⟨c_b, f_b, l_u1_b, r_b, B_b⟩ := blk_all B2; clear B2; have B2 := blk_below (g := w.heap.size + 1) ho pSd; (try simp (disch := first | omega | (simp; done) | (simp; omega)) only [pBk] at B2); (try rw [Hid.out B_r] at B2); (try simp only [pBk] at B2); (try clear c_r f_r r_r B_r); obtain ⟨c_r, f_r, l_u1_r, r_r, B_r⟩ := blk_all B2; clear B2; clear ho) | (go_at_call 23; refine (r1_DivF _ _ _ _ _ (by assumption) (by assumption)).mono ?_; rintro e u2 ⟨rfl, ho⟩; have hzu2 := Below.size ho; (try simp at hzu2); have HB2 : Hid (Below w.heap.size w u2) := Lib.hid (Below.trans (by exact pBl) (Below.mono ho pSd)); (try clear HB); have HB := HB2; clear HB2; have B2 := blk_below (g := w.heap.size) ho pSd; (try simp (disch := first | omega | (simp; done) | (simp; omega)) only [pBk] at B2); (try rw [Hid.out B_b] at B2); (try simp only [pBk] at B2); (try clear c_b f_b r_b B_b); obtain ⟨c_b, f_b, l_u2_b, r_b, B_b⟩ := blk_all B2; clear B2; have B2 := blk_below (g := w.heap.size + 1) ho pSd; (try simp (disch := first | omega | (simp; done) | (simp; omega)) only [pBk] at B2); (try rw [Hid.out B_r] at B2); (try simp only [pBk] at B2); (try clear c_r f_r r_r B_r); obtain ⟨c_r, f_r, l_u2_r, r_r, B_r⟩ := blk_all B2; clear B2; have B2 := blk_below (g := u1.heap.size) ho pSd; (try simp (disch := first | omega | (simp; done) | (simp; omega)) only [pBk] at B2); (try rw [Hid.out B_x] at B2); (try simp only [pBk] at B2); (try clear c_x f_x r_x B_x); obtain ⟨c_x, f_x, l_u2_x, r_x, B_x⟩ := blk_all B2; clear B2; clear ho))
      all_goals refine bodyPost_ret ?r rfl ⟨rfl, ?b⟩
      case r => simp (maxDischargeDepth := 9) [results, Try.results90, go_sem, *]
      case b => exact pBl
    · rw [hx, hy]
      go_enter Try.func90, Try.ntmps90
      go_wp2_with (first | (go_at_call_of 23 (Value.agg #[.int .i64 (hi b.px), .int .u64 (lo b.px)]); refine (r1_DivF _ _ _ _ _ (by assumption) (by assumption)).mono ?_; rintro e u1 ⟨rfl, ho⟩; have hzu1 := Below.size ho; (try simp at hzu1); have HB2 : Hid (Below w.heap.size w u1) := Lib.hid (Below.trans (by exact pBl) (Below.mono ho pSd)); (try clear HB); have HB := HB2; clear HB2; have B2 := blk_below (g := w.heap.size) ho pSd; (try simp (disch := first | omega | (simp; done) | (simp; omega)) only [pBk] at B2); (try rw [Hid.out B_b] at B2); (try simp only [pBk] at B2); (try clear c_b f_b r_b B_b); obtain ⟨c_b, f_b, l_u1_b, r_b, B_b⟩ := blk_all B2; clear B2; have B2 := blk_below (g := w.heap.size + 1) ho pSd; (try simp (disch := first | omega | (simp; done) | (simp; omega)) only [pBk] at B2); (try rw [Hid.out B_r] at B2); (try simp only [pBk] at B2); (try clear c_r f_r r_r B_r); obtain ⟨c_r, f_r, l_u1_r, r_r, B_r⟩ := blk_all B2; clear B2; clear ho) | (go_at_call 23; refine (r1_DivF _ _ _ _ _ (by assumption) (by assumption)).mono ?_; rintro e u2 ⟨rfl, ho⟩; have hzu2 := Below.size ho; (try simp at hzu2); have HB2 : Hid (Below w.heap.size w u2) := Lib.hid (Below.trans (by exact pBl) (Below.mono ho pSd)); (try clear HB); have HB := HB2; clear HB2; have B2 := blk_below (g := w.heap.size) ho pSd; (try simp (disch := first | omega | (simp; done) | (simp; omega)) only [pBk] at B2); (try rw [Hid.out B_b] at B2); (try simp only [pBk] at B2); (try clear c_b f_b r_b B_b); obtain ⟨c_b, f_b, l_u2_b, r_b, B_b⟩ := blk_all B2; clear B2; have B2 := blk_below (g := w.heap.size + 1) ho pSd; (try simp (disch := first | omega | (simp; done) | (simp; omega)) only [pBk] at B2); (try rw [Hid.out B_r] at B2); (try simp only [pBk] at B2); (try clear c_r f_r r_r B_r); obtain ⟨c_r, f_r, l_u2_r, r_r, B_r⟩ := blk_all B2; clear B2; have B2 := blk_below (g := u1.heap.size) ho pSd; (try simp (disch := first | omega | (simp; done) | (simp; omega)) only [pBk] at B2); (try rw [Hid.out B_x] at B2); (try simp only [pBk] at B2); (try clear c_x f_x r_x B_x); obtain ⟨c_x, f_x, l_u2_x, r_x, B_x⟩ := blk_all B2; clear B2; clear ho))
      all_goals refine bodyPost_ret ?r rfl ⟨rfl, ?b⟩
      case r => simp (maxDischargeDepth := 9) [results, Try.results90, go_sem, *]
      case b => exact pBl
  · rw [hx]
    go_enter Try.func90, Try.ntmps90
    go_wp2_with (go_at_call_of 23 (Value.agg #[.int .i64 (hi b.px), .int .u64 (lo b.px)]); refine (r1_DivF _ _ _ _ _ (by assumption) (by assumption)).mono ?_; rintro e u1 ⟨rfl, ho⟩; have hzu1 := Below.size ho; (try simp at hzu1); have HB2 : Hid (Below w.heap.size w u1) := Lib.hid (Below.trans (by exact pBl) (Below.mono ho pSd)); (try clear HB); have HB := HB2; clear HB2; have B2 := blk_below (g := w.heap.size) ho pSd; (try simp (disch := first | omega | (simp; done) | (simp; omega)) only [pBk] at B2); (try rw [Hid.out B_b] at B2); (try simp only [pBk] at B2); (try clear c_b f_b r_b B_b); obtain ⟨c_b, f_b, l_u1_b, r_b, B_b⟩ := blk_all B2; clear B2; have B2 := blk_below (g := w.heap.size + 1) ho pSd; (try simp (disch := first | omega | (simp; done) | (simp; omega)) only [pBk] at B2); (try rw [Hid.out B_r] at B2); (try simp only [pBk] at B2); (try clear c_r f_r r_r B_r); obtain ⟨c_r, f_r, l_u1_r, r_r, B_r⟩ := blk_all B2; clear B2; clear ho)
    all_goals refine bodyPost_ret ?r rfl ⟨rfl, ?b⟩
    case r => simp (maxDischargeDepth := 9) [results, Try.results90, go_sem, *]
    case b => exact pBl

/-- is it slow? -/
def slowB (b : BodyI) : Bool := match speedX b with | .ok p => !beyB p.1 65536 && !beyB p.2 65536 | .error _ => false
set_option maxRecDepth 100000 in
set_option maxHeartbeats 2000000 in
theorem r10_Slow (b : BodyI) (w : World) (h1 : R b.px) (h2 : R b.py) (h3 : R b.mass) :
    Calls Try.prog 44 #[.agg #[.int .i64 (hi b.mass), .int .u64 (lo b.mass), .int .i64 (hi b.radius), .int .u64 (lo b.radius), .int .i64 (hi b.x), .int .u64 (lo b.x), .int .i64 (hi b.y), .int .u64 (lo b.y), .int .i64 (hi b.px), .int .u64 (lo b.px), .int .i64 (hi b.py), .int .u64 (lo b.py), .int .i64 (hi b.fuel), .int .u64 (lo b.fuel), .int .i64 (hi b.rate), .int .u64 (lo b.rate), .int .i64 (hi b.exh), .int .u64 (lo b.exh), .int .i64 b.thr, .int .i64 b.head]] w fun e w' => e = .returned (.agg #[.bool (slowB b), .int .i64 (eOf (speedX b))]) ∧ Below w.heap.size w w' := by
  have hG := GoodV.speed b
  unfold slowB
  rcases hG.cases with ⟨p, hp, hp1, hp2⟩ | ⟨em, hp, he⟩
  · rw [hp]
    show Calls _ _ _ _ fun e w' => e = .returned (.agg #[.bool (!beyB p.1 65536 && !beyB p.2 65536), .int .i64 0]) ∧ Below w.heap.size w w'
    cases d1 : beyB p.1 65536
    · go_enter Try.func44, Try.ntmps44
      go_wp2_with (first | (go_at_call 90; refine (r10_Speed _ _ (by assumption) (by assumption) (by assumption)).mono ?_; rintro e u1 ⟨rfl, ho⟩; have hzu1 := Below.size ho; (try simp at hzu1); have HB2 : Hid (Below w.heap.size w u1) := Lib.hid (Below.trans (by exact pBl) (Below.mono ho pSd)); (try clear HB); have HB := HB2; clear HB2; have B2 := blk_below (g := w.heap.size) ho pSd; (try simp (disch := first | omega | (simp; done) | (simp; omega)) only [pBk] at B2); (try rw [Hid.out B_b] at B2); (try simp only [pBk] at B2); (try clear c_b f_b r_b B_b); obtain ⟨c_b, f_b, l_u1_b, r_b, B_b⟩ := blk_all B2; clear B2; have B2 := blk_below (g := w.heap.size + 1) ho pSd; (try simp (disch := first | omega | (simp; done) | (simp; omega)) only [pBk] at B2); (try rw [Hid.out B_r] at B2); (try simp only [pBk] at B2); (try clear c_r f_r r_r B_r); obtain ⟨c_r, f_r, l_u1_r, r_r, B_r⟩ := blk_all B2; clear B2; clear ho) | (go_at_call 91; refine (r10_beyond _ _ _ _ (by exact W64_lo _) (by decide) (by decide)).mono ?_; rintro e u2 ⟨rfl, ho⟩; have hzu2 := Below.size ho; (try simp at hzu2); have HB2 : Hid (Below w.heap.size w u2) := Lib.hid (Below.trans (by exact pBl) (Below.mono ho pSd)); (try clear HB); have HB := HB2; clear HB2; have B2 := blk_below (g := w.heap.size) ho pSd; (try simp (disch := first | omega | (simp; done) | (simp; omega)) only [pBk] at B2); (try rw [Hid.out B_b] at B2); (try simp only [pBk] at B2); (try clear c_b f_b r_b B_b); obtain ⟨c_b, f_b, l_u2_b, r_b, B_b⟩ := blk_all B2; clear B2; have B2 := blk_below (g := w.heap.size + 1) ho pSd; (try simp (disch := first | omega | (simp; done) | (simp; omega)) only [pBk] at B2); (try rw [Hid.out B_r] at B2); (try simp only [pBk] at B2); (try clear c_r f_r r_r B_r); obtain ⟨c_r, f_r, l_u2_r, r_r, B_r⟩ := blk_all B2; clear B2; have B2 := blk_below (g := u1.heap.size) ho pSd; (try simp (disch := first | omega | (simp; done) | (simp; omega)) only [pBk] at B2); (try rw [Hid.out B_s] at B2); (try simp only [pBk] at B2); (try clear c_s f_s r_s B_s); obtain ⟨c_s, f_s, l_u2_s, r_s, B_s⟩ := blk_all B2; clear B2; clear ho))
      all_goals refine bodyPost_ret ?r rfl ⟨rfl, ?b⟩
      case r => simp (maxDischargeDepth := 9) [results, Try.results44, go_sem, *]
      case b => exact pBl
    · go_enter Try.func44, Try.ntmps44
      go_wp2_with (first | (go_at_call 90; refine (r10_Speed _ _ (by assumption) (by assumption) (by assumption)).mono ?_; rintro e u1 ⟨rfl, ho⟩; have hzu1 := Below.size ho; (try simp at hzu1); have HB2 : Hid (Below w.heap.size w u1) := Lib.hid (Below.trans (by exact pBl) (Below.mono ho pSd)); (try clear HB); have HB := HB2; clear HB2; have B2 := blk_below (g := w.heap.size) ho pSd; (try simp (disch := first | omega | (simp; done) | (simp; omega)) only [pBk] at B2); (try rw [Hid.out B_b] at B2); (try simp only [pBk] at B2); (try clear c_b f_b r_b B_b); obtain ⟨c_b, f_b, l_u1_b, r_b, B_b⟩ := blk_all B2; clear B2; have B2 := blk_below (g := w.heap.size + 1) ho pSd; (try simp (disch := first | omega | (simp; done) | (simp; omega)) only [pBk] at B2); (try rw [Hid.out B_r] at B2); (try simp only [pBk] at B2); (try clear c_r f_r r_r B_r); obtain ⟨c_r, f_r, l_u1_r, r_r, B_r⟩ := blk_all B2; clear B2; clear ho) | (go_at_call 91; refine (r10_beyond _ _ _ _ (by exact W64_lo _) (by decide) (by decide)).mono ?_; rintro e u2 ⟨rfl, ho⟩; have hzu2 := Below.size ho; (try simp at hzu2); have HB2 : Hid (Below w.heap.size w u2) := Lib.hid (Below.trans (by exact pBl) (Below.mono ho pSd)); (try clear HB); have HB := HB2; clear HB2; have B2 := blk_below (g := w.heap.size) ho pSd; (try simp (disch := first | omega | (simp; done) | (simp; omega)) only [pBk] at B2); (try rw [Hid.out B_b] at B2); (try simp only [pBk] at B2); (try clear c_b f_b r_b B_b); obtain ⟨c_b, f_b, l_u2_b, r_b, B_b⟩ := blk_all B2; clear B2; have B2 := blk_below (g := w.heap.size + 1) ho pSd; (try simp (disch := first | omega | (simp; done) | (simp; omega)) only [pBk] at B2); (try rw [Hid.out B_r] at B2); (try simp only [pBk] at B2); (try clear c_r f_r r_r B_r); obtain ⟨c_r, f_r, l_u2_r, r_r, B_r⟩ := blk_all B2; clear B2; have B2 := blk_below (g := u1.heap.size) ho pSd; (try simp (disch := first | omega | (simp; done) | (simp; omega)) only [pBk] at B2); (try rw [Hid.out B_s] at B2); (try simp only [pBk] at B2); (try clear c_s f_s r_s B_s); obtain ⟨c_s, f_s, l_u2_s, r_s, B_s⟩ := blk_all B2; clear B2; clear ho))
      all_goals refine bodyPost_ret ?r rfl ⟨rfl, ?b⟩
      case r => simp (maxDischargeDepth := 9) [results, Try.results44, go_sem, *]
      case b => exact pBl
  · rw [hp]
    show Calls _ _ _ _ fun e w' => e = .returned (.agg #[.bool false, .int .i64 em]) ∧ Below w.heap.size w w'
    go_enter Try.func44, Try.ntmps44
    go_wp2_with (first | (go_at_call 90; refine (r10_Speed _ _ (by assumption) (by assumption) (by assumption)).mono ?_; rintro e u1 ⟨rfl, ho⟩; have hzu1 := Below.size ho; (try simp at hzu1); have HB2 : Hid (Below w.heap.size w u1) := Lib.hid (Below.trans (by exact pBl) (Below.mono ho pSd)); (try clear HB); have HB := HB2; clear HB2; have B2 := blk_below (g := w.heap.size) ho pSd; (try simp (disch := first | omega | (simp; done) | (simp; omega)) only [pBk] at B2); (try rw [Hid.out B_b] at B2); (try simp only [pBk] at B2); (try clear c_b f_b r_b B_b); obtain ⟨c_b, f_b, l_u1_b, r_b, B_b⟩ := blk_all B2; clear B2; have B2 := blk_below (g := w.heap.size + 1) ho pSd; (try simp (disch := first | omega | (simp; done) | (simp; omega)) only [pBk] at B2); (try rw [Hid.out B_r] at B2); (try simp only [pBk] at B2); (try clear c_r f_r r_r B_r); obtain ⟨c_r, f_r, l_u1_r, r_r, B_r⟩ := blk_all B2; clear B2; clear ho) | (go_at_call 91; refine (r10_beyond _ _ _ _ (by exact W64_lo _) (by decide) (by decide)).mono ?_; rintro e u2 ⟨rfl, ho⟩; have hzu2 := Below.size ho; (try simp at hzu2); have HB2 : Hid (Below w.heap.size w u2) := Lib.hid (Below.trans (by exact pBl) (Below.mono ho pSd)); (try clear HB); have HB := HB2; clear HB2; have B2 := blk_below (g := w.heap.size) ho pSd; (try simp (disch := first | omega | (simp; done) | (simp; omega)) only [pBk] at B2); (try rw [Hid.out B_b] at B2); (try simp only [pBk] at B2); (try clear c_b f_b r_b B_b); obtain ⟨c_b, f_b, l_u2_b, r_b, B_b⟩ := blk_all B2; clear B2; have B2 := blk_below (g := w.heap.size + 1) ho pSd; (try simp (disch := first | omega | (simp; done) | (simp; omega)) only [pBk] at B2); (try rw [Hid.out B_r] at B2); (try simp only [pBk] at B2); (try clear c_r f_r r_r B_r); obtain ⟨c_r, f_r, l_u2_r, r_r, B_r⟩ := blk_all B2; clear B2; have B2 := blk_below (g := u1.heap.size) ho pSd; (try simp (disch := first | omega | (simp; done) | (simp; omega)) only [pBk] at B2); (try rw [Hid.out B_s] at B2); (try simp only [pBk] at B2); (try clear c_s f_s r_s B_s); obtain ⟨c_s, f_s, l_u2_s, r_s, B_s⟩ := blk_all B2; clear B2; clear ho))
    all_goals refine bodyPost_ret ?r rfl ⟨rfl, ?b⟩
    case r => simp (maxDischargeDepth := 9) [results, Try.results44, go_sem, *]
    case b => exact pBl
end Go.Proofs.Ytdphhkbbphfjlaa
