/- The walk of fix.Div. -/
import Derived.Test.YtdphhkbbphfjlaaCFixC
import Derived.Deep.RegionHeld3
import Derived.Deep.DeepCutAuto
namespace Go.Proofs.Ytdphhkbbphfjlaa
set_option linter.unusedVariables false
set_option linter.unusedSimpArgs false
open Go.RowKit
attribute [local go_sem] uwrap_lo lo_lo hi_lo val_hl val_00 v4_q
attribute [local go_sem ↓] Go.wp_at_zero Go.wp_at_succ

theorem shl64_v4 {h l : Int} : v4 0 h l 0 = val h l * 18446744073709551616 := by unfold v4 val; omega
attribute [local go_sem] shl64_v4
theorem ab_pos {x : Int} (h : x ≠ 0) : 0 < ab x := by unfold ab; split <;> omega
theorem div_q {a b : Int} (ha : R a) (hb : R b) (h0 : 0 < ab b) :
    w4 (ab a * 18446744073709551616 / ab b) = ab a * 18446744073709551616 / ab b ∧ 0 ≤ ab a * 18446744073709551616 / ab b ∧ ab a * 18446744073709551616 / ab b < 3138550867693340381917894711603833208051177722232017256448
    ∧ 0 ≤ ab a * 18446744073709551616 % ab b ∧ ab a * 18446744073709551616 % ab b < ab b := by
  have h1 := ab_lt ha
  have h3 := ab_nonneg a
  have h5 : ab a * 18446744073709551616 / ab b ≤ ab a * 18446744073709551616 := Int.ediv_le_self _ (by omega)
  have h6 : 0 ≤ ab a * 18446744073709551616 / ab b := Int.ediv_nonneg (by omega) (by omega)
  refine ⟨?_, h6, by omega, Int.emod_nonneg _ (by omega), Int.emod_lt_of_pos _ h0⟩
  unfold w4; omega
/-- rounded up where the rest is at least what lacks -/
theorem div_round {a b : Int} (ha : R a) (hb : R b) (h0 : 0 < ab b) :
    (ab b - ab a * 18446744073709551616 % ab b ≤ ab a * 18446744073709551616 % ab b → ab a * 18446744073709551616 / ab b + 1 = divM a b)
    ∧ (¬ ab b - ab a * 18446744073709551616 % ab b ≤ ab a * 18446744073709551616 % ab b → ab a * 18446744073709551616 / ab b = divM a b) := by
  have hm := Int.mul_ediv_add_emod (ab a * 18446744073709551616) (ab b)
  obtain ⟨_, h6, _, h7, h8⟩ := div_q ha hb h0
  unfold divM
  generalize ab a * 18446744073709551616 / ab b = q at *
  generalize ab a * 18446744073709551616 % ab b = r at *
  generalize ab a * 18446744073709551616 = x at *
  generalize ab b = y at *
  have e : 2 * x + y = (2 * r + y) + (2 * y) * q := by rw [← hm, Int.mul_add, Int.mul_assoc]; omega
  have e2 : (2 * x + y) / (2 * y) = (2 * r + y) / (2 * y) + q := by rw [e, Int.add_mul_ediv_left _ _ (by omega)]
  rw [e2]
  constructor
  · intro h
    have f := (Int.ediv_emod_unique (a := 2 * r + y) (b := 2 * y) (r := 2 * r - y) (q := 1) (by omega)).2 ⟨by omega, by omega, by omega⟩
    rw [f.1]; omega
  · intro h
    have f := (Int.ediv_emod_unique (a := 2 * r + y) (b := 2 * y) (r := 2 * r + y) (q := 0) (by omega)).2 ⟨by omega, by omega, by omega⟩
    rw [f.1]; omega
theorem div_fin {a b q : Int} (hb : b ≠ 0) (h0 : 0 ≤ q) (h1 : w4 q = q) (e : q = divM a b) : toldX (v4 (q3 q) (q2 q) (q1 q) (q0 q)) (!(ng a == ng b)) = divX a b := by
  rw [v4_q, h1, told_rng h0, e]
  unfold divX
  rw [if_neg hb]; rfl

set_option maxRecDepth 100000 in
set_option maxHeartbeats 2000000 in
theorem fix_Div0 (ah al : Int) (w : World) (hal : W64 al) (hah : I64 ah) (hA : R (val ah al)) :
    Calls Try.prog 58 #[.agg #[.int .i64 ah, .int .u64 al], .agg #[.int .i64 0, .int .u64 0]] w fun e w' => e = .returned (.tuple #[.agg #[.int .i64 0, .int .u64 0], .int .i64 2]) ∧ Below w.heap.size w w' := by
  have hb0 : W64 0 := W64_0
  have hb1 : I64 0 := by unfold I64; omega
  have z1 : hi (ab 0) = 0 := rfl
  have z2 : lo (ab 0) = 0 := rfl
  go_enter Try.func58, Try.ntmps58
  go_upto_region 1 with fail
  go_cut [6, 7] (fun s6 s7 wx => ∃ g6 g7 : Nat, s6 = .pointer (some ⟨g6, 0, none⟩) ∧ s7 = .pointer (some ⟨g7, 0, none⟩) ∧ Below w.heap.size w wx ∧ w.heap.size + 1 + 1 < g6 ∧ w.heap.size + 1 + 1 < g7 ∧ g6 ≠ g7 ∧ g6 < wx.heap.size ∧ g7 < wx.heap.size
    ∧ wx.cell? ⟨w.heap.size + 1 + 1, 0, none⟩ = some (.int .i64 0) ∧ wx.cell? ⟨w.heap.size + 1 + 1, 1, none⟩ = some (.int .u64 0) ∧ (∀ o, wx.frozen? ⟨w.heap.size + 1 + 1, o, none⟩ = false) ∧ wx.cell? ⟨g6, 0, none⟩ = some (.int .u64 (hi (ab (val ah al)))) ∧ wx.cell? ⟨g6, 1, none⟩ = some (.int .u64 (lo (ab (val ah al)))) ∧ wx.cell? ⟨g6, 2, none⟩ = some (.bool (ng (val ah al))) ∧ wx.cell? ⟨g7, 0, none⟩ = some (.int .u64 0) ∧ wx.cell? ⟨g7, 1, none⟩ = some (.int .u64 0) ∧ wx.cell? ⟨g7, 2, none⟩ = some (.bool (ng 0)))
  case first =>
    go_region_held3 (fun w' => w'.cell? ⟨w.heap.size, 0, none⟩ = some (.int .i64 ah) ∧ w'.cell? ⟨w.heap.size, 1, none⟩ = some (.int .u64 al) ∧ w'.cell? ⟨w.heap.size + 1, 0, none⟩ = some (.int .i64 0) ∧ w'.cell? ⟨w.heap.size + 1, 1, none⟩ = some (.int .u64 0)) (refine ⟨?_, ?_, ?_, ?_⟩ <;> (simp (maxDischargeDepth := 9) [go_sem, *]; done))
      ((first | (go_at_call_of 102 (Value.agg #[.int .i64 ah, .int .u64 al]); refine (fix_of _ _ _ (by assumption) (by assumption)).mono ?_; rintro e u1 ⟨rfl, hbu1⟩; have hzu1 := hbu1.size; (try simp at hzu1); have hsu1_w : w.heap.size ≤ u1.heap.size := (by omega); obtain ⟨hcu1_w_0, hfu1_w_0⟩ := pBc hbu1 (b := w.heap.size) pSd; have hsu1_w_0 : w.heap.size < u1.heap.size := (by omega); obtain ⟨hcu1_w_1, hfu1_w_1⟩ := pBc hbu1 (b := w.heap.size + 1) pSd; have hsu1_w_1 : w.heap.size + 1 < u1.heap.size := (by omega); obtain ⟨hcu1_w_2, hfu1_w_2⟩ := pBc hbu1 (b := w.heap.size + 1 + 1) pSd; have hsu1_w_2 : w.heap.size + 1 + 1 < u1.heap.size := (by omega); (try (have hq2 := pBc hbu1 (b := w.heap.size + 1 + 1 + 1) (by first  | omega | (simp; done) | (simp; omega)); obtain ⟨hcu1_w_3, hfu1_w_3⟩ := hq2)); (try (have hsu1_w_3 : w.heap.size + 1 + 1 + 1 < u1.heap.size := (by omega))); (try (have hq2 := pBc hbu1 (b := w.heap.size + 1 + 1 + 1 + 1) (by first  | omega | (simp; done) | (simp; omega)); obtain ⟨hcu1_w_4, hfu1_w_4⟩ := hq2)); (try (have hsu1_w_4 : w.heap.size + 1 + 1 + 1 + 1 < u1.heap.size := (by omega))); have Hu1 := Lib.hid hbu1; clear hbu1) | (go_at_call 102; refine (fix_of _ _ _ (by assumption) (by assumption)).mono ?_; rintro e u2 ⟨rfl, hbu2⟩; have hzu2 := hbu2.size; (try simp at hzu2); have hsu2_w : w.heap.size ≤ u2.heap.size := (by omega); obtain ⟨hcu2_w_0, hfu2_w_0⟩ := pBc hbu2 (b := w.heap.size) pSd; have hsu2_w_0 : w.heap.size < u2.heap.size := (by omega); obtain ⟨hcu2_w_1, hfu2_w_1⟩ := pBc hbu2 (b := w.heap.size + 1) pSd; have hsu2_w_1 : w.heap.size + 1 < u2.heap.size := (by omega); obtain ⟨hcu2_w_2, hfu2_w_2⟩ := pBc hbu2 (b := w.heap.size + 1 + 1) pSd; have hsu2_w_2 : w.heap.size + 1 + 1 < u2.heap.size := (by omega); (try (have hq2 := pBc hbu2 (b := w.heap.size + 1 + 1 + 1) (by first  | omega | (simp; done) | (simp; omega)); obtain ⟨hcu2_w_3, hfu2_w_3⟩ := hq2)); (try (have hsu2_w_3 : w.heap.size + 1 + 1 + 1 < u2.heap.size := (by omega))); (try (have hq2 := pBc hbu2 (b := w.heap.size + 1 + 1 + 1 + 1) (by first  | omega | (simp; done) | (simp; omega)); obtain ⟨hcu2_w_4, hfu2_w_4⟩ := hq2)); (try (have hsu2_w_4 : w.heap.size + 1 + 1 + 1 + 1 < u2.heap.size := (by omega))); (try (have hq2 := pBc hbu2 (b := u1.heap.size) (by first  | omega | (simp; done) | (simp; omega)); obtain ⟨hcu2_u1_0, hfu2_u1_0⟩ := hq2)); (try (have hsu2_u1_0 : u1.heap.size < u2.heap.size := (by omega))); (try (have hq2 := pBc hbu2 (b := u1.heap.size + 1) (by first  | omega | (simp; done) | (simp; omega)); obtain ⟨hcu2_u1_1, hfu2_u1_1⟩ := hq2)); (try (have hsu2_u1_1 : u1.heap.size + 1 < u2.heap.size := (by omega))); have Hu2 := Lib.hid hbu2; clear hbu2)))
    all_goals (go_wp2_with fail; go_meet; refine ⟨_, _, rfl, rfl, ?_, ?_, ?_, ?_, ?_, ?_, ?_, ?_, ?_, ?_, ?_, ?_, ?_, ?_, ?_⟩)
    all_goals first | omega | (simp (maxDischargeDepth := 9) [go_sem, *]; done) | (simp; omega) | skip
    all_goals (exact pBl)
  case rest =>
    obtain ⟨g6, g7, rfl, rfl, hb0, h6, h7, hne, l6, l7, c0, c1, f4, x0, x1, x2, y0, y1, y2⟩ := hcut
    have Hb0 := Lib.hid hb0
    clear hb0
    have hwc0 : w.heap.size < wc.heap.size := by omega
    have hwc1 : w.heap.size + 1 < wc.heap.size := by omega
    have hwc2 : w.heap.size + 1 + 1 < wc.heap.size := by omega
    go_upto_region 2 with fail
    go_cut [8, 9, 10] (fun s8 s9 s10 wx => ∃ g8 g9 : Nat, s8 = .pointer (some ⟨g8, 0, none⟩) ∧ s9 = .pointer (some ⟨g9, 0, none⟩) ∧ s10 = .bool false ∧ Below w.heap.size w wx ∧ w.heap.size + 1 + 1 < wx.heap.size ∧ wx.cell? ⟨w.heap.size + 1 + 1, 0, none⟩ = some (.int .i64 0) ∧ wx.cell? ⟨w.heap.size + 1 + 1, 1, none⟩ = some (.int .u64 0) ∧ (∀ o, wx.frozen? ⟨w.heap.size + 1 + 1, o, none⟩ = false))
    case first =>
      go_region_held3 (fun w' => w'.cell? ⟨g6, 0, none⟩ = some (.int .u64 (hi (ab (val ah al)))) ∧ w'.cell? ⟨g6, 1, none⟩ = some (.int .u64 (lo (ab (val ah al)))) ∧ w'.cell? ⟨g7, 0, none⟩ = some (.int .u64 0) ∧ w'.cell? ⟨g7, 1, none⟩ = some (.int .u64 0)) (refine ⟨?_, ?_, ?_, ?_⟩ <;> (simp (maxDischargeDepth := 9) [go_sem, *]; done))
        ((first | (go_at_call 109; refine (fix_wide _ _ _).mono ?_; rintro e u3 ⟨rfl, hbu3⟩; have hzu3 := hbu3.size; (try simp at hzu3); have hsu3_w : w.heap.size ≤ u3.heap.size := (by omega); obtain ⟨hcu3_w_0, hfu3_w_0⟩ := pBc hbu3 (b := w.heap.size) pSd; have hsu3_w_0 : w.heap.size < u3.heap.size := (by omega); obtain ⟨hcu3_w_1, hfu3_w_1⟩ := pBc hbu3 (b := w.heap.size + 1) pSd; have hsu3_w_1 : w.heap.size + 1 < u3.heap.size := (by omega); obtain ⟨hcu3_w_2, hfu3_w_2⟩ := pBc hbu3 (b := w.heap.size + 1 + 1) pSd; have hsu3_w_2 : w.heap.size + 1 + 1 < u3.heap.size := (by omega); obtain ⟨hcu3_g6, hfu3_g6⟩ := pBc hbu3 (b := g6) pSd; have hsu3_g6 : g6 < u3.heap.size := (by omega); obtain ⟨hcu3_g7, hfu3_g7⟩ := pBc hbu3 (b := g7) pSd; have hsu3_g7 : g7 < u3.heap.size := (by omega); (try (have hq2 := pBc hbu3 (b := wc.heap.size) (by first  | omega | (simp; done) | (simp; omega)); obtain ⟨hcu3_wc_0, hfu3_wc_0⟩ := hq2)); (try (have hsu3_wc_0 : wc.heap.size < u3.heap.size := (by omega))); (try (have hq2 := pBc hbu3 (b := wc.heap.size + 1) (by first  | omega | (simp; done) | (simp; omega)); obtain ⟨hcu3_wc_1, hfu3_wc_1⟩ := hq2)); (try (have hsu3_wc_1 : wc.heap.size + 1 < u3.heap.size := (by omega))); have Hu3 := Lib.hid hbu3; clear hbu3) | (go_at_call 108; refine (limb_Shl64 _ _ _ (W64_hab (by assumption)) (W64_lo _)).mono ?_; rintro e u4 ⟨rfl, hbu4⟩; have hzu4 := hbu4.size; (try simp at hzu4); have hsu4_w : w.heap.size ≤ u4.heap.size := (by omega); obtain ⟨hcu4_w_0, hfu4_w_0⟩ := pBc hbu4 (b := w.heap.size) pSd; have hsu4_w_0 : w.heap.size < u4.heap.size := (by omega); obtain ⟨hcu4_w_1, hfu4_w_1⟩ := pBc hbu4 (b := w.heap.size + 1) pSd; have hsu4_w_1 : w.heap.size + 1 < u4.heap.size := (by omega); obtain ⟨hcu4_w_2, hfu4_w_2⟩ := pBc hbu4 (b := w.heap.size + 1 + 1) pSd; have hsu4_w_2 : w.heap.size + 1 + 1 < u4.heap.size := (by omega); obtain ⟨hcu4_g6, hfu4_g6⟩ := pBc hbu4 (b := g6) pSd; have hsu4_g6 : g6 < u4.heap.size := (by omega); obtain ⟨hcu4_g7, hfu4_g7⟩ := pBc hbu4 (b := g7) pSd; have hsu4_g7 : g7 < u4.heap.size := (by omega); (try (have hq2 := pBc hbu4 (b := u3.heap.size) (by first  | omega | (simp; done) | (simp; omega)); obtain ⟨hcu4_u3_0, hfu4_u3_0⟩ := hq2)); (try (have hsu4_u3_0 : u3.heap.size < u4.heap.size := (by omega))); (try (have hq2 := pBc hbu4 (b := u3.heap.size + 1) (by first  | omega | (simp; done) | (simp; omega)); obtain ⟨hcu4_u3_1, hfu4_u3_1⟩ := hq2)); (try (have hsu4_u3_1 : u3.heap.size + 1 < u4.heap.size := (by omega))); (try (have hq2 := pBc hbu4 (b := wc.heap.size) (by first  | omega | (simp; done) | (simp; omega)); obtain ⟨hcu4_wc_0, hfu4_wc_0⟩ := hq2)); (try (have hsu4_wc_0 : wc.heap.size < u4.heap.size := (by omega))); (try (have hq2 := pBc hbu4 (b := wc.heap.size + 1) (by first  | omega | (simp; done) | (simp; omega)); obtain ⟨hcu4_wc_1, hfu4_wc_1⟩ := hq2)); (try (have hsu4_wc_1 : wc.heap.size + 1 < u4.heap.size := (by omega))); have Hu4 := Lib.hid hbu4; clear hbu4) | (go_at_call 107; refine (limb_Div0 _ _ _ _ _).mono ?_; rintro e u5 ⟨rfl, hbu5⟩; have hzu5 := hbu5.size; (try simp at hzu5); have hsu5_w : w.heap.size ≤ u5.heap.size := (by omega); obtain ⟨hcu5_w_0, hfu5_w_0⟩ := pBc hbu5 (b := w.heap.size) pSd; have hsu5_w_0 : w.heap.size < u5.heap.size := (by omega); obtain ⟨hcu5_w_1, hfu5_w_1⟩ := pBc hbu5 (b := w.heap.size + 1) pSd; have hsu5_w_1 : w.heap.size + 1 < u5.heap.size := (by omega); obtain ⟨hcu5_w_2, hfu5_w_2⟩ := pBc hbu5 (b := w.heap.size + 1 + 1) pSd; have hsu5_w_2 : w.heap.size + 1 + 1 < u5.heap.size := (by omega); obtain ⟨hcu5_g6, hfu5_g6⟩ := pBc hbu5 (b := g6) pSd; have hsu5_g6 : g6 < u5.heap.size := (by omega); obtain ⟨hcu5_g7, hfu5_g7⟩ := pBc hbu5 (b := g7) pSd; have hsu5_g7 : g7 < u5.heap.size := (by omega); (try (have hq2 := pBc hbu5 (b := u4.heap.size) (by first  | omega | (simp; done) | (simp; omega)); obtain ⟨hcu5_u4_0, hfu5_u4_0⟩ := hq2)); (try (have hsu5_u4_0 : u4.heap.size < u5.heap.size := (by omega))); (try (have hq2 := pBc hbu5 (b := u4.heap.size + 1) (by first  | omega | (simp; done) | (simp; omega)); obtain ⟨hcu5_u4_1, hfu5_u4_1⟩ := hq2)); (try (have hsu5_u4_1 : u4.heap.size + 1 < u5.heap.size := (by omega))); (try (have hq2 := pBc hbu5 (b := u3.heap.size) (by first  | omega | (simp; done) | (simp; omega)); obtain ⟨hcu5_u3_0, hfu5_u3_0⟩ := hq2)); (try (have hsu5_u3_0 : u3.heap.size < u5.heap.size := (by omega))); (try (have hq2 := pBc hbu5 (b := u3.heap.size + 1) (by first  | omega | (simp; done) | (simp; omega)); obtain ⟨hcu5_u3_1, hfu5_u3_1⟩ := hq2)); (try (have hsu5_u3_1 : u3.heap.size + 1 < u5.heap.size := (by omega))); (try (have hq2 := pBc hbu5 (b := wc.heap.size) (by first  | omega | (simp; done) | (simp; omega)); obtain ⟨hcu5_wc_0, hfu5_wc_0⟩ := hq2)); (try (have hsu5_wc_0 : wc.heap.size < u5.heap.size := (by omega))); (try (have hq2 := pBc hbu5 (b := wc.heap.size + 1) (by first  | omega | (simp; done) | (simp; omega)); obtain ⟨hcu5_wc_1, hfu5_wc_1⟩ := hq2)); (try (have hsu5_wc_1 : wc.heap.size + 1 < u5.heap.size := (by omega))); have Hu5 := Lib.hid hbu5; clear hbu5)))
      all_goals (go_wp2_with fail; go_meet; refine ⟨_, _, rfl, rfl, rfl, ?_, ?_, ?_, ?_, ?_⟩)
      all_goals first | omega | (simp (maxDischargeDepth := 9) [go_sem, *]; done) | (simp; omega) | skip
      all_goals (exact pBl)
    case rest =>
      obtain ⟨g8, g9, rfl, rfl, rfl, hb1, hz1, d0, d1, ft⟩ := hcut
      have Hb1 := Lib.hid hb1
      clear hb1
      go_wp2
      refine bodyPost_ret ?r rfl ⟨rfl, ?b⟩
      case r => simp (maxDischargeDepth := 9) [results, Try.results58, go_sem, *]
      case b => exact pBl
end Go.Proofs.Ytdphhkbbphfjlaa
