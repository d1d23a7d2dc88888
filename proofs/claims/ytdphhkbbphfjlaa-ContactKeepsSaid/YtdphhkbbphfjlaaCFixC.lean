/- The walk of fix.Add. -/
import Derived.Test.YtdphhkbbphfjlaaCFixB
import Derived.Deep.RegionHeld3
import Derived.Deep.DeepCutAuto
namespace Go.Proofs.Ytdphhkbbphfjlaa
set_option linter.unusedVariables false
set_option linter.unusedSimpArgs false
open Go.RowKit
attribute [local go_sem] uwrap_lo lo_lo hi_lo val_hl val_00
attribute [local go_sem ↓] Go.wp_at_zero Go.wp_at_succ

theorem N127_sub {a b : Int} (ha : R a) (hb : R b) (h : ab a < ab b) : N127 (w2 (ab b - ab a)) := by
  have h1 := ab_lt hb
  have h2 := ab_nonneg a
  unfold N127 w2; omega
theorem N127_sub' {a b : Int} (ha : R a) (hb : R b) (h : ab b ≤ ab a) : N127 (w2 (ab a - ab b)) := by
  have h1 := ab_lt ha
  have h2 := ab_nonneg b
  unfold N127 w2; omega
theorem told_rng {n : Int} {b : Bool} (h : 0 ≤ n) : toldX n b = rng (sg b n) := by
  have e : N127 n ↔ R (sg b n) := by unfold N127 R sg; cases b <;> simp <;> omega
  unfold toldX rng
  by_cases h1 : N127 n
  · rw [if_pos h1, if_pos (e.1 h1)]
  · rw [if_neg h1, if_neg (fun h2 => h1 (e.2 h2))]
theorem add_same {a b : Int} (ha : R a) (hb : R b) (h : ng a = ng b) : toldX (v4 0 0 (hi (w2 (ab a + ab b))) (lo (w2 (ab a + ab b)))) (ng a) = addX a b := by
  have e : v4 0 0 (hi (w2 (ab a + ab b))) (lo (w2 (ab a + ab b))) = ab a + ab b := by
    have h1 := ab_lt ha
    have h2 := ab_lt hb
    have h3 := ab_nonneg a
    have h4 := ab_nonneg b
    unfold v4 val hi lo w2; omega
  rw [e, told_rng (by have := ab_nonneg a; have := ab_nonneg b; omega)]
  unfold addX
  congr 1
  unfold ng at *
  unfold ab sg
  by_cases h1 : a < 0 <;> by_cases h2 : b < 0 <;> simp [h1, h2] at h ⊢ <;> omega
theorem add_less {a b : Int} (ha : R a) (hb : R b) (h : ¬ ng a = ng b) (hl : ab a < ab b) : sg (ng b) (w2 (ab b - ab a)) = nOf (addX a b) ∧ eOf (addX a b) = 0 := by
  have e : w2 (ab b - ab a) = ab b - ab a := by
    have h1 := ab_lt hb
    have h2 := ab_nonneg a
    unfold w2; omega
  rw [e]
  have hr : R (a + b) := by
    unfold R ng ab at *
    by_cases h1 : a < 0 <;> by_cases h2 : b < 0 <;> simp [h1, h2] at h hl ⊢ <;> omega
  unfold addX
  rw [rng_ok hr]
  refine ⟨?_, rfl⟩
  show _ = a + b
  unfold ng ab sg at *
  by_cases h1 : a < 0 <;> by_cases h2 : b < 0 <;> simp [h1, h2] at h hl ⊢ <;> omega
theorem add_more {a b : Int} (ha : R a) (hb : R b) (h : ¬ ng a = ng b) (hl : ab b ≤ ab a) : sg (ng a) (w2 (ab a - ab b)) = nOf (addX a b) ∧ eOf (addX a b) = 0 := by
  have e : w2 (ab a - ab b) = ab a - ab b := by
    have h1 := ab_lt ha
    have h2 := ab_nonneg b
    unfold w2; omega
  rw [e]
  have hr : R (a + b) := by
    unfold R ng ab at *
    by_cases h1 : a < 0 <;> by_cases h2 : b < 0 <;> simp [h1, h2] at h hl ⊢ <;> omega
  unfold addX
  rw [rng_ok hr]
  refine ⟨?_, rfl⟩
  show _ = a + b
  unfold ng ab sg at *
  by_cases h1 : a < 0 <;> by_cases h2 : b < 0 <;> simp [h1, h2] at h hl ⊢ <;> omega
set_option maxRecDepth 100000 in
set_option maxHeartbeats 2000000 in
theorem fix_Add (ah al bh bl : Int) (w : World) (hal : W64 al) (hah : I64 ah) (hbl : W64 bl) (hbh : I64 bh) (hA : R (val ah al)) (hB : R (val bh bl)) :
    Calls Try.prog 59 #[.agg #[.int .i64 ah, .int .u64 al], .agg #[.int .i64 bh, .int .u64 bl]] w fun e w' => e = .returned (.tuple #[.agg #[.int .i64 (hi (nOf (addX (val ah al) (val bh bl)))), .int .u64 (lo (nOf (addX (val ah al) (val bh bl))))], .int .i64 (eOf (addX (val ah al) (val bh bl)))]) ∧ Below w.heap.size w w' := by
  go_enter Try.func59, Try.ntmps59
  go_upto_region 1 with fail
  go_cut [6, 7] (fun s6 s7 wx => ∃ g6 g7 : Nat, s6 = .pointer (some ⟨g6, 0, none⟩) ∧ s7 = .pointer (some ⟨g7, 0, none⟩) ∧ Below w.heap.size w wx ∧ w.heap.size + 1 + 1 < g6 ∧ w.heap.size + 1 + 1 < g7 ∧ g6 ≠ g7 ∧ g6 < wx.heap.size ∧ g7 < wx.heap.size
    ∧ wx.cell? ⟨w.heap.size + 1 + 1, 0, none⟩ = some (.int .i64 0) ∧ wx.cell? ⟨w.heap.size + 1 + 1, 1, none⟩ = some (.int .u64 0) ∧ (∀ o, wx.frozen? ⟨w.heap.size + 1 + 1, o, none⟩ = false)
    ∧ wx.cell? ⟨g6, 0, none⟩ = some (.int .u64 (hi (ab (val ah al)))) ∧ wx.cell? ⟨g6, 1, none⟩ = some (.int .u64 (lo (ab (val ah al)))) ∧ wx.cell? ⟨g6, 2, none⟩ = some (.bool (ng (val ah al)))
    ∧ wx.cell? ⟨g7, 0, none⟩ = some (.int .u64 (hi (ab (val bh bl)))) ∧ wx.cell? ⟨g7, 1, none⟩ = some (.int .u64 (lo (ab (val bh bl)))) ∧ wx.cell? ⟨g7, 2, none⟩ = some (.bool (ng (val bh bl))))
  case first =>
    go_region_held3 (fun w' => w'.cell? ⟨w.heap.size, 0, none⟩ = some (.int .i64 ah) ∧ w'.cell? ⟨w.heap.size, 1, none⟩ = some (.int .u64 al) ∧ w'.cell? ⟨w.heap.size + 1, 0, none⟩ = some (.int .i64 bh) ∧ w'.cell? ⟨w.heap.size + 1, 1, none⟩ = some (.int .u64 bl)) (refine ⟨?_, ?_, ?_, ?_⟩ <;> (simp (maxDischargeDepth := 9) [go_sem, *]; done))
      ((first | (go_at_call_of 102 (Value.agg #[.int .i64 ah, .int .u64 al]); refine (fix_of _ _ _ (by assumption) (by assumption)).mono ?_; rintro e u1 ⟨rfl, hbu1⟩; have hzu1 := hbu1.size; (try simp at hzu1); have hsu1_w : w.heap.size ≤ u1.heap.size := (by omega); obtain ⟨hcu1_w_0, hfu1_w_0⟩ := pBc hbu1 (b := w.heap.size) pSd; have hsu1_w_0 : w.heap.size < u1.heap.size := (by omega); obtain ⟨hcu1_w_1, hfu1_w_1⟩ := pBc hbu1 (b := w.heap.size + 1) pSd; have hsu1_w_1 : w.heap.size + 1 < u1.heap.size := (by omega); obtain ⟨hcu1_w_2, hfu1_w_2⟩ := pBc hbu1 (b := w.heap.size + 1 + 1) pSd; have hsu1_w_2 : w.heap.size + 1 + 1 < u1.heap.size := (by omega); (try (have hq2 := pBc hbu1 (b := w.heap.size + 1 + 1 + 1) (by first  | omega | (simp; done) | (simp; omega)); obtain ⟨hcu1_w_3, hfu1_w_3⟩ := hq2)); (try (have hsu1_w_3 : w.heap.size + 1 + 1 + 1 < u1.heap.size := (by omega))); (try (have hq2 := pBc hbu1 (b := w.heap.size + 1 + 1 + 1 + 1) (by first  | omega | (simp; done) | (simp; omega)); obtain ⟨hcu1_w_4, hfu1_w_4⟩ := hq2)); (try (have hsu1_w_4 : w.heap.size + 1 + 1 + 1 + 1 < u1.heap.size := (by omega))); have Hu1 := Lib.hid hbu1; clear hbu1) | (go_at_call 102; refine (fix_of _ _ _ (by assumption) (by assumption)).mono ?_; rintro e u2 ⟨rfl, hbu2⟩; have hzu2 := hbu2.size; (try simp at hzu2); have hsu2_w : w.heap.size ≤ u2.heap.size := (by omega); obtain ⟨hcu2_w_0, hfu2_w_0⟩ := pBc hbu2 (b := w.heap.size) pSd; have hsu2_w_0 : w.heap.size < u2.heap.size := (by omega); obtain ⟨hcu2_w_1, hfu2_w_1⟩ := pBc hbu2 (b := w.heap.size + 1) pSd; have hsu2_w_1 : w.heap.size + 1 < u2.heap.size := (by omega); obtain ⟨hcu2_w_2, hfu2_w_2⟩ := pBc hbu2 (b := w.heap.size + 1 + 1) pSd; have hsu2_w_2 : w.heap.size + 1 + 1 < u2.heap.size := (by omega); (try (have hq2 := pBc hbu2 (b := w.heap.size + 1 + 1 + 1) (by first  | omega | (simp; done) | (simp; omega)); obtain ⟨hcu2_w_3, hfu2_w_3⟩ := hq2)); (try (have hsu2_w_3 : w.heap.size + 1 + 1 + 1 < u2.heap.size := (by omega))); (try (have hq2 := pBc hbu2 (b := w.heap.size + 1 + 1 + 1 + 1) (by first  | omega | (simp; done) | (simp; omega)); obtain ⟨hcu2_w_4, hfu2_w_4⟩ := hq2)); (try (have hsu2_w_4 : w.heap.size + 1 + 1 + 1 + 1 < u2.heap.size := (by omega))); (try (have hq2 := pBc hbu2 (b := u1.heap.size) (by first  | omega | (simp; done) | (simp; omega)); obtain ⟨hcu2_u1_0, hfu2_u1_0⟩ := hq2)); (try (have hsu2_u1_0 : u1.heap.size < u2.heap.size := (by omega))); (try (have hq2 := pBc hbu2 (b := u1.heap.size + 1) (by first  | omega | (simp; done) | (simp; omega)); obtain ⟨hcu2_u1_1, hfu2_u1_1⟩ := hq2)); (try (have hsu2_u1_1 : u1.heap.size + 1 < u2.heap.size := (by omega))); have Hu2 := Lib.hid hbu2; clear hbu2)))
    all_goals (go_wp2_with fail; go_meet; refine ⟨_, _, rfl, rfl, ?_, ?_, ?_, ?_, ?_, ?_, ?_, ?_, ?_, ?_, ?_, ?_, ?_, ?_, ?_⟩)
    all_goals first | omega | (simp (maxDischargeDepth := 9) [go_sem, *]; done) | (simp; omega) | skip
    all_goals (exact pBl)
  case rest =>
    obtain ⟨g6, g7, rfl, rfl, hb0, h6, h7, hne, l6, l7, c0, c1, f4, x0, x1, x2, y0, y1, y2⟩ := hcut
    have Hb0 := Lib.hid hb0
    clear hb0
    by_cases hs : ng (val ah al) = ng (val bh bl)
    · have hsB : (ng (val ah al) == ng (val bh bl)) = true := by simp [hs]
      have Hs := Lib.hid hs
      clear hs
      go_wp2_with (go_at_call 112; refine (limb_Add _ _ _ _ _ (W64_hab (by assumption)) (W64_lo _) (W64_hab (by assumption)) (W64_lo _)).mono ?_; rintro e u3 ⟨rfl, hbu3⟩; have hzu3 := hbu3.size; (try simp at hzu3); have hsu3_w : w.heap.size ≤ u3.heap.size := (by omega); obtain ⟨hcu3_w_0, hfu3_w_0⟩ := pBc hbu3 (b := w.heap.size) pSd; have hsu3_w_0 : w.heap.size < u3.heap.size := (by omega); obtain ⟨hcu3_w_1, hfu3_w_1⟩ := pBc hbu3 (b := w.heap.size + 1) pSd; have hsu3_w_1 : w.heap.size + 1 < u3.heap.size := (by omega); obtain ⟨hcu3_w_2, hfu3_w_2⟩ := pBc hbu3 (b := w.heap.size + 1 + 1) pSd; have hsu3_w_2 : w.heap.size + 1 + 1 < u3.heap.size := (by omega); obtain ⟨hcu3_g6, hfu3_g6⟩ := pBc hbu3 (b := g6) pSd; have hsu3_g6 : g6 < u3.heap.size := (by omega); obtain ⟨hcu3_g7, hfu3_g7⟩ := pBc hbu3 (b := g7) pSd; have hsu3_g7 : g7 < u3.heap.size := (by omega); have Hu3 := Lib.hid hbu3; clear hbu3)
      go_region_held3 (fun w' => w'.cell? ⟨u3.heap.size, 0, none⟩ = some (.int .u64 (hi (w2 (ab (val ah al) + ab (val bh bl))))) ∧ w'.cell? ⟨u3.heap.size, 1, none⟩ = some (.int .u64 (lo (w2 (ab (val ah al) + ab (val bh bl))))) ∧ w'.cell? ⟨g6, 2, none⟩ = some (.bool (ng (val ah al)))) (refine ⟨?_, ?_, ?_⟩ <;> (simp (maxDischargeDepth := 9) [go_sem, *]; done))
        ((first | (go_at_call 109; refine (fix_wide _ _ _).mono ?_; rintro e u4 ⟨rfl, hbu4⟩; have hzu4 := hbu4.size; (try simp at hzu4); have hsu4_w : w.heap.size ≤ u4.heap.size := (by omega); obtain ⟨hcu4_w_0, hfu4_w_0⟩ := pBc hbu4 (b := w.heap.size) pSd; have hsu4_w_0 : w.heap.size < u4.heap.size := (by omega); obtain ⟨hcu4_w_1, hfu4_w_1⟩ := pBc hbu4 (b := w.heap.size + 1) pSd; have hsu4_w_1 : w.heap.size + 1 < u4.heap.size := (by omega); obtain ⟨hcu4_w_2, hfu4_w_2⟩ := pBc hbu4 (b := w.heap.size + 1 + 1) pSd; have hsu4_w_2 : w.heap.size + 1 + 1 < u4.heap.size := (by omega); obtain ⟨hcu4_g6, hfu4_g6⟩ := pBc hbu4 (b := g6) pSd; have hsu4_g6 : g6 < u4.heap.size := (by omega); have hsu4_u3 : u3.heap.size ≤ u4.heap.size := (by omega); obtain ⟨hcu4_u3_0, hfu4_u3_0⟩ := pBc hbu4 (b := u3.heap.size) pSd; have hsu4_u3_0 : u3.heap.size < u4.heap.size := (by omega); have Hu4 := Lib.hid hbu4; clear hbu4) | (go_at_call 103; refine (fix_told _ _ _ _ _ _ W64_0 W64_0 (W64_hw2 _) (W64_lo _)).mono ?_; rintro e u5 ⟨rfl, hbu5⟩; have hzu5 := hbu5.size; (try simp at hzu5); have hsu5_w : w.heap.size ≤ u5.heap.size := (by omega); obtain ⟨hcu5_w_0, hfu5_w_0⟩ := pBc hbu5 (b := w.heap.size) pSd; have hsu5_w_0 : w.heap.size < u5.heap.size := (by omega); obtain ⟨hcu5_w_1, hfu5_w_1⟩ := pBc hbu5 (b := w.heap.size + 1) pSd; have hsu5_w_1 : w.heap.size + 1 < u5.heap.size := (by omega); obtain ⟨hcu5_w_2, hfu5_w_2⟩ := pBc hbu5 (b := w.heap.size + 1 + 1) pSd; have hsu5_w_2 : w.heap.size + 1 + 1 < u5.heap.size := (by omega); obtain ⟨hcu5_g6, hfu5_g6⟩ := pBc hbu5 (b := g6) pSd; have hsu5_g6 : g6 < u5.heap.size := (by omega); have hsu5_u3 : u3.heap.size ≤ u5.heap.size := (by omega); obtain ⟨hcu5_u3_0, hfu5_u3_0⟩ := pBc hbu5 (b := u3.heap.size) pSd; have hsu5_u3_0 : u3.heap.size < u5.heap.size := (by omega); have Hu5 := Lib.hid hbu5; clear hbu5)))
      all_goals go_wp2
      all_goals refine bodyPost_ret ?r rfl ⟨rfl, ?b⟩
      case r =>
        simp (maxDischargeDepth := 9) [results, Try.results59, go_sem, *]
        rw [add_same hA hB Hs.out]; exact ⟨⟨rfl, rfl⟩, rfl⟩
      case b => exact pBl
    · have hsB : (ng (val ah al) == ng (val bh bl)) = false := by simp [hs]
      have Hs := Lib.hid hs
      clear hs
      by_cases hl : ab (val ah al) < ab (val bh bl)
      · have hlB : decide (ab (val ah al) < ab (val bh bl)) = true := by simp [hl]
        have Hl := Lib.hid hl
        clear hl
        go_wp2_with (first
          | (go_at_call_of 110 (Value.agg #[.int .u64 (hi (ab (val ah al))), .int .u64 (lo (ab (val ah al)))]); refine (limb_Sub _ _ _ _ _ (W64_hab (by assumption)) (W64_lo _) (W64_hab (by assumption)) (W64_lo _)).mono ?_; rintro e u3 ⟨rfl, hbu3⟩; have hzu3 := hbu3.size; (try simp at hzu3); have hsu3_w : w.heap.size ≤ u3.heap.size := (by omega); obtain ⟨hcu3_w_0, hfu3_w_0⟩ := pBc hbu3 (b := w.heap.size) pSd; have hsu3_w_0 : w.heap.size < u3.heap.size := (by omega); obtain ⟨hcu3_w_1, hfu3_w_1⟩ := pBc hbu3 (b := w.heap.size + 1) pSd; have hsu3_w_1 : w.heap.size + 1 < u3.heap.size := (by omega); obtain ⟨hcu3_w_2, hfu3_w_2⟩ := pBc hbu3 (b := w.heap.size + 1 + 1) pSd; have hsu3_w_2 : w.heap.size + 1 + 1 < u3.heap.size := (by omega); obtain ⟨hcu3_g6, hfu3_g6⟩ := pBc hbu3 (b := g6) pSd; have hsu3_g6 : g6 < u3.heap.size := (by omega); obtain ⟨hcu3_g7, hfu3_g7⟩ := pBc hbu3 (b := g7) pSd; have hsu3_g7 : g7 < u3.heap.size := (by omega); have Hu3 := Lib.hid hbu3; clear hbu3)
          | (go_at_call 110; refine (limb_Sub _ _ _ _ _ (W64_hab (by assumption)) (W64_lo _) (W64_hab (by assumption)) (W64_lo _)).mono ?_; rintro e u4 ⟨rfl, hbu4⟩; have hzu4 := hbu4.size; (try simp at hzu4); have hsu4_w : w.heap.size ≤ u4.heap.size := (by omega); obtain ⟨hcu4_w_0, hfu4_w_0⟩ := pBc hbu4 (b := w.heap.size) pSd; have hsu4_w_0 : w.heap.size < u4.heap.size := (by omega); obtain ⟨hcu4_w_1, hfu4_w_1⟩ := pBc hbu4 (b := w.heap.size + 1) pSd; have hsu4_w_1 : w.heap.size + 1 < u4.heap.size := (by omega); obtain ⟨hcu4_w_2, hfu4_w_2⟩ := pBc hbu4 (b := w.heap.size + 1 + 1) pSd; have hsu4_w_2 : w.heap.size + 1 + 1 < u4.heap.size := (by omega); obtain ⟨hcu4_g6, hfu4_g6⟩ := pBc hbu4 (b := g6) pSd; have hsu4_g6 : g6 < u4.heap.size := (by omega); obtain ⟨hcu4_g7, hfu4_g7⟩ := pBc hbu4 (b := g7) pSd; have hsu4_g7 : g7 < u4.heap.size := (by omega); have hsu4_u3 : u3.heap.size ≤ u4.heap.size := (by omega); obtain ⟨hcu4_u3_0, hfu4_u3_0⟩ := pBc hbu4 (b := u3.heap.size) pSd; have hsu4_u3_0 : u3.heap.size < u4.heap.size := (by omega); have Hu4 := Lib.hid hbu4; clear hbu4)
          | (go_at_call 113; refine (fix_fix _ _ _ _ (W64_hw2 _) (W64_lo _) (by rw [val_hl]; exact N127_sub (by assumption) (by assumption) Hl.out)).mono ?_; rintro e u5 ⟨rfl, hbu5⟩; have hzu5 := hbu5.size; (try simp at hzu5); have hsu5_w : w.heap.size ≤ u5.heap.size := (by omega); obtain ⟨hcu5_w_0, hfu5_w_0⟩ := pBc hbu5 (b := w.heap.size) pSd; have hsu5_w_0 : w.heap.size < u5.heap.size := (by omega); obtain ⟨hcu5_w_1, hfu5_w_1⟩ := pBc hbu5 (b := w.heap.size + 1) pSd; have hsu5_w_1 : w.heap.size + 1 < u5.heap.size := (by omega); obtain ⟨hcu5_w_2, hfu5_w_2⟩ := pBc hbu5 (b := w.heap.size + 1 + 1) pSd; have hsu5_w_2 : w.heap.size + 1 + 1 < u5.heap.size := (by omega); have Hu5 := Lib.hid hbu5; clear hbu5))
        all_goals refine bodyPost_ret ?r rfl ⟨rfl, ?b⟩
        case r =>
          simp (maxDischargeDepth := 9) [results, Try.results59, go_sem, *]
          obtain ⟨f1, f2⟩ := add_less hA hB Hs.out Hl.out
          rw [f1, f2]; exact ⟨⟨rfl, rfl⟩, rfl⟩
        case b => exact pBl
      · have hlB : decide (ab (val ah al) < ab (val bh bl)) = false := by simp; omega
        have hl2 : ab (val bh bl) ≤ ab (val ah al) := by omega
        have Hl := Lib.hid hl2
        clear hl hl2
        go_wp2_with (first
          | (go_at_call 110; refine (limb_Sub _ _ _ _ _ (W64_hab (by assumption)) (W64_lo _) (W64_hab (by assumption)) (W64_lo _)).mono ?_; rintro e u3 ⟨rfl, hbu3⟩; have hzu3 := hbu3.size; (try simp at hzu3); have hsu3_w : w.heap.size ≤ u3.heap.size := (by omega); obtain ⟨hcu3_w_0, hfu3_w_0⟩ := pBc hbu3 (b := w.heap.size) pSd; have hsu3_w_0 : w.heap.size < u3.heap.size := (by omega); obtain ⟨hcu3_w_1, hfu3_w_1⟩ := pBc hbu3 (b := w.heap.size + 1) pSd; have hsu3_w_1 : w.heap.size + 1 < u3.heap.size := (by omega); obtain ⟨hcu3_w_2, hfu3_w_2⟩ := pBc hbu3 (b := w.heap.size + 1 + 1) pSd; have hsu3_w_2 : w.heap.size + 1 + 1 < u3.heap.size := (by omega); obtain ⟨hcu3_g6, hfu3_g6⟩ := pBc hbu3 (b := g6) pSd; have hsu3_g6 : g6 < u3.heap.size := (by omega); obtain ⟨hcu3_g7, hfu3_g7⟩ := pBc hbu3 (b := g7) pSd; have hsu3_g7 : g7 < u3.heap.size := (by omega); have Hu3 := Lib.hid hbu3; clear hbu3)
          | (go_at_call 113; refine (fix_fix _ _ _ _ (W64_hw2 _) (W64_lo _) (by rw [val_hl]; exact N127_sub' (by assumption) (by assumption) Hl.out)).mono ?_; rintro e u5 ⟨rfl, hbu5⟩; have hzu5 := hbu5.size; (try simp at hzu5); have hsu5_w : w.heap.size ≤ u5.heap.size := (by omega); obtain ⟨hcu5_w_0, hfu5_w_0⟩ := pBc hbu5 (b := w.heap.size) pSd; have hsu5_w_0 : w.heap.size < u5.heap.size := (by omega); obtain ⟨hcu5_w_1, hfu5_w_1⟩ := pBc hbu5 (b := w.heap.size + 1) pSd; have hsu5_w_1 : w.heap.size + 1 < u5.heap.size := (by omega); obtain ⟨hcu5_w_2, hfu5_w_2⟩ := pBc hbu5 (b := w.heap.size + 1 + 1) pSd; have hsu5_w_2 : w.heap.size + 1 + 1 < u5.heap.size := (by omega); have Hu5 := Lib.hid hbu5; clear hbu5))
        all_goals refine bodyPost_ret ?r rfl ⟨rfl, ?b⟩
        case r =>
          simp (maxDischargeDepth := 9) [results, Try.results59, go_sem, *]
          obtain ⟨f1, f2⟩ := add_more hA hB Hs.out Hl.out
          rw [f1, f2]; exact ⟨⟨rfl, rfl⟩, rfl⟩
        case b => exact pBl
end Go.Proofs.Ytdphhkbbphfjlaa
