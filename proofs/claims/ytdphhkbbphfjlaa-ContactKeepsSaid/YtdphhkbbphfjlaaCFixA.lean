/- The walks of fix's small functions: of, fix, told, more, Neg. -/
import Derived.Test.YtdphhkbbphfjlaaCLimbG
import Derived.Test.YtdphhkbbphfjlaaCSp
import Derived.Deep.RegionWith
namespace Go.Proofs.Ytdphhkbbphfjlaa
set_option linter.unusedVariables false
set_option linter.unusedSimpArgs false
open Go.RowKit
attribute [local go_sem] uwrap_lo lo_lo hi_lo val_hl val_00

theorem of_pos {h l : Int} (hl : W64 l) (h0 : 0 ≤ val h l) (hh : I64 h) : 0 ≤ h ∧ lo h = h ∧ ab (val h l) = val h l ∧ ng (val h l) = false := by
  unfold W64 I64 val at *
  refine ⟨by omega, by unfold lo; omega, by unfold ab; rw [if_neg (by omega)], by unfold ng; simp; omega⟩
theorem of_neg {h l : Int} (hl : W64 l) (h0 : val h l < 0) (hh : I64 h) : h < 0 ∧ w2 (-val (lo h) l) = ab (val h l) ∧ ng (val h l) = true := by
  refine ⟨by unfold W64 I64 val at *; omega, ?_, by unfold ng; simp; exact h0⟩
  unfold ab; rw [if_pos h0]
  unfold W64 I64 w2 val lo at *; omega

set_option maxRecDepth 100000 in
set_option maxHeartbeats 2000000 in
theorem fix_of (h l : Int) (w : World) (hl : W64 l) (hh : I64 h) :
    Calls Try.prog 102 #[.agg #[.int .i64 h, .int .u64 l]] w fun e w' => e = .returned (.agg #[.int .u64 (hi (ab (val h l))), .int .u64 (lo (ab (val h l))), .bool (ng (val h l))]) ∧ Below w.heap.size w w' := by
  by_cases h0 : 0 ≤ val h l
  · obtain ⟨h1, h2, h3, h4⟩ := of_pos hl h0 hh
    have hz : (h / 9223372036854775808 == 0) = true := by simp; unfold I64 at hh; omega
    rw [h3, h4, hi_val hl, lo_val hl]
    clear h3 h4 h0
    go_enter Try.func102, Try.ntmps102
    go_wp2
    refine bodyPost_ret ?r rfl ⟨rfl, ?b⟩
    case r => simp [results, Try.results102, go_sem, *]
    case b => exact pBl
  · obtain ⟨h1, h2, h3⟩ := of_neg hl (by omega) hh
    have hz : (h / 9223372036854775808 == 0) = false := by simp; unfold I64 at hh; omega
    rw [h3, ← h2]
    clear h3 h2 h0
    go_enter Try.func102, Try.ntmps102
    go_wp2_with (go_at_call 110; refine (limb_Sub _ _ _ _ _ W64_0 W64_0 (W64_lo _) (by assumption)).mono ?_; rintro e u1 ⟨rfl, hbu1⟩; have hzu1 := hbu1.size; (try simp at hzu1); have hsu1_w : w.heap.size ≤ u1.heap.size := (by omega); obtain ⟨hcu1_w_0, hfu1_w_0⟩ := pBc hbu1 (b := w.heap.size) pSd; have hsu1_w_0 : w.heap.size < u1.heap.size := (by omega); obtain ⟨hcu1_w_1, hfu1_w_1⟩ := pBc hbu1 (b := w.heap.size + 1) pSd; have hsu1_w_1 : w.heap.size + 1 < u1.heap.size := (by omega); obtain ⟨hcu1_w_2, hfu1_w_2⟩ := pBc hbu1 (b := w.heap.size + 1 + 1) pSd; have hsu1_w_2 : w.heap.size + 1 + 1 < u1.heap.size := (by omega); have Hu1 := Lib.hid hbu1; clear hbu1)
    refine bodyPost_ret ?r rfl ⟨rfl, ?b⟩
    case r =>
      simp (maxDischargeDepth := 9) [results, Try.results102, go_sem, *]
    case b => exact pBl

/-- less than 2 to the power of 127 -/
def N127 (x : Int) : Prop := x < 170141183460469231731687303715884105728

theorem W64_hab {x : Int} (h : R x) : W64 (hi (ab x)) := by unfold R at h; unfold W64 hi ab; split <;> omega
theorem N127_ab {x : Int} (h : R x) : N127 (val (hi (ab x)) (lo (ab x))) := by rw [val_hl]; exact ab_lt h
theorem fix_fin0 {h l : Int} (hh : W64 h) (hl : W64 l) (hN : N127 (val h l)) : wrap64 h = hi (sg false (val h l)) ∧ l = lo (sg false (val h l)) := by
  have e : sg false (val h l) = val h l := rfl
  rw [e, hi_val hl, lo_val hl]
  refine ⟨?_, rfl⟩
  unfold wrap64; unfold W64 N127 val at *; omega
theorem fix_fin1 {h l : Int} (hh : W64 h) (hl : W64 l) (hN : N127 (val h l)) : wrap64 (hi (w2 (-val h l))) = hi (sg true (val h l)) ∧ lo (w2 (-val h l)) = lo (sg true (val h l)) := by
  have e : sg true (val h l) = -val h l := rfl
  rw [e]
  unfold W64 N127 at *
  unfold wrap64 hi lo w2 val at *
  refine ⟨by omega, by omega⟩
theorem sg_not (x : Int) : sg (!ng x) (ab x) = -x := by
  unfold sg ng ab
  by_cases h : x < 0 <;> simp [h]
theorem sg_self (x : Int) : sg (ng x) (ab x) = x := by
  unfold sg ng ab
  by_cases h : x < 0 <;> simp [h]
set_option maxRecDepth 100000 in
set_option maxHeartbeats 2000000 in
theorem fix_fix (h l : Int) (b : Bool) (w : World) (hh : W64 h) (hl : W64 l) (hN : N127 (val h l)) :
    Calls Try.prog 113 #[.agg #[.int .u64 h, .int .u64 l, .bool b]] w fun e w' => e = .returned (.agg #[.int .i64 (hi (sg b (val h l))), .int .u64 (lo (sg b (val h l)))]) ∧ Below w.heap.size w w' := by
  cases b
  · go_enter Try.func113, Try.ntmps113
    go_wp2
    refine bodyPost_ret ?r rfl ⟨rfl, ?b⟩
    case r =>
      simp (maxDischargeDepth := 9) [results, Try.results113, go_sem, *]
      exact fix_fin0 hh hl hN
    case b => exact pBl
  · go_enter Try.func113, Try.ntmps113
    go_wp2_with (go_at_call 110; refine (limb_Sub _ _ _ _ _ W64_0 W64_0 (by assumption) (by assumption)).mono ?_; rintro e u1 ⟨rfl, hbu1⟩; have hzu1 := hbu1.size; (try simp at hzu1); have hsu1_w : w.heap.size ≤ u1.heap.size := (by omega); obtain ⟨hcu1_w_0, hfu1_w_0⟩ := pBc hbu1 (b := w.heap.size) pSd; have hsu1_w_0 : w.heap.size < u1.heap.size := (by omega); obtain ⟨hcu1_w_1, hfu1_w_1⟩ := pBc hbu1 (b := w.heap.size + 1) pSd; have hsu1_w_1 : w.heap.size + 1 < u1.heap.size := (by omega); obtain ⟨hcu1_w_2, hfu1_w_2⟩ := pBc hbu1 (b := w.heap.size + 1 + 1) pSd; have hsu1_w_2 : w.heap.size + 1 + 1 < u1.heap.size := (by omega); have Hu1 := Lib.hid hbu1; clear hbu1)
    refine bodyPost_ret ?r rfl ⟨rfl, ?b⟩
    case r =>
      simp (maxDischargeDepth := 9) [results, Try.results113, go_sem, *]
      exact fix_fin1 hh hl hN
    case b => exact pBl

set_option maxRecDepth 100000 in
set_option maxHeartbeats 2000000 in
theorem fix_Neg (h l : Int) (w : World) (hl : W64 l) (hh : I64 h) (hR : R (val h l)) :
    Calls Try.prog 115 #[.agg #[.int .i64 h, .int .u64 l]] w fun e w' => e = .returned (.agg #[.int .i64 (hi (-val h l)), .int .u64 (lo (-val h l))]) ∧ Below w.heap.size w w' := by
  go_enter Try.func115, Try.ntmps115
  go_wp2_with (first | (go_at_call 102; refine (fix_of _ _ _ (by assumption) (by assumption)).mono ?_; rintro e u1 ⟨rfl, hbu1⟩; have hzu1 := hbu1.size; (try simp at hzu1); have hsu1_w : w.heap.size ≤ u1.heap.size := (by omega); obtain ⟨hcu1_w_0, hfu1_w_0⟩ := pBc hbu1 (b := w.heap.size) pSd; have hsu1_w_0 : w.heap.size < u1.heap.size := (by omega); obtain ⟨hcu1_w_1, hfu1_w_1⟩ := pBc hbu1 (b := w.heap.size + 1) pSd; have hsu1_w_1 : w.heap.size + 1 < u1.heap.size := (by omega); have Hu1 := Lib.hid hbu1; clear hbu1) | (go_at_call 113; refine (fix_fix _ _ _ _ (W64_hab (by assumption)) (W64_lo _) (N127_ab (by assumption))).mono ?_; rintro e u2 ⟨rfl, hbu2⟩; have hzu2 := hbu2.size; (try simp at hzu2); have hsu2_w : w.heap.size ≤ u2.heap.size := (by omega); obtain ⟨hcu2_w_0, hfu2_w_0⟩ := pBc hbu2 (b := w.heap.size) pSd; have hsu2_w_0 : w.heap.size < u2.heap.size := (by omega); obtain ⟨hcu2_w_1, hfu2_w_1⟩ := pBc hbu2 (b := w.heap.size + 1) pSd; have hsu2_w_1 : w.heap.size + 1 < u2.heap.size := (by omega); have hsu2_u1 : u1.heap.size ≤ u2.heap.size := (by omega); obtain ⟨hcu2_u1_0, hfu2_u1_0⟩ := pBc hbu2 (b := u1.heap.size) pSd; have hsu2_u1_0 : u1.heap.size < u2.heap.size := (by omega); have Hu2 := Lib.hid hbu2; clear hbu2))
  refine bodyPost_ret ?r rfl ⟨rfl, ?b⟩
  case r =>
    simp (maxDischargeDepth := 9) [results, Try.results115, go_sem, *]
    rw [sg_not]; exact ⟨rfl, rfl⟩
  case b => exact pBl

instance (x : Int) : Decidable (N127 x) := by unfold N127; infer_instance
/-- a size, and whether it is below nought, as a number that may be -/
def toldX (n : Int) (b : Bool) : Except Int Int := if N127 n then .ok (sg b n) else .error 3

set_option maxRecDepth 100000 in
set_option maxHeartbeats 2000000 in
theorem fix_told_ok (p q h l : Int) (b : Bool) (w : World) (hp : W64 p) (hq : W64 q) (hh : W64 h) (hl : W64 l) (hN : N127 (v4 p q h l)) :
    Calls Try.prog 103 #[.agg #[.int .u64 p, .int .u64 q, .int .u64 h, .int .u64 l], .bool b] w fun e w' => e = .returned (.tuple #[.agg #[.int .i64 (hi (sg b (v4 p q h l))), .int .u64 (lo (sg b (v4 p q h l)))], .int .i64 0]) ∧ Below w.heap.size w w' := by
  have hv : v4 p q h l = val h l := by unfold N127 at hN; unfold W64 at *; unfold v4 val at *; omega
  have hb := bl4_big hp hq hh hl
  have hbig : decide (127 < bl4 p q h l) = false := by simp; unfold N127 at hN; omega
  rw [hv] at hN ⊢
  clear hv hb
  go_enter Try.func103, Try.ntmps103
  go_wp2_with (first | (go_at_call 128; refine (limb_Len _ _ _ _ _ (by assumption) (by assumption) (by assumption) (by assumption)).mono ?_; rintro e u1 ⟨rfl, hbu1⟩; have hzu1 := hbu1.size; (try simp at hzu1); have hsu1_w : w.heap.size ≤ u1.heap.size := (by omega); obtain ⟨hcu1_w_0, hfu1_w_0⟩ := pBc hbu1 (b := w.heap.size) pSd; have hsu1_w_0 : w.heap.size < u1.heap.size := (by omega); obtain ⟨hcu1_w_1, hfu1_w_1⟩ := pBc hbu1 (b := w.heap.size + 1) pSd; have hsu1_w_1 : w.heap.size + 1 < u1.heap.size := (by omega); have Hu1 := Lib.hid hbu1; clear hbu1) | (go_at_call 113; refine (fix_fix _ _ _ _ (by assumption) (by assumption) (by assumption)).mono ?_; rintro e u2 ⟨rfl, hbu2⟩; have hzu2 := hbu2.size; (try simp at hzu2); have hsu2_w : w.heap.size ≤ u2.heap.size := (by omega); obtain ⟨hcu2_w_0, hfu2_w_0⟩ := pBc hbu2 (b := w.heap.size) pSd; have hsu2_w_0 : w.heap.size < u2.heap.size := (by omega); obtain ⟨hcu2_w_1, hfu2_w_1⟩ := pBc hbu2 (b := w.heap.size + 1) pSd; have hsu2_w_1 : w.heap.size + 1 < u2.heap.size := (by omega); have Hu2 := Lib.hid hbu2; clear hbu2))
  all_goals refine bodyPost_ret ?r rfl ⟨rfl, ?b⟩
  case r => simp (maxDischargeDepth := 9) [results, Try.results103, go_sem, *]
  case b => exact pBl

set_option maxRecDepth 100000 in
set_option maxHeartbeats 2000000 in
theorem fix_told_err (p q h l : Int) (b : Bool) (w : World) (hp : W64 p) (hq : W64 q) (hh : W64 h) (hl : W64 l) (hN : ¬ N127 (v4 p q h l)) :
    Calls Try.prog 103 #[.agg #[.int .u64 p, .int .u64 q, .int .u64 h, .int .u64 l], .bool b] w fun e w' => e = .returned (.tuple #[.agg #[.int .i64 0, .int .u64 0], .int .i64 3]) ∧ Below w.heap.size w w' := by
  have hb := bl4_big hp hq hh hl
  have hbig : decide (127 < bl4 p q h l) = true := by simp; unfold N127 at hN; omega
  clear hb hN
  go_enter Try.func103, Try.ntmps103
  go_wp2_with (first | (go_at_call 128; refine (limb_Len _ _ _ _ _ (by assumption) (by assumption) (by assumption) (by assumption)).mono ?_; rintro e u1 ⟨rfl, hbu1⟩; have hzu1 := hbu1.size; (try simp at hzu1); have hsu1_w : w.heap.size ≤ u1.heap.size := (by omega); obtain ⟨hcu1_w_0, hfu1_w_0⟩ := pBc hbu1 (b := w.heap.size) pSd; have hsu1_w_0 : w.heap.size < u1.heap.size := (by omega); obtain ⟨hcu1_w_1, hfu1_w_1⟩ := pBc hbu1 (b := w.heap.size + 1) pSd; have hsu1_w_1 : w.heap.size + 1 < u1.heap.size := (by omega); have Hu1 := Lib.hid hbu1; clear hbu1))
  all_goals refine bodyPost_ret ?r rfl ⟨rfl, ?b⟩
  case r => simp (maxDischargeDepth := 9) [results, Try.results103, go_sem, *]
  case b => exact pBl

theorem fix_told (p q h l : Int) (b : Bool) (w : World) (hp : W64 p) (hq : W64 q) (hh : W64 h) (hl : W64 l) :
    Calls Try.prog 103 #[.agg #[.int .u64 p, .int .u64 q, .int .u64 h, .int .u64 l], .bool b] w fun e w' => e = .returned (.tuple #[.agg #[.int .i64 (hi (nOf (toldX (v4 p q h l) b))), .int .u64 (lo (nOf (toldX (v4 p q h l) b)))], .int .i64 (eOf (toldX (v4 p q h l) b))]) ∧ Below w.heap.size w w' := by
  unfold toldX
  by_cases hN : N127 (v4 p q h l)
  · rw [if_pos hN]; exact fix_told_ok p q h l b w hp hq hh hl hN
  · rw [if_neg hN]; exact fix_told_err p q h l b w hp hq hh hl hN

end Go.Proofs.Ytdphhkbbphfjlaa
