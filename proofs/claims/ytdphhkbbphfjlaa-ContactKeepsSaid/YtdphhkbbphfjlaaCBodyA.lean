/- The walks of drift.Speed and of the reckoner's speed and over. -/
import Derived.Test.YtdphhkbbphfjlaaCRowA
import Derived.Test.YtdphhkbbphfjlaaCSpecB
namespace Go.Proofs.Ytdphhkbbphfjlaa
set_option linter.unusedVariables false
set_option linter.unusedSimpArgs false
open Go.RowKit
attribute [local go_sem] uwrap_lo lo_lo hi_lo val_hl val_00
attribute [local go_sem ↓] Go.wp_at_zero Go.wp_at_succ loadRow_body
attribute [local go_sem] rowAt_at rowAt_past rowAt_drew rowAt_far run_load_body

set_option maxRecDepth 100000 in
set_option maxHeartbeats 8000000 in
theorem drift_Speed (b : BodyI) (w : World) (hb : MayN b) :
    Calls Try.prog 98 #[.agg #[.int .i64 (hi b.mass), .int .u64 (lo b.mass), .int .i64 (hi b.radius), .int .u64 (lo b.radius), .int .i64 (hi b.x), .int .u64 (lo b.x), .int .i64 (hi b.y), .int .u64 (lo b.y), .int .i64 (hi b.px), .int .u64 (lo b.px), .int .i64 (hi b.py), .int .u64 (lo b.py), .int .i64 (hi b.fuel), .int .u64 (lo b.fuel), .int .i64 (hi b.rate), .int .u64 (lo b.rate), .int .i64 (hi b.exh), .int .u64 (lo b.exh), .int .i64 b.thr, .int .i64 b.head]] w fun e w' => e = .returned (.tuple #[.agg #[.int .i64 (hi (xOf (speedX b))), .int .u64 (lo (xOf (speedX b))), .int .i64 (hi (yOf (speedX b))), .int .u64 (lo (yOf (speedX b)))], .int .i64 (eOf (speedX b))]) ∧ Below w.heap.size w w' := by
  have h1 := MayF.of hb.mass
  have h2 := MayF.of hb.px
  have h3 := MayF.of hb.py
  unfold speedX
  go_enter Try.func98, Try.ntmps98
  go_wp2_with (go_at_call 125; refine (drift_over _ _ _ _ _ _ _ (by assumption) (by assumption) (by assumption)).mono ?_; rintro e u1 ⟨rfl, hbu1⟩; have hzu1 := hbu1.size; (try simp at hzu1); have hsu1_w : w.heap.size ≤ u1.heap.size := (by omega); obtain ⟨hcu1_w_0, hfu1_w_0⟩ := pBc hbu1 (b := w.heap.size) pSd; have hsu1_w_0 : w.heap.size < u1.heap.size := (by omega); obtain ⟨hcu1_w_1, hfu1_w_1⟩ := pBc hbu1 (b := w.heap.size + 1) pSd; have hsu1_w_1 : w.heap.size + 1 < u1.heap.size := (by omega); have Hu1 := Lib.hid hbu1; clear hbu1)
  all_goals refine bodyPost_ret ?rr rfl ⟨rfl, ?bb⟩
  case rr => (simp (maxDischargeDepth := 9) [results, Try.results98, go_sem, *, hi_z, lo_z])
  case bb => exact pBl

set_option maxRecDepth 100000 in
set_option maxHeartbeats 8000000 in
theorem reck_speed (g : Nat) (E : Int) (b : BodyI) (w : World) (hg : One w g (.int .i64 E) 101) (hb : MayN b) :
    Calls Try.prog 54 #[.pointer (some ⟨g, 0, none⟩), .agg #[.int .i64 (hi b.mass), .int .u64 (lo b.mass), .int .i64 (hi b.radius), .int .u64 (lo b.radius), .int .i64 (hi b.x), .int .u64 (lo b.x), .int .i64 (hi b.y), .int .u64 (lo b.y), .int .i64 (hi b.px), .int .u64 (lo b.px), .int .i64 (hi b.py), .int .u64 (lo b.py), .int .i64 (hi b.fuel), .int .u64 (lo b.fuel), .int .i64 (hi b.rate), .int .u64 (lo b.rate), .int .i64 (hi b.exh), .int .u64 (lo b.exh), .int .i64 b.thr, .int .i64 b.head]] w fun e w' => e = .returned (.agg #[.int .i64 (hi (rX E (speedX b))), .int .u64 (lo (rX E (speedX b))), .int .i64 (hi (rY E (speedX b))), .int .u64 (lo (rY E (speedX b)))]) ∧ Only g w w' ∧ One w' g (.int .i64 (rE E (speedX b))) 101 := by
  have c0 := hg.cell
  have f0 := hg.free
  have lt := hg.lt
  have lt1 : g < w.heap.size + 1 := by omega
  have lt2 : g < w.heap.size + 1 + 1 := by omega
  have le0 : g ≤ w.heap.size := by omega
  have le1 : g ≤ w.heap.size + 1 := by omega
  have Hg := Lib.hid hg
  clear hg
  by_cases hE : E = 0
  · subst hE
    rw [rX_0, rY_0, rE_0]
    go_enter Try.func54, Try.ntmps54
    go_wp2_with (go_at_call 98; refine (drift_Speed b _ hb).mono ?_; rintro e u1 ⟨rfl, hbu1⟩; have hzu1 := hbu1.size; (try simp at hzu1); have hsu1_w : w.heap.size ≤ u1.heap.size := (by omega); obtain ⟨hcu1_w_0, hfu1_w_0⟩ := pBc hbu1 (b := w.heap.size) pSd; have hsu1_w_0 : w.heap.size < u1.heap.size := (by omega); obtain ⟨hcu1_w_1, hfu1_w_1⟩ := pBc hbu1 (b := w.heap.size + 1) pSd; have hsu1_w_1 : w.heap.size + 1 < u1.heap.size := (by omega); obtain ⟨hcu1_g, hfu1_g⟩ := pBc hbu1 (b := g) pSd; have hsu1_g : g < u1.heap.size := (by omega); have Hu1 := Lib.hid hbu1; clear hbu1)
    all_goals refine bodyPost_ret ?rr rfl ⟨rfl, ?bb, ?cc⟩
    case rr => (simp (maxDischargeDepth := 9) [results, Try.results54, go_sem, *, hi_z, lo_z])
    case bb => exact pOn
    case cc => exact pOg
  · have hB : (E != 0) = true := by simp [hE]
    rw [rX_n hE, rY_n hE, rE_n hE]
    clear hE
    go_enter Try.func54, Try.ntmps54
    go_wp2_with fail
    all_goals refine bodyPost_ret ?rr rfl ⟨rfl, ?bb, ?cc⟩
    case rr => (simp (maxDischargeDepth := 9) [results, Try.results54, go_sem, *, hi_z, lo_z])
    case bb => exact pOn
    case cc => exact pOg

end Go.Proofs.Ytdphhkbbphfjlaa
