/- The walks of limb's small functions: sums, differences, words of a number. The walks of comparisons: cmp.Compare, cmp.Or, limb.Cmp, fix.Cmp. -/
import Derived.Test.YtdphhkbbphfjlaaCBase
import Derived.Deep.RegionHeld3
import Derived.Deep.DrawnRows
import Derived.Deep.QuietTactic
import Derived.BigQuiet
namespace Go.Proofs.Ytdphhkbbphfjlaa
set_option linter.unusedVariables false
set_option linter.unusedSimpArgs false
open Go.RowKit

theorem limb_Add_fin {ah al bh bl : Int} (ha : W64 ah) (hal : W64 al) (hb : W64 bh) (hbl : W64 bl) :
    lo (ah + bh + hi (al + bl)) = hi (w2 (val ah al + val bh bl)) ∧ lo (al + bl) = lo (w2 (val ah al + val bh bl)) ∧ decide (0 < hi (ah + bh + hi (al + bl))) = ov2 (val ah al + val bh bl) := by
  unfold W64 at *; unfold lo hi w2 val ov2
  refine ⟨by omega, by omega, ?_⟩
  rw [decide_eq_decide]; omega

set_option maxRecDepth 100000 in
set_option maxHeartbeats 2000000 in
theorem limb_Add (ah al bh bl : Int) (w : World) (ha : W64 ah) (hal : W64 al) (hb : W64 bh) (hbl : W64 bl) :
    Calls Try.prog 112 #[.agg #[.int .u64 ah, .int .u64 al], .agg #[.int .u64 bh, .int .u64 bl]] w fun e w' => e = .returned (.tuple #[.agg #[.int .u64 (hi (w2 (val ah al + val bh bl))), .int .u64 (lo (w2 (val ah al + val bh bl)))], .bool (ov2 (val ah al + val bh bl))]) ∧ Below w.heap.size w w' := by
  go_enter Try.func112, Try.ntmps112
  go_wp2_with (simp (disch := (first | assumption | exact C01_0 | exact C01_add0 (by assumption) (by assumption) | exact C01_add (by assumption) (by assumption) C01_0)) only [Try.run_add64])
  obtain ⟨h1, h2, h3⟩ := limb_Add_fin ha hal hb hbl
  refine bodyPost_ret ?r rfl ⟨rfl, ?b⟩
  case r => (simp [results, Try.results112, go_sem]; exact ⟨⟨h1, h2⟩, h3⟩)
  case b => exact pBl

theorem limb_Sub_fin {ah al bh bl : Int} (ha : W64 ah) (hal : W64 al) (hb : W64 bh) (hbl : W64 bl) :
    lo (ah - bh + hi (al - bl)) = hi (w2 (val ah al - val bh bl)) ∧ lo (al - bl) = lo (w2 (val ah al - val bh bl)) ∧ (hi (ah - bh + hi (al - bl)) < 0 ↔ val ah al < val bh bl) := by
  unfold W64 at *; unfold lo hi w2 val
  refine ⟨by omega, by omega, by omega⟩

set_option maxRecDepth 100000 in
set_option maxHeartbeats 2000000 in
theorem limb_Sub (ah al bh bl : Int) (w : World) (ha : W64 ah) (hal : W64 al) (hb : W64 bh) (hbl : W64 bl) :
    Calls Try.prog 110 #[.agg #[.int .u64 ah, .int .u64 al], .agg #[.int .u64 bh, .int .u64 bl]] w fun e w' => e = .returned (.tuple #[.agg #[.int .u64 (hi (w2 (val ah al - val bh bl))), .int .u64 (lo (w2 (val ah al - val bh bl)))], .bool (decide (val ah al < val bh bl))]) ∧ Below w.heap.size w w' := by
  go_enter Try.func110, Try.ntmps110
  go_wp2_with (simp (disch := (first | assumption | exact C01_0 | exact C01_sub0 (by assumption) (by assumption) | exact C01_sub (by assumption) (by assumption) C01_0)) only [Try.run_sub64])
  obtain ⟨h1, h2, h3⟩ := limb_Sub_fin ha hal hb hbl
  refine bodyPost_ret ?r rfl ⟨rfl, ?b⟩
  case r => (simp [results, Try.results110, go_sem]; exact ⟨⟨h1, h2⟩, h3⟩)
  case b => exact pBl

set_option maxRecDepth 100000 in
set_option maxHeartbeats 2000000 in
theorem limb_list (a b c d : Int) (w : World) :
    Calls Try.prog 129 #[.agg #[.int .u64 a, .int .u64 b, .int .u64 c, .int .u64 d]] w fun e w' => e = .returned (.agg #[.int .u64 d, .int .u64 c, .int .u64 b, .int .u64 a]) ∧ Below w.heap.size w w' := by
  go_enter Try.func129, Try.ntmps129
  go_wp2
  refine bodyPost_ret ?r rfl ⟨rfl, ?b⟩
  case r => simp [results, Try.results129, go_sem]
  case b => exact pBl

set_option maxRecDepth 100000 in
set_option maxHeartbeats 2000000 in
theorem limb_four (a b c d : Int) (w : World) :
    Calls Try.prog 130 #[.agg #[.int .u64 a, .int .u64 b, .int .u64 c, .int .u64 d]] w fun e w' => e = .returned (.agg #[.int .u64 d, .int .u64 c, .int .u64 b, .int .u64 a]) ∧ Below w.heap.size w w' := by
  go_enter Try.func130, Try.ntmps130
  go_wp2
  refine bodyPost_ret ?r rfl ⟨rfl, ?b⟩
  case r => simp [results, Try.results130, go_sem]
  case b => exact pBl

set_option maxRecDepth 100000 in
set_option maxHeartbeats 2000000 in
theorem fix_wide (h l : Int) (w : World) :
    Calls Try.prog 109 #[.agg #[.int .u64 h, .int .u64 l]] w fun e w' => e = .returned (.agg #[.int .u64 0, .int .u64 0, .int .u64 h, .int .u64 l]) ∧ Below w.heap.size w w' := by
  go_enter Try.func109, Try.ntmps109
  go_wp2
  refine bodyPost_ret ?r rfl ⟨rfl, ?b⟩
  case r => simp [results, Try.results109, go_sem]
  case b => exact pBl

end Go.Proofs.Ytdphhkbbphfjlaa
namespace Go.Proofs.Ytdphhkbbphfjlaa
set_option linter.unusedVariables false
set_option linter.unusedSimpArgs false
open Go.RowKit
attribute [local go_sem ↓] Go.wp_at_zero Go.wp_at_succ

/-- how two numbers stand -/
def cmpI (a b : Int) : Int := if a < b then -1 else if b < a then 1 else 0
def or2 (a b : Int) : Int := if a = 0 then b else a
theorem ret_i64 {a b : Int} (h : a = b) : Ending.returned (.int .i64 a) = .returned (.int .i64 b) := by rw [h]

set_option maxRecDepth 100000 in
set_option maxHeartbeats 2000000 in
theorem isNaN_u (a : Int) (w : World) : Calls Try.prog 127 #[.int .u64 a] w fun e w' => e = .returned (.bool false) ∧ w = w' := by
  go_enter Try.func127, Try.ntmps127
  go_wp2
  go_ret
  exact ⟨rfl, rfl⟩
set_option maxRecDepth 100000 in
set_option maxHeartbeats 2000000 in
theorem isNaN_i (a : Int) (w : World) : Calls Try.prog 126 #[.int .i64 a] w fun e w' => e = .returned (.bool false) ∧ w = w' := by
  go_enter Try.func126, Try.ntmps126
  go_wp2
  go_ret
  exact ⟨rfl, rfl⟩
set_option maxRecDepth 100000 in
set_option maxHeartbeats 2000000 in
theorem compare_u (a b : Int) (w : World) : Calls Try.prog 101 #[.int .u64 a, .int .u64 b] w fun e w' => e = .returned (.int .i64 (cmpI a b)) ∧ w = w' := by
  go_enter Try.func101, Try.ntmps101
  go_wp2_with ((with_reducible refine (isNaN_u _ _).mono ?_); rintro e w' ⟨rfl, rfl⟩)
  all_goals go_ret
  all_goals exact ⟨ret_i64 (by unfold cmpI; split <;> (try split) <;> omega), rfl⟩
set_option maxRecDepth 100000 in
set_option maxHeartbeats 2000000 in
theorem compare_i (a b : Int) (w : World) : Calls Try.prog 100 #[.int .i64 a, .int .i64 b] w fun e w' => e = .returned (.int .i64 (cmpI a b)) ∧ w = w' := by
  go_enter Try.func100, Try.ntmps100
  go_wp2_with ((with_reducible refine (isNaN_i _ _).mono ?_); rintro e w' ⟨rfl, rfl⟩)
  all_goals go_ret
  all_goals exact ⟨ret_i64 (by unfold cmpI; split <;> (try split) <;> omega), rfl⟩

set_option maxRecDepth 100000 in
set_option maxHeartbeats 2000000 in
theorem cmp_Or4 (g : Nat) (c0 c1 c2 c3 : Int) (w : World) (h0 : w.cell? ⟨g, 0, none⟩ = some (.int .i64 c0)) (h1 : w.cell? ⟨g, 1, none⟩ = some (.int .i64 c1)) (h2 : w.cell? ⟨g, 2, none⟩ = some (.int .i64 c2)) (h3 : w.cell? ⟨g, 3, none⟩ = some (.int .i64 c3)) :
    Calls Try.prog 99 #[.slice (some ⟨g, 0, none⟩) 4 4] w fun e w' => e = .returned (.int .i64 (or2 c0 (or2 c1 (or2 c2 c3)))) ∧ w = w' := by
  go_enter Try.func99, Try.ntmps99
  go_wp2
  refine wp_loop_rounds 5 ?_
  repeat any_goals (rw [rounds_succ]; go_wp2)
  all_goals go_ret
  all_goals exact ⟨ret_i64 (by simp_all [or2]), rfl⟩

set_option maxRecDepth 100000 in
set_option maxHeartbeats 2000000 in
theorem cmp_Or2 (g : Nat) (c0 c1 : Int) (w : World) (h0 : w.cell? ⟨g, 0, none⟩ = some (.int .i64 c0)) (h1 : w.cell? ⟨g, 1, none⟩ = some (.int .i64 c1)) :
    Calls Try.prog 99 #[.slice (some ⟨g, 0, none⟩) 2 2] w fun e w' => e = .returned (.int .i64 (or2 c0 c1)) ∧ w = w' := by
  go_enter Try.func99, Try.ntmps99
  go_wp2
  refine wp_loop_rounds 3 ?_
  repeat any_goals (rw [rounds_succ]; go_wp2)
  all_goals go_ret
  all_goals exact ⟨ret_i64 (by simp_all [or2]), rfl⟩

theorem cmp4 {a b c d a' b' c' d' : Int} (hb : W64 b) (hc : W64 c) (hd : W64 d) (hb' : W64 b') (hc' : W64 c') (hd' : W64 d') :
    or2 (cmpI a a') (or2 (cmpI b b') (or2 (cmpI c c') (cmpI d d'))) = cmpI (v4 a b c d) (v4 a' b' c' d') := by
  unfold W64 at *; unfold v4 val or2 cmpI
  repeat' split
  all_goals omega
theorem cmp2 {a b a' b' : Int} (hb : W64 b) (hb' : W64 b') : or2 (cmpI a a') (cmpI b b') = cmpI (val a b) (val a' b') := by
  unfold W64 at *; unfold val or2 cmpI
  repeat' split
  all_goals omega

set_option maxRecDepth 100000 in
set_option maxHeartbeats 2000000 in
theorem limb_Cmp (a b c d a' b' c' d' : Int) (w : World) (hb : W64 b) (hc : W64 c) (hd : W64 d) (hb' : W64 b') (hc' : W64 c') (hd' : W64 d') :
    Calls Try.prog 111 #[.agg #[.int .u64 a, .int .u64 b, .int .u64 c, .int .u64 d], .agg #[.int .u64 a', .int .u64 b', .int .u64 c', .int .u64 d']] w fun e w' => e = .returned (.int .i64 (cmpI (v4 a b c d) (v4 a' b' c' d'))) ∧ Below w.heap.size w w' := by
  go_enter Try.func111, Try.ntmps111
  go_wp2_with fail
  go_region_held3 (fun w' => w'.cell? ⟨w.heap.size, 0, none⟩ = some (.int .u64 a) ∧ w'.cell? ⟨w.heap.size, 1, none⟩ = some (.int .u64 b) ∧ w'.cell? ⟨w.heap.size, 2, none⟩ = some (.int .u64 c) ∧ w'.cell? ⟨w.heap.size, 3, none⟩ = some (.int .u64 d) ∧ w'.cell? ⟨w.heap.size + 1, 0, none⟩ = some (.int .u64 a') ∧ w'.cell? ⟨w.heap.size + 1, 1, none⟩ = some (.int .u64 b') ∧ w'.cell? ⟨w.heap.size + 1, 2, none⟩ = some (.int .u64 c') ∧ w'.cell? ⟨w.heap.size + 1, 3, none⟩ = some (.int .u64 d')) (go_keep) ((first | (go_at_call 101; refine (compare_u _ _ _).mono ?_; rintro e w' ⟨rfl, rfl⟩) | (go_at_call 99; refine (cmp_Or4 _ (cmpI a a') (cmpI b b') (cmpI c c') (cmpI d d') _ ?_ ?_ ?_ ?_).mono ?_; (go_simp); (go_simp); (go_simp); (go_simp); rintro e w' ⟨rfl, rfl⟩)))
  all_goals go_wp2
  all_goals go_ret
  all_goals refine ⟨ret_i64 (cmp4 hb hc hd hb' hc' hd'), ?_⟩
  all_goals (exact pBl)

set_option maxRecDepth 100000 in
set_option maxHeartbeats 2000000 in
theorem fix_Cmp (a b a' b' : Int) (w : World) (hb : W64 b) (hb' : W64 b') :
    Calls Try.prog 55 #[.agg #[.int .i64 a, .int .u64 b], .agg #[.int .i64 a', .int .u64 b']] w fun e w' => e = .returned (.int .i64 (cmpI (val a b) (val a' b'))) ∧ Below w.heap.size w w' := by
  go_enter Try.func55, Try.ntmps55
  go_wp2_with fail
  go_region_held3 (fun w' => w'.cell? ⟨w.heap.size, 0, none⟩ = some (.int .i64 a) ∧ w'.cell? ⟨w.heap.size, 1, none⟩ = some (.int .u64 b) ∧ w'.cell? ⟨w.heap.size + 1, 0, none⟩ = some (.int .i64 a') ∧ w'.cell? ⟨w.heap.size + 1, 1, none⟩ = some (.int .u64 b')) (go_keep) ((first | (go_at_call 101; refine (compare_u _ _ _).mono ?_; rintro e w' ⟨rfl, rfl⟩) | (go_at_call 100; refine (compare_i _ _ _).mono ?_; rintro e w' ⟨rfl, rfl⟩) | (go_at_call 99; refine (cmp_Or2 _ (cmpI a a') (cmpI b b') _ ?_ ?_).mono ?_; (go_simp); (go_simp); rintro e w' ⟨rfl, rfl⟩)))
  all_goals go_wp2
  all_goals go_ret
  all_goals refine ⟨ret_i64 (cmp2 hb hb'), ?_⟩
  all_goals (exact pBl)
end Go.Proofs.Ytdphhkbbphfjlaa
