/- The walks of comparisons: cmp.Compare, cmp.Or, limb.Cmp, fix.Cmp. -/
import Derived.Test.YtdphhkbbphfjlaaLimbA
import Derived.Deep.RegionHeld3
import Derived.Deep.DrawnRows
import Derived.Deep.QuietTactic
import Derived.BigQuiet
set_option linter.unusedVariables false
set_option linter.unusedSimpArgs false
namespace Go.Proofs.Ytdphhkbbphfjlaa
open Go.RowKit
attribute [local go_sem ↓] Go.wp_at_zero Go.wp_at_succ

/-- how two numbers stand -/
def cmpI (a b : Int) : Int := if a < b then -1 else if b < a then 1 else 0
def or2 (a b : Int) : Int := if a = 0 then b else a
theorem ret_i64 {a b : Int} (h : a = b) : Ending.returned (.int .i64 a) = .returned (.int .i64 b) := by rw [h]

set_option maxRecDepth 100000 in
set_option maxHeartbeats 2000000 in
theorem isNaN_u (a : Int) (w : World) : Calls Try.prog 127 #[.int .u64 a] w fun e w' => e = .returned (.bool false) ∧ w = w' := by
  go_enter Try.func127, Try.ntmps127
  go_wp2
  go_ret
  exact ⟨rfl, rfl⟩
set_option maxRecDepth 100000 in
set_option maxHeartbeats 2000000 in
theorem isNaN_i (a : Int) (w : World) : Calls Try.prog 126 #[.int .i64 a] w fun e w' => e = .returned (.bool false) ∧ w = w' := by
  go_enter Try.func126, Try.ntmps126
  go_wp2
  go_ret
  exact ⟨rfl, rfl⟩
set_option maxRecDepth 100000 in
set_option maxHeartbeats 2000000 in
theorem compare_u (a b : Int) (w : World) : Calls Try.prog 101 #[.int .u64 a, .int .u64 b] w fun e w' => e = .returned (.int .i64 (cmpI a b)) ∧ w = w' := by
  go_enter Try.func101, Try.ntmps101
  go_wp2_with ((with_reducible refine (isNaN_u _ _).mono ?_); rintro e w' ⟨rfl, rfl⟩)
  all_goals go_ret
  all_goals exact ⟨ret_i64 (by unfold cmpI; split <;> (try split) <;> omega), rfl⟩
set_option maxRecDepth 100000 in
set_option maxHeartbeats 2000000 in
theorem compare_i (a b : Int) (w : World) : Calls Try.prog 100 #[.int .i64 a, .int .i64 b] w fun e w' => e = .returned (.int .i64 (cmpI a b)) ∧ w = w' := by
  go_enter Try.func100, Try.ntmps100
  go_wp2_with ((with_reducible refine (isNaN_i _ _).mono ?_); rintro e w' ⟨rfl, rfl⟩)
  all_goals go_ret
  all_goals exact ⟨ret_i64 (by unfold cmpI; split <;> (try split) <;> omega), rfl⟩

set_option maxRecDepth 100000 in
set_option maxHeartbeats 2000000 in
theorem cmp_Or4 (g : Nat) (c0 c1 c2 c3 : Int) (w : World) (h0 : w.cell? ⟨g, 0, none⟩ = some (.int .i64 c0)) (h1 : w.cell? ⟨g, 1, none⟩ = some (.int .i64 c1)) (h2 : w.cell? ⟨g, 2, none⟩ = some (.int .i64 c2)) (h3 : w.cell? ⟨g, 3, none⟩ = some (.int .i64 c3)) :
    Calls Try.prog 99 #[.slice (some ⟨g, 0, none⟩) 4 4] w fun e w' => e = .returned (.int .i64 (or2 c0 (or2 c1 (or2 c2 c3)))) ∧ w = w' := by
  go_enter Try.func99, Try.ntmps99
  go_wp2
  refine wp_loop_rounds 5 ?_
  repeat any_goals (rw [rounds_succ]; go_wp2)
  all_goals go_ret
  all_goals exact ⟨ret_i64 (by simp_all [or2]), rfl⟩

set_option maxRecDepth 100000 in
set_option maxHeartbeats 2000000 in
theorem cmp_Or2 (g : Nat) (c0 c1 : Int) (w : World) (h0 : w.cell? ⟨g, 0, none⟩ = some (.int .i64 c0)) (h1 : w.cell? ⟨g, 1, none⟩ = some (.int .i64 c1)) :
    Calls Try.prog 99 #[.slice (some ⟨g, 0, none⟩) 2 2] w fun e w' => e = .returned (.int .i64 (or2 c0 c1)) ∧ w = w' := by
  go_enter Try.func99, Try.ntmps99
  go_wp2
  refine wp_loop_rounds 3 ?_
  repeat any_goals (rw [rounds_succ]; go_wp2)
  all_goals go_ret
  all_goals exact ⟨ret_i64 (by simp_all [or2]), rfl⟩

theorem cmp4 {a b c d a' b' c' d' : Int} (hb : W64 b) (hc : W64 c) (hd : W64 d) (hb' : W64 b') (hc' : W64 c') (hd' : W64 d') :
    or2 (cmpI a a') (or2 (cmpI b b') (or2 (cmpI c c') (cmpI d d'))) = cmpI (v4 a b c d) (v4 a' b' c' d') := by
  unfold W64 at *; unfold v4 val or2 cmpI
  repeat' split
  all_goals omega
theorem cmp2 {a b a' b' : Int} (hb : W64 b) (hb' : W64 b') : or2 (cmpI a a') (cmpI b b') = cmpI (val a b) (val a' b') := by
  unfold W64 at *; unfold val or2 cmpI
  repeat' split
  all_goals omega

set_option maxRecDepth 100000 in
set_option maxHeartbeats 2000000 in
theorem limb_Cmp (a b c d a' b' c' d' : Int) (w : World) (hb : W64 b) (hc : W64 c) (hd : W64 d) (hb' : W64 b') (hc' : W64 c') (hd' : W64 d') :
    Calls Try.prog 111 #[.agg #[.int .u64 a, .int .u64 b, .int .u64 c, .int .u64 d], .agg #[.int .u64 a', .int .u64 b', .int .u64 c', .int .u64 d']] w fun e w' => e = .returned (.int .i64 (cmpI (v4 a b c d) (v4 a' b' c' d'))) ∧ Below w.heap.size w w' := by
  go_enter Try.func111, Try.ntmps111
  go_wp2_with fail
  go_region_held3 (fun w' => w'.cell? ⟨w.heap.size, 0, none⟩ = some (.int .u64 a) ∧ w'.cell? ⟨w.heap.size, 1, none⟩ = some (.int .u64 b) ∧ w'.cell? ⟨w.heap.size, 2, none⟩ = some (.int .u64 c) ∧ w'.cell? ⟨w.heap.size, 3, none⟩ = some (.int .u64 d) ∧ w'.cell? ⟨w.heap.size + 1, 0, none⟩ = some (.int .u64 a') ∧ w'.cell? ⟨w.heap.size + 1, 1, none⟩ = some (.int .u64 b') ∧ w'.cell? ⟨w.heap.size + 1, 2, none⟩ = some (.int .u64 c') ∧ w'.cell? ⟨w.heap.size + 1, 3, none⟩ = some (.int .u64 d')) (go_keep) ((first | (go_at_call 101; refine (compare_u _ _ _).mono ?_; rintro e w' ⟨rfl, rfl⟩) | (go_at_call 99; refine (cmp_Or4 _ (cmpI a a') (cmpI b b') (cmpI c c') (cmpI d d') _ ?_ ?_ ?_ ?_).mono ?_; (go_simp); (go_simp); (go_simp); (go_simp); rintro e w' ⟨rfl, rfl⟩)))
  all_goals go_wp2
  all_goals go_ret
  all_goals refine ⟨ret_i64 (cmp4 hb hc hd hb' hc' hd'), ?_⟩
  all_goals (exact pBl)

set_option maxRecDepth 100000 in
set_option maxHeartbeats 2000000 in
theorem fix_Cmp (a b a' b' : Int) (w : World) (hb : W64 b) (hb' : W64 b') :
    Calls Try.prog 55 #[.agg #[.int .i64 a, .int .u64 b], .agg #[.int .i64 a', .int .u64 b']] w fun e w' => e = .returned (.int .i64 (cmpI (val a b) (val a' b'))) ∧ Below w.heap.size w w' := by
  go_enter Try.func55, Try.ntmps55
  go_wp2_with fail
  go_region_held3 (fun w' => w'.cell? ⟨w.heap.size, 0, none⟩ = some (.int .i64 a) ∧ w'.cell? ⟨w.heap.size, 1, none⟩ = some (.int .u64 b) ∧ w'.cell? ⟨w.heap.size + 1, 0, none⟩ = some (.int .i64 a') ∧ w'.cell? ⟨w.heap.size + 1, 1, none⟩ = some (.int .u64 b')) (go_keep) ((first | (go_at_call 101; refine (compare_u _ _ _).mono ?_; rintro e w' ⟨rfl, rfl⟩) | (go_at_call 100; refine (compare_i _ _ _).mono ?_; rintro e w' ⟨rfl, rfl⟩) | (go_at_call 99; refine (cmp_Or2 _ (cmpI a a') (cmpI b b') _ ?_ ?_).mono ?_; (go_simp); (go_simp); rintro e w' ⟨rfl, rfl⟩)))
  all_goals go_wp2
  all_goals go_ret
  all_goals refine ⟨ret_i64 (cmp2 hb hb'), ?_⟩
  all_goals (exact pBl)
end Go.Proofs.Ytdphhkbbphfjlaa
