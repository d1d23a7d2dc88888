/- The walks of contact's reckoner: a step is done where no error is there. -/
import Derived.Test.YtdphhkbbphfjlaaCVecB
import Derived.Test.YtdphhkbbphfjlaaCMem
namespace Go.Proofs.Ytdphhkbbphfjlaa
set_option linter.unusedVariables false
set_option linter.unusedSimpArgs false
open Go.RowKit
attribute [local go_sem] uwrap_lo lo_lo hi_lo val_hl val_00
attribute [local go_sem ↓] Go.wp_at_zero Go.wp_at_succ

theorem rN_0 (r : Except Int Int) : rN 0 r = nOf r := rfl
theorem rX_0 (r : Except Int (Int × Int)) : rX 0 r = xOf r := rfl
theorem rY_0 (r : Except Int (Int × Int)) : rY 0 r = yOf r := rfl
theorem rE_0 {α : Type} (r : Except Int α) : rE 0 r = eOf r := rfl
theorem rN_n {E : Int} (h : ¬ E = 0) (r : Except Int Int) : rN E r = 0 := if_neg h
theorem rX_n {E : Int} (h : ¬ E = 0) (r : Except Int (Int × Int)) : rX E r = 0 := if_neg h
theorem rY_n {E : Int} (h : ¬ E = 0) (r : Except Int (Int × Int)) : rY E r = 0 := if_neg h
theorem rE_n {α : Type} {E : Int} (h : ¬ E = 0) (r : Except Int α) : rE E r = E := if_neg h

set_option maxRecDepth 100000 in
set_option maxHeartbeats 8000000 in
theorem reck_fix_Add (g : Nat) (E : Int) (ah al bh bl : Int) (w : World) (hg : One w g (.int .i64 E) 101) (h1 : MayF ah al) (h2 : MayF bh bl) :
    Calls Try.prog 56 #[.pointer (some ⟨g, 0, none⟩), .func (.func 59) #[] #[], .agg #[.int .i64 ah, .int .u64 al], .agg #[.int .i64 bh, .int .u64 bl]] w fun e w' => e = .returned (.agg #[.int .i64 (hi (rN E (addX (val ah al) (val bh bl)))), .int .u64 (lo (rN E (addX (val ah al) (val bh bl))))]) ∧ Only g w w' ∧ One w' g (.int .i64 (rE E (addX (val ah al) (val bh bl)))) 101 := by
  have c0 := hg.cell
  have f0 := hg.free
  have lt := hg.lt
  have lt1 : g < w.heap.size + 1 := by omega
  have lt2 : g < w.heap.size + 1 + 1 := by omega
  have le0 : g ≤ w.heap.size := by omega
  have le1 : g ≤ w.heap.size + 1 := by omega
  have Hg := Lib.hid hg
  clear hg
  by_cases hE : E = 0
  · subst hE
    rw [rN_0, rE_0]
    go_enter Try.func56, Try.ntmps56
    go_wp2_with (go_at_call 59; refine (num_Add _ _ _ _ _ (by assumption) (by assumption)).mono ?_; rintro e u1 ⟨rfl, hbu1⟩; have hzu1 := hbu1.size; (try simp at hzu1); have hsu1_w : w.heap.size ≤ u1.heap.size := (by omega); obtain ⟨hcu1_w_0, hfu1_w_0⟩ := pBc hbu1 (b := w.heap.size) pSd; have hsu1_w_0 : w.heap.size < u1.heap.size := (by omega); obtain ⟨hcu1_w_1, hfu1_w_1⟩ := pBc hbu1 (b := w.heap.size + 1) pSd; have hsu1_w_1 : w.heap.size + 1 < u1.heap.size := (by omega); obtain ⟨hcu1_w_2, hfu1_w_2⟩ := pBc hbu1 (b := w.heap.size + 1 + 1) pSd; have hsu1_w_2 : w.heap.size + 1 + 1 < u1.heap.size := (by omega); obtain ⟨hcu1_g, hfu1_g⟩ := pBc hbu1 (b := g) pSd; have hsu1_g : g < u1.heap.size := (by omega); have Hu1 := Lib.hid hbu1; clear hbu1)
    all_goals refine bodyPost_ret ?rr rfl ⟨rfl, ?bb, ?cc⟩
    case rr => (simp (maxDischargeDepth := 9) [results, Try.results56, go_sem, *, hi_z, lo_z])
    case bb => exact pOn
    case cc => exact pOg
  · have hB : (E != 0) = true := by simp [hE]
    rw [rN_n hE, rE_n hE]
    clear hE
    go_enter Try.func56, Try.ntmps56
    go_wp2_with fail
    all_goals refine bodyPost_ret ?rr rfl ⟨rfl, ?bb, ?cc⟩
    case rr => (simp (maxDischargeDepth := 9) [results, Try.results56, go_sem, *, hi_z, lo_z])
    case bb => exact pOn
    case cc => exact pOg

set_option maxRecDepth 100000 in
set_option maxHeartbeats 8000000 in
theorem reck_fix_Mul (g : Nat) (E : Int) (ah al bh bl : Int) (w : World) (hg : One w g (.int .i64 E) 101) (h1 : MayF ah al) (h2 : MayF bh bl) :
    Calls Try.prog 56 #[.pointer (some ⟨g, 0, none⟩), .func (.func 57) #[] #[], .agg #[.int .i64 ah, .int .u64 al], .agg #[.int .i64 bh, .int .u64 bl]] w fun e w' => e = .returned (.agg #[.int .i64 (hi (rN E (mulX (val ah al) (val bh bl)))), .int .u64 (lo (rN E (mulX (val ah al) (val bh bl))))]) ∧ Only g w w' ∧ One w' g (.int .i64 (rE E (mulX (val ah al) (val bh bl)))) 101 := by
  have c0 := hg.cell
  have f0 := hg.free
  have lt := hg.lt
  have lt1 : g < w.heap.size + 1 := by omega
  have lt2 : g < w.heap.size + 1 + 1 := by omega
  have le0 : g ≤ w.heap.size := by omega
  have le1 : g ≤ w.heap.size + 1 := by omega
  have Hg := Lib.hid hg
  clear hg
  by_cases hE : E = 0
  · subst hE
    rw [rN_0, rE_0]
    go_enter Try.func56, Try.ntmps56
    go_wp2_with (go_at_call 57; refine (num_Mul _ _ _ _ _ (by assumption) (by assumption)).mono ?_; rintro e u1 ⟨rfl, hbu1⟩; have hzu1 := hbu1.size; (try simp at hzu1); have hsu1_w : w.heap.size ≤ u1.heap.size := (by omega); obtain ⟨hcu1_w_0, hfu1_w_0⟩ := pBc hbu1 (b := w.heap.size) pSd; have hsu1_w_0 : w.heap.size < u1.heap.size := (by omega); obtain ⟨hcu1_w_1, hfu1_w_1⟩ := pBc hbu1 (b := w.heap.size + 1) pSd; have hsu1_w_1 : w.heap.size + 1 < u1.heap.size := (by omega); obtain ⟨hcu1_w_2, hfu1_w_2⟩ := pBc hbu1 (b := w.heap.size + 1 + 1) pSd; have hsu1_w_2 : w.heap.size + 1 + 1 < u1.heap.size := (by omega); obtain ⟨hcu1_g, hfu1_g⟩ := pBc hbu1 (b := g) pSd; have hsu1_g : g < u1.heap.size := (by omega); have Hu1 := Lib.hid hbu1; clear hbu1)
    all_goals refine bodyPost_ret ?rr rfl ⟨rfl, ?bb, ?cc⟩
    case rr => (simp (maxDischargeDepth := 9) [results, Try.results56, go_sem, *, hi_z, lo_z])
    case bb => exact pOn
    case cc => exact pOg
  · have hB : (E != 0) = true := by simp [hE]
    rw [rN_n hE, rE_n hE]
    clear hE
    go_enter Try.func56, Try.ntmps56
    go_wp2_with fail
    all_goals refine bodyPost_ret ?rr rfl ⟨rfl, ?bb, ?cc⟩
    case rr => (simp (maxDischargeDepth := 9) [results, Try.results56, go_sem, *, hi_z, lo_z])
    case bb => exact pOn
    case cc => exact pOg

set_option maxRecDepth 100000 in
set_option maxHeartbeats 8000000 in
theorem reck_fix_Div (g : Nat) (E : Int) (ah al bh bl : Int) (w : World) (hg : One w g (.int .i64 E) 101) (h1 : MayF ah al) (h2 : MayF bh bl) :
    Calls Try.prog 56 #[.pointer (some ⟨g, 0, none⟩), .func (.func 58) #[] #[], .agg #[.int .i64 ah, .int .u64 al], .agg #[.int .i64 bh, .int .u64 bl]] w fun e w' => e = .returned (.agg #[.int .i64 (hi (rN E (divX (val ah al) (val bh bl)))), .int .u64 (lo (rN E (divX (val ah al) (val bh bl))))]) ∧ Only g w w' ∧ One w' g (.int .i64 (rE E (divX (val ah al) (val bh bl)))) 101 := by
  have c0 := hg.cell
  have f0 := hg.free
  have lt := hg.lt
  have lt1 : g < w.heap.size + 1 := by omega
  have lt2 : g < w.heap.size + 1 + 1 := by omega
  have le0 : g ≤ w.heap.size := by omega
  have le1 : g ≤ w.heap.size + 1 := by omega
  have Hg := Lib.hid hg
  clear hg
  by_cases hE : E = 0
  · subst hE
    rw [rN_0, rE_0]
    go_enter Try.func56, Try.ntmps56
    go_wp2_with (go_at_call 58; refine (num_Div _ _ _ _ _ (by assumption) (by assumption)).mono ?_; rintro e u1 ⟨rfl, hbu1⟩; have hzu1 := hbu1.size; (try simp at hzu1); have hsu1_w : w.heap.size ≤ u1.heap.size := (by omega); obtain ⟨hcu1_w_0, hfu1_w_0⟩ := pBc hbu1 (b := w.heap.size) pSd; have hsu1_w_0 : w.heap.size < u1.heap.size := (by omega); obtain ⟨hcu1_w_1, hfu1_w_1⟩ := pBc hbu1 (b := w.heap.size + 1) pSd; have hsu1_w_1 : w.heap.size + 1 < u1.heap.size := (by omega); obtain ⟨hcu1_w_2, hfu1_w_2⟩ := pBc hbu1 (b := w.heap.size + 1 + 1) pSd; have hsu1_w_2 : w.heap.size + 1 + 1 < u1.heap.size := (by omega); obtain ⟨hcu1_g, hfu1_g⟩ := pBc hbu1 (b := g) pSd; have hsu1_g : g < u1.heap.size := (by omega); have Hu1 := Lib.hid hbu1; clear hbu1)
    all_goals refine bodyPost_ret ?rr rfl ⟨rfl, ?bb, ?cc⟩
    case rr => (simp (maxDischargeDepth := 9) [results, Try.results56, go_sem, *, hi_z, lo_z])
    case bb => exact pOn
    case cc => exact pOg
  · have hB : (E != 0) = true := by simp [hE]
    rw [rN_n hE, rE_n hE]
    clear hE
    go_enter Try.func56, Try.ntmps56
    go_wp2_with fail
    all_goals refine bodyPost_ret ?rr rfl ⟨rfl, ?bb, ?cc⟩
    case rr => (simp (maxDischargeDepth := 9) [results, Try.results56, go_sem, *, hi_z, lo_z])
    case bb => exact pOn
    case cc => exact pOg

set_option maxRecDepth 100000 in
set_option maxHeartbeats 8000000 in
theorem reck_vec_Sub (g : Nat) (E : Int) (axh axl ayh ayl bxh bxl byh byl : Int) (w : World) (hg : One w g (.int .i64 E) 101) (h1 : MayF axh axl) (h2 : MayF ayh ayl) (h3 : MayF bxh bxl) (h4 : MayF byh byl) :
    Calls Try.prog 47 #[.pointer (some ⟨g, 0, none⟩), .func (.func 48) #[] #[], .agg #[.int .i64 axh, .int .u64 axl, .int .i64 ayh, .int .u64 ayl], .agg #[.int .i64 bxh, .int .u64 bxl, .int .i64 byh, .int .u64 byl]] w fun e w' => e = .returned (.agg #[.int .i64 (hi (rX E (subV (val axh axl) (val ayh ayl) (val bxh bxl) (val byh byl)))), .int .u64 (lo (rX E (subV (val axh axl) (val ayh ayl) (val bxh bxl) (val byh byl)))), .int .i64 (hi (rY E (subV (val axh axl) (val ayh ayl) (val bxh bxl) (val byh byl)))), .int .u64 (lo (rY E (subV (val axh axl) (val ayh ayl) (val bxh bxl) (val byh byl))))]) ∧ Only g w w' ∧ One w' g (.int .i64 (rE E (subV (val axh axl) (val ayh ayl) (val bxh bxl) (val byh byl)))) 101 := by
  have c0 := hg.cell
  have f0 := hg.free
  have lt := hg.lt
  have lt1 : g < w.heap.size + 1 := by omega
  have lt2 : g < w.heap.size + 1 + 1 := by omega
  have le0 : g ≤ w.heap.size := by omega
  have le1 : g ≤ w.heap.size + 1 := by omega
  have Hg := Lib.hid hg
  clear hg
  by_cases hE : E = 0
  · subst hE
    rw [rX_0, rY_0, rE_0]
    go_enter Try.func47, Try.ntmps47
    go_wp2_with (go_at_call 48; refine (vec_Sub _ _ _ _ _ _ _ _ _ (by assumption) (by assumption) (by assumption) (by assumption)).mono ?_; rintro e u1 ⟨rfl, hbu1⟩; have hzu1 := hbu1.size; (try simp at hzu1); have hsu1_w : w.heap.size ≤ u1.heap.size := (by omega); obtain ⟨hcu1_w_0, hfu1_w_0⟩ := pBc hbu1 (b := w.heap.size) pSd; have hsu1_w_0 : w.heap.size < u1.heap.size := (by omega); obtain ⟨hcu1_w_1, hfu1_w_1⟩ := pBc hbu1 (b := w.heap.size + 1) pSd; have hsu1_w_1 : w.heap.size + 1 < u1.heap.size := (by omega); obtain ⟨hcu1_w_2, hfu1_w_2⟩ := pBc hbu1 (b := w.heap.size + 1 + 1) pSd; have hsu1_w_2 : w.heap.size + 1 + 1 < u1.heap.size := (by omega); obtain ⟨hcu1_g, hfu1_g⟩ := pBc hbu1 (b := g) pSd; have hsu1_g : g < u1.heap.size := (by omega); have Hu1 := Lib.hid hbu1; clear hbu1)
    all_goals refine bodyPost_ret ?rr rfl ⟨rfl, ?bb, ?cc⟩
    case rr => (simp (maxDischargeDepth := 9) [results, Try.results47, go_sem, *, hi_z, lo_z])
    case bb => exact pOn
    case cc => exact pOg
  · have hB : (E != 0) = true := by simp [hE]
    rw [rX_n hE, rY_n hE, rE_n hE]
    clear hE
    go_enter Try.func47, Try.ntmps47
    go_wp2_with fail
    all_goals refine bodyPost_ret ?rr rfl ⟨rfl, ?bb, ?cc⟩
    case rr => (simp (maxDischargeDepth := 9) [results, Try.results47, go_sem, *, hi_z, lo_z])
    case bb => exact pOn
    case cc => exact pOg

set_option maxRecDepth 100000 in
set_option maxHeartbeats 8000000 in
theorem reck_dot (g : Nat) (E : Int) (axh axl ayh ayl bxh bxl byh byl : Int) (w : World) (hg : One w g (.int .i64 E) 101) (h1 : MayF axh axl) (h2 : MayF ayh ayl) (h3 : MayF bxh bxl) (h4 : MayF byh byl) :
    Calls Try.prog 53 #[.pointer (some ⟨g, 0, none⟩), .agg #[.int .i64 axh, .int .u64 axl, .int .i64 ayh, .int .u64 ayl], .agg #[.int .i64 bxh, .int .u64 bxl, .int .i64 byh, .int .u64 byl]] w fun e w' => e = .returned (.agg #[.int .i64 (hi (rN E (dotX (val axh axl) (val ayh ayl) (val bxh bxl) (val byh byl)))), .int .u64 (lo (rN E (dotX (val axh axl) (val ayh ayl) (val bxh bxl) (val byh byl))))]) ∧ Only g w w' ∧ One w' g (.int .i64 (rE E (dotX (val axh axl) (val ayh ayl) (val bxh bxl) (val byh byl)))) 101 := by
  have c0 := hg.cell
  have f0 := hg.free
  have lt := hg.lt
  have lt1 : g < w.heap.size + 1 := by omega
  have lt2 : g < w.heap.size + 1 + 1 := by omega
  have le0 : g ≤ w.heap.size := by omega
  have le1 : g ≤ w.heap.size + 1 := by omega
  have Hg := Lib.hid hg
  clear hg
  by_cases hE : E = 0
  · subst hE
    rw [rN_0, rE_0]
    go_enter Try.func53, Try.ntmps53
    go_wp2_with (go_at_call 97; refine (vec_Dot _ _ _ _ _ _ _ _ _ (by assumption) (by assumption) (by assumption) (by assumption)).mono ?_; rintro e u1 ⟨rfl, hbu1⟩; have hzu1 := hbu1.size; (try simp at hzu1); have hsu1_w : w.heap.size ≤ u1.heap.size := (by omega); obtain ⟨hcu1_w_0, hfu1_w_0⟩ := pBc hbu1 (b := w.heap.size) pSd; have hsu1_w_0 : w.heap.size < u1.heap.size := (by omega); obtain ⟨hcu1_w_1, hfu1_w_1⟩ := pBc hbu1 (b := w.heap.size + 1) pSd; have hsu1_w_1 : w.heap.size + 1 < u1.heap.size := (by omega); obtain ⟨hcu1_w_2, hfu1_w_2⟩ := pBc hbu1 (b := w.heap.size + 1 + 1) pSd; have hsu1_w_2 : w.heap.size + 1 + 1 < u1.heap.size := (by omega); obtain ⟨hcu1_g, hfu1_g⟩ := pBc hbu1 (b := g) pSd; have hsu1_g : g < u1.heap.size := (by omega); have Hu1 := Lib.hid hbu1; clear hbu1)
    all_goals refine bodyPost_ret ?rr rfl ⟨rfl, ?bb, ?cc⟩
    case rr => (simp (maxDischargeDepth := 9) [results, Try.results53, go_sem, *, hi_z, lo_z])
    case bb => exact pOn
    case cc => exact pOg
  · have hB : (E != 0) = true := by simp [hE]
    rw [rN_n hE, rE_n hE]
    clear hE
    go_enter Try.func53, Try.ntmps53
    go_wp2_with fail
    all_goals refine bodyPost_ret ?rr rfl ⟨rfl, ?bb, ?cc⟩
    case rr => (simp (maxDischargeDepth := 9) [results, Try.results53, go_sem, *, hi_z, lo_z])
    case bb => exact pOn
    case cc => exact pOg

set_option maxRecDepth 100000 in
set_option maxHeartbeats 8000000 in
theorem reck_scale (g : Nat) (E : Int) (axh axl ayh ayl kh kl : Int) (w : World) (hg : One w g (.int .i64 E) 101) (h1 : MayF axh axl) (h2 : MayF ayh ayl) (h3 : MayF kh kl) :
    Calls Try.prog 61 #[.pointer (some ⟨g, 0, none⟩), .agg #[.int .i64 axh, .int .u64 axl, .int .i64 ayh, .int .u64 ayl], .agg #[.int .i64 kh, .int .u64 kl]] w fun e w' => e = .returned (.agg #[.int .i64 (hi (rX E (scaleV (val axh axl) (val ayh ayl) (val kh kl)))), .int .u64 (lo (rX E (scaleV (val axh axl) (val ayh ayl) (val kh kl)))), .int .i64 (hi (rY E (scaleV (val axh axl) (val ayh ayl) (val kh kl)))), .int .u64 (lo (rY E (scaleV (val axh axl) (val ayh ayl) (val kh kl))))]) ∧ Only g w w' ∧ One w' g (.int .i64 (rE E (scaleV (val axh axl) (val ayh ayl) (val kh kl)))) 101 := by
  have c0 := hg.cell
  have f0 := hg.free
  have lt := hg.lt
  have lt1 : g < w.heap.size + 1 := by omega
  have lt2 : g < w.heap.size + 1 + 1 := by omega
  have le0 : g ≤ w.heap.size := by omega
  have le1 : g ≤ w.heap.size + 1 := by omega
  have Hg := Lib.hid hg
  clear hg
  by_cases hE : E = 0
  · subst hE
    rw [rX_0, rY_0, rE_0]
    go_enter Try.func61, Try.ntmps61
    go_wp2_with (go_at_call 114; refine (vec_Scale _ _ _ _ _ _ _ (by assumption) (by assumption) (by assumption)).mono ?_; rintro e u1 ⟨rfl, hbu1⟩; have hzu1 := hbu1.size; (try simp at hzu1); have hsu1_w : w.heap.size ≤ u1.heap.size := (by omega); obtain ⟨hcu1_w_0, hfu1_w_0⟩ := pBc hbu1 (b := w.heap.size) pSd; have hsu1_w_0 : w.heap.size < u1.heap.size := (by omega); obtain ⟨hcu1_w_1, hfu1_w_1⟩ := pBc hbu1 (b := w.heap.size + 1) pSd; have hsu1_w_1 : w.heap.size + 1 < u1.heap.size := (by omega); obtain ⟨hcu1_w_2, hfu1_w_2⟩ := pBc hbu1 (b := w.heap.size + 1 + 1) pSd; have hsu1_w_2 : w.heap.size + 1 + 1 < u1.heap.size := (by omega); obtain ⟨hcu1_g, hfu1_g⟩ := pBc hbu1 (b := g) pSd; have hsu1_g : g < u1.heap.size := (by omega); have Hu1 := Lib.hid hbu1; clear hbu1)
    all_goals refine bodyPost_ret ?rr rfl ⟨rfl, ?bb, ?cc⟩
    case rr => (simp (maxDischargeDepth := 9) [results, Try.results61, go_sem, *, hi_z, lo_z])
    case bb => exact pOn
    case cc => exact pOg
  · have hB : (E != 0) = true := by simp [hE]
    rw [rX_n hE, rY_n hE, rE_n hE]
    clear hE
    go_enter Try.func61, Try.ntmps61
    go_wp2_with fail
    all_goals refine bodyPost_ret ?rr rfl ⟨rfl, ?bb, ?cc⟩
    case rr => (simp (maxDischargeDepth := 9) [results, Try.results61, go_sem, *, hi_z, lo_z])
    case bb => exact pOn
    case cc => exact pOg

end Go.Proofs.Ytdphhkbbphfjlaa
