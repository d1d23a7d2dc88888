/- The walks of vec's functions and of drift.Speed. -/
import Derived.Test.YtdphhkbbphfjlaaCFixG
import Derived.Test.YtdphhkbbphfjlaaCSp
import Derived.Deep.RegionHeld3
import Derived.Deep.RegionWith
namespace Go.Proofs.Ytdphhkbbphfjlaa
set_option linter.unusedVariables false
set_option linter.unusedSimpArgs false
open Go.RowKit
attribute [local go_sem] uwrap_lo lo_lo hi_lo val_hl val_00 nOf_ok nOf_err eOf_ok eOf_err vecX_err vecX_ok_err vecX_ok xOf_err yOf_err xOf_ok yOf_ok
attribute [local go_sem ↓] Go.wp_at_zero Go.wp_at_succ

/-- what a function of two numbers, number f, comes to: F -/
def Num2 (f : FuncId) (F : Int → Int → Except Int Int) : Prop :=
  ∀ (ah al bh bl : Int) (w : World), MayF ah al → MayF bh bl → Calls Try.prog f #[.agg #[.int .i64 ah, .int .u64 al], .agg #[.int .i64 bh, .int .u64 bl]] w fun e w' =>
    e = .returned (.tuple #[.agg #[.int .i64 (hi (nOf (F (val ah al) (val bh bl)))), .int .u64 (lo (nOf (F (val ah al) (val bh bl))))], .int .i64 (eOf (F (val ah al) (val bh bl)))]) ∧ Below w.heap.size w w'
theorem num_Add : Num2 59 addX := fun ah al bh bl w ha hb => fix_Add ah al bh bl w ha.w ha.i hb.w hb.i ha.r hb.r
theorem num_Sub : Num2 93 subX := fun ah al bh bl w ha hb => fix_Sub ah al bh bl w ha.w ha.i hb.w hb.i ha.r hb.r
theorem num_Mul : Num2 57 mulX := fun ah al bh bl w ha hb => fix_Mul ah al bh bl w ha.w ha.i hb.w hb.i ha.r hb.r
theorem num_Div : Num2 58 divX := fun ah al bh bl w ha hb => fix_Div ah al bh bl w ha.w ha.i hb.w hb.i ha.r hb.r

set_option maxRecDepth 100000 in
set_option maxHeartbeats 8000000 in
theorem vec_each_Add (axh axl ayh ayl bxh bxl byh byl : Int) (w : World) (h1 : MayF axh axl) (h2 : MayF ayh ayl) (h3 : MayF bxh bxl) (h4 : MayF byh byl) :
    Calls Try.prog 92 #[.agg #[.int .i64 axh, .int .u64 axl, .int .i64 ayh, .int .u64 ayl], .agg #[.int .i64 bxh, .int .u64 bxl, .int .i64 byh, .int .u64 byl], .func (.func 59) #[] #[]] w fun e w' =>
      e = .returned (.tuple #[.agg #[.int .i64 (hi (xOf (vecX (addX (val axh axl) (val bxh bxl)) (addX (val ayh ayl) (val byh byl))))), .int .u64 (lo (xOf (vecX (addX (val axh axl) (val bxh bxl)) (addX (val ayh ayl) (val byh byl))))), .int .i64 (hi (yOf (vecX (addX (val axh axl) (val bxh bxl)) (addX (val ayh ayl) (val byh byl))))), .int .u64 (lo (yOf (vecX (addX (val axh axl) (val bxh bxl)) (addX (val ayh ayl) (val byh byl)))))], .int .i64 (eOf (vecX (addX (val axh axl) (val bxh bxl)) (addX (val ayh ayl) (val byh byl))))]) ∧ Below w.heap.size w w' := by
  rcases (Good.add (val axh axl) (val bxh bxl)).cases with ⟨n, e1, _⟩ | ⟨n, e1, ne1⟩
  · rcases (Good.add (val ayh ayl) (val byh byl)).cases with ⟨m, e2, _⟩ | ⟨m, e2, ne2⟩
    · rw [e1, e2]
      go_enter Try.func92, Try.ntmps92
      go_wp2_with (first | (go_at_call_of 59 (Value.agg #[.int .i64 axh, .int .u64 axl]); refine (num_Add _ _ _ _ _ (by assumption) (by assumption)).mono ?_; rintro e u1 ⟨rfl, hbu1⟩; have hzu1 := hbu1.size; (try simp at hzu1); have hsu1_w : w.heap.size ≤ u1.heap.size := (by omega); obtain ⟨hcu1_w_0, hfu1_w_0⟩ := pBc hbu1 (b := w.heap.size) pSd; have hsu1_w_0 : w.heap.size < u1.heap.size := (by omega); obtain ⟨hcu1_w_1, hfu1_w_1⟩ := pBc hbu1 (b := w.heap.size + 1) pSd; have hsu1_w_1 : w.heap.size + 1 < u1.heap.size := (by omega); obtain ⟨hcu1_w_2, hfu1_w_2⟩ := pBc hbu1 (b := w.heap.size + 1 + 1) pSd; have hsu1_w_2 : w.heap.size + 1 + 1 < u1.heap.size := (by omega); have Hu1 := Lib.hid hbu1; clear hbu1) | (go_at_call 59; refine (num_Add _ _ _ _ _ (by assumption) (by assumption)).mono ?_; rintro e u2 ⟨rfl, hbu2⟩; have hzu2 := hbu2.size; (try simp at hzu2); have hsu2_w : w.heap.size ≤ u2.heap.size := (by omega); obtain ⟨hcu2_w_0, hfu2_w_0⟩ := pBc hbu2 (b := w.heap.size) pSd; have hsu2_w_0 : w.heap.size < u2.heap.size := (by omega); obtain ⟨hcu2_w_1, hfu2_w_1⟩ := pBc hbu2 (b := w.heap.size + 1) pSd; have hsu2_w_1 : w.heap.size + 1 < u2.heap.size := (by omega); obtain ⟨hcu2_w_2, hfu2_w_2⟩ := pBc hbu2 (b := w.heap.size + 1 + 1) pSd; have hsu2_w_2 : w.heap.size + 1 + 1 < u2.heap.size := (by omega); have hsu2_u1 : u1.heap.size ≤ u2.heap.size := (by omega); obtain ⟨hcu2_u1_0, hfu2_u1_0⟩ := pBc hbu2 (b := u1.heap.size) pSd; have hsu2_u1_0 : u1.heap.size < u2.heap.size := (by omega); have Hu2 := Lib.hid hbu2; clear hbu2))
      all_goals refine bodyPost_ret ?rr rfl ⟨rfl, ?bb⟩
      case rr => simp (maxDischargeDepth := 9) [results, Try.results92, go_sem, *, hi_z, lo_z]
      case bb => exact pBl
    · rw [e1, e2]
      go_enter Try.func92, Try.ntmps92
      go_wp2_with (first | (go_at_call_of 59 (Value.agg #[.int .i64 axh, .int .u64 axl]); refine (num_Add _ _ _ _ _ (by assumption) (by assumption)).mono ?_; rintro e u1 ⟨rfl, hbu1⟩; have hzu1 := hbu1.size; (try simp at hzu1); have hsu1_w : w.heap.size ≤ u1.heap.size := (by omega); obtain ⟨hcu1_w_0, hfu1_w_0⟩ := pBc hbu1 (b := w.heap.size) pSd; have hsu1_w_0 : w.heap.size < u1.heap.size := (by omega); obtain ⟨hcu1_w_1, hfu1_w_1⟩ := pBc hbu1 (b := w.heap.size + 1) pSd; have hsu1_w_1 : w.heap.size + 1 < u1.heap.size := (by omega); obtain ⟨hcu1_w_2, hfu1_w_2⟩ := pBc hbu1 (b := w.heap.size + 1 + 1) pSd; have hsu1_w_2 : w.heap.size + 1 + 1 < u1.heap.size := (by omega); have Hu1 := Lib.hid hbu1; clear hbu1) | (go_at_call 59; refine (num_Add _ _ _ _ _ (by assumption) (by assumption)).mono ?_; rintro e u2 ⟨rfl, hbu2⟩; have hzu2 := hbu2.size; (try simp at hzu2); have hsu2_w : w.heap.size ≤ u2.heap.size := (by omega); obtain ⟨hcu2_w_0, hfu2_w_0⟩ := pBc hbu2 (b := w.heap.size) pSd; have hsu2_w_0 : w.heap.size < u2.heap.size := (by omega); obtain ⟨hcu2_w_1, hfu2_w_1⟩ := pBc hbu2 (b := w.heap.size + 1) pSd; have hsu2_w_1 : w.heap.size + 1 < u2.heap.size := (by omega); obtain ⟨hcu2_w_2, hfu2_w_2⟩ := pBc hbu2 (b := w.heap.size + 1 + 1) pSd; have hsu2_w_2 : w.heap.size + 1 + 1 < u2.heap.size := (by omega); have hsu2_u1 : u1.heap.size ≤ u2.heap.size := (by omega); obtain ⟨hcu2_u1_0, hfu2_u1_0⟩ := pBc hbu2 (b := u1.heap.size) pSd; have hsu2_u1_0 : u1.heap.size < u2.heap.size := (by omega); have Hu2 := Lib.hid hbu2; clear hbu2))
      all_goals refine bodyPost_ret ?rr rfl ⟨rfl, ?bb⟩
      case rr => simp (maxDischargeDepth := 9) [results, Try.results92, go_sem, *, hi_z, lo_z]
      case bb => exact pBl
  · rw [e1]
    go_enter Try.func92, Try.ntmps92
    go_wp2_with (go_at_call 59; refine (num_Add _ _ _ _ _ (by assumption) (by assumption)).mono ?_; rintro e u1 ⟨rfl, hbu1⟩; have hzu1 := hbu1.size; (try simp at hzu1); have hsu1_w : w.heap.size ≤ u1.heap.size := (by omega); obtain ⟨hcu1_w_0, hfu1_w_0⟩ := pBc hbu1 (b := w.heap.size) pSd; have hsu1_w_0 : w.heap.size < u1.heap.size := (by omega); obtain ⟨hcu1_w_1, hfu1_w_1⟩ := pBc hbu1 (b := w.heap.size + 1) pSd; have hsu1_w_1 : w.heap.size + 1 < u1.heap.size := (by omega); obtain ⟨hcu1_w_2, hfu1_w_2⟩ := pBc hbu1 (b := w.heap.size + 1 + 1) pSd; have hsu1_w_2 : w.heap.size + 1 + 1 < u1.heap.size := (by omega); have Hu1 := Lib.hid hbu1; clear hbu1)
    all_goals refine bodyPost_ret ?rr rfl ⟨rfl, ?bb⟩
    case rr => simp (maxDischargeDepth := 9) [results, Try.results92, go_sem, *, hi_z, lo_z]
    case bb => exact pBl

set_option maxRecDepth 100000 in
set_option maxHeartbeats 8000000 in
theorem vec_each_Sub (axh axl ayh ayl bxh bxl byh byl : Int) (w : World) (h1 : MayF axh axl) (h2 : MayF ayh ayl) (h3 : MayF bxh bxl) (h4 : MayF byh byl) :
    Calls Try.prog 92 #[.agg #[.int .i64 axh, .int .u64 axl, .int .i64 ayh, .int .u64 ayl], .agg #[.int .i64 bxh, .int .u64 bxl, .int .i64 byh, .int .u64 byl], .func (.func 93) #[] #[]] w fun e w' =>
      e = .returned (.tuple #[.agg #[.int .i64 (hi (xOf (vecX (subX (val axh axl) (val bxh bxl)) (subX (val ayh ayl) (val byh byl))))), .int .u64 (lo (xOf (vecX (subX (val axh axl) (val bxh bxl)) (subX (val ayh ayl) (val byh byl))))), .int .i64 (hi (yOf (vecX (subX (val axh axl) (val bxh bxl)) (subX (val ayh ayl) (val byh byl))))), .int .u64 (lo (yOf (vecX (subX (val axh axl) (val bxh bxl)) (subX (val ayh ayl) (val byh byl)))))], .int .i64 (eOf (vecX (subX (val axh axl) (val bxh bxl)) (subX (val ayh ayl) (val byh byl))))]) ∧ Below w.heap.size w w' := by
  rcases (Good.sub (val axh axl) (val bxh bxl)).cases with ⟨n, e1, _⟩ | ⟨n, e1, ne1⟩
  · rcases (Good.sub (val ayh ayl) (val byh byl)).cases with ⟨m, e2, _⟩ | ⟨m, e2, ne2⟩
    · rw [e1, e2]
      go_enter Try.func92, Try.ntmps92
      go_wp2_with (first | (go_at_call_of 93 (Value.agg #[.int .i64 axh, .int .u64 axl]); refine (num_Sub _ _ _ _ _ (by assumption) (by assumption)).mono ?_; rintro e u1 ⟨rfl, hbu1⟩; have hzu1 := hbu1.size; (try simp at hzu1); have hsu1_w : w.heap.size ≤ u1.heap.size := (by omega); obtain ⟨hcu1_w_0, hfu1_w_0⟩ := pBc hbu1 (b := w.heap.size) pSd; have hsu1_w_0 : w.heap.size < u1.heap.size := (by omega); obtain ⟨hcu1_w_1, hfu1_w_1⟩ := pBc hbu1 (b := w.heap.size + 1) pSd; have hsu1_w_1 : w.heap.size + 1 < u1.heap.size := (by omega); obtain ⟨hcu1_w_2, hfu1_w_2⟩ := pBc hbu1 (b := w.heap.size + 1 + 1) pSd; have hsu1_w_2 : w.heap.size + 1 + 1 < u1.heap.size := (by omega); have Hu1 := Lib.hid hbu1; clear hbu1) | (go_at_call 93; refine (num_Sub _ _ _ _ _ (by assumption) (by assumption)).mono ?_; rintro e u2 ⟨rfl, hbu2⟩; have hzu2 := hbu2.size; (try simp at hzu2); have hsu2_w : w.heap.size ≤ u2.heap.size := (by omega); obtain ⟨hcu2_w_0, hfu2_w_0⟩ := pBc hbu2 (b := w.heap.size) pSd; have hsu2_w_0 : w.heap.size < u2.heap.size := (by omega); obtain ⟨hcu2_w_1, hfu2_w_1⟩ := pBc hbu2 (b := w.heap.size + 1) pSd; have hsu2_w_1 : w.heap.size + 1 < u2.heap.size := (by omega); obtain ⟨hcu2_w_2, hfu2_w_2⟩ := pBc hbu2 (b := w.heap.size + 1 + 1) pSd; have hsu2_w_2 : w.heap.size + 1 + 1 < u2.heap.size := (by omega); have hsu2_u1 : u1.heap.size ≤ u2.heap.size := (by omega); obtain ⟨hcu2_u1_0, hfu2_u1_0⟩ := pBc hbu2 (b := u1.heap.size) pSd; have hsu2_u1_0 : u1.heap.size < u2.heap.size := (by omega); have Hu2 := Lib.hid hbu2; clear hbu2))
      all_goals refine bodyPost_ret ?rr rfl ⟨rfl, ?bb⟩
      case rr => simp (maxDischargeDepth := 9) [results, Try.results92, go_sem, *, hi_z, lo_z]
      case bb => exact pBl
    · rw [e1, e2]
      go_enter Try.func92, Try.ntmps92
      go_wp2_with (first | (go_at_call_of 93 (Value.agg #[.int .i64 axh, .int .u64 axl]); refine (num_Sub _ _ _ _ _ (by assumption) (by assumption)).mono ?_; rintro e u1 ⟨rfl, hbu1⟩; have hzu1 := hbu1.size; (try simp at hzu1); have hsu1_w : w.heap.size ≤ u1.heap.size := (by omega); obtain ⟨hcu1_w_0, hfu1_w_0⟩ := pBc hbu1 (b := w.heap.size) pSd; have hsu1_w_0 : w.heap.size < u1.heap.size := (by omega); obtain ⟨hcu1_w_1, hfu1_w_1⟩ := pBc hbu1 (b := w.heap.size + 1) pSd; have hsu1_w_1 : w.heap.size + 1 < u1.heap.size := (by omega); obtain ⟨hcu1_w_2, hfu1_w_2⟩ := pBc hbu1 (b := w.heap.size + 1 + 1) pSd; have hsu1_w_2 : w.heap.size + 1 + 1 < u1.heap.size := (by omega); have Hu1 := Lib.hid hbu1; clear hbu1) | (go_at_call 93; refine (num_Sub _ _ _ _ _ (by assumption) (by assumption)).mono ?_; rintro e u2 ⟨rfl, hbu2⟩; have hzu2 := hbu2.size; (try simp at hzu2); have hsu2_w : w.heap.size ≤ u2.heap.size := (by omega); obtain ⟨hcu2_w_0, hfu2_w_0⟩ := pBc hbu2 (b := w.heap.size) pSd; have hsu2_w_0 : w.heap.size < u2.heap.size := (by omega); obtain ⟨hcu2_w_1, hfu2_w_1⟩ := pBc hbu2 (b := w.heap.size + 1) pSd; have hsu2_w_1 : w.heap.size + 1 < u2.heap.size := (by omega); obtain ⟨hcu2_w_2, hfu2_w_2⟩ := pBc hbu2 (b := w.heap.size + 1 + 1) pSd; have hsu2_w_2 : w.heap.size + 1 + 1 < u2.heap.size := (by omega); have hsu2_u1 : u1.heap.size ≤ u2.heap.size := (by omega); obtain ⟨hcu2_u1_0, hfu2_u1_0⟩ := pBc hbu2 (b := u1.heap.size) pSd; have hsu2_u1_0 : u1.heap.size < u2.heap.size := (by omega); have Hu2 := Lib.hid hbu2; clear hbu2))
      all_goals refine bodyPost_ret ?rr rfl ⟨rfl, ?bb⟩
      case rr => simp (maxDischargeDepth := 9) [results, Try.results92, go_sem, *, hi_z, lo_z]
      case bb => exact pBl
  · rw [e1]
    go_enter Try.func92, Try.ntmps92
    go_wp2_with (go_at_call 93; refine (num_Sub _ _ _ _ _ (by assumption) (by assumption)).mono ?_; rintro e u1 ⟨rfl, hbu1⟩; have hzu1 := hbu1.size; (try simp at hzu1); have hsu1_w : w.heap.size ≤ u1.heap.size := (by omega); obtain ⟨hcu1_w_0, hfu1_w_0⟩ := pBc hbu1 (b := w.heap.size) pSd; have hsu1_w_0 : w.heap.size < u1.heap.size := (by omega); obtain ⟨hcu1_w_1, hfu1_w_1⟩ := pBc hbu1 (b := w.heap.size + 1) pSd; have hsu1_w_1 : w.heap.size + 1 < u1.heap.size := (by omega); obtain ⟨hcu1_w_2, hfu1_w_2⟩ := pBc hbu1 (b := w.heap.size + 1 + 1) pSd; have hsu1_w_2 : w.heap.size + 1 + 1 < u1.heap.size := (by omega); have Hu1 := Lib.hid hbu1; clear hbu1)
    all_goals refine bodyPost_ret ?rr rfl ⟨rfl, ?bb⟩
    case rr => simp (maxDischargeDepth := 9) [results, Try.results92, go_sem, *, hi_z, lo_z]
    case bb => exact pBl

set_option maxRecDepth 100000 in
set_option maxHeartbeats 8000000 in
theorem vec_each_Mul (axh axl ayh ayl bxh bxl byh byl : Int) (w : World) (h1 : MayF axh axl) (h2 : MayF ayh ayl) (h3 : MayF bxh bxl) (h4 : MayF byh byl) :
    Calls Try.prog 92 #[.agg #[.int .i64 axh, .int .u64 axl, .int .i64 ayh, .int .u64 ayl], .agg #[.int .i64 bxh, .int .u64 bxl, .int .i64 byh, .int .u64 byl], .func (.func 57) #[] #[]] w fun e w' =>
      e = .returned (.tuple #[.agg #[.int .i64 (hi (xOf (vecX (mulX (val axh axl) (val bxh bxl)) (mulX (val ayh ayl) (val byh byl))))), .int .u64 (lo (xOf (vecX (mulX (val axh axl) (val bxh bxl)) (mulX (val ayh ayl) (val byh byl))))), .int .i64 (hi (yOf (vecX (mulX (val axh axl) (val bxh bxl)) (mulX (val ayh ayl) (val byh byl))))), .int .u64 (lo (yOf (vecX (mulX (val axh axl) (val bxh bxl)) (mulX (val ayh ayl) (val byh byl)))))], .int .i64 (eOf (vecX (mulX (val axh axl) (val bxh bxl)) (mulX (val ayh ayl) (val byh byl))))]) ∧ Below w.heap.size w w' := by
  rcases (Good.mul (val axh axl) (val bxh bxl)).cases with ⟨n, e1, _⟩ | ⟨n, e1, ne1⟩
  · rcases (Good.mul (val ayh ayl) (val byh byl)).cases with ⟨m, e2, _⟩ | ⟨m, e2, ne2⟩
    · rw [e1, e2]
      go_enter Try.func92, Try.ntmps92
      go_wp2_with (first | (go_at_call_of 57 (Value.agg #[.int .i64 axh, .int .u64 axl]); refine (num_Mul _ _ _ _ _ (by assumption) (by assumption)).mono ?_; rintro e u1 ⟨rfl, hbu1⟩; have hzu1 := hbu1.size; (try simp at hzu1); have hsu1_w : w.heap.size ≤ u1.heap.size := (by omega); obtain ⟨hcu1_w_0, hfu1_w_0⟩ := pBc hbu1 (b := w.heap.size) pSd; have hsu1_w_0 : w.heap.size < u1.heap.size := (by omega); obtain ⟨hcu1_w_1, hfu1_w_1⟩ := pBc hbu1 (b := w.heap.size + 1) pSd; have hsu1_w_1 : w.heap.size + 1 < u1.heap.size := (by omega); obtain ⟨hcu1_w_2, hfu1_w_2⟩ := pBc hbu1 (b := w.heap.size + 1 + 1) pSd; have hsu1_w_2 : w.heap.size + 1 + 1 < u1.heap.size := (by omega); have Hu1 := Lib.hid hbu1; clear hbu1) | (go_at_call 57; refine (num_Mul _ _ _ _ _ (by assumption) (by assumption)).mono ?_; rintro e u2 ⟨rfl, hbu2⟩; have hzu2 := hbu2.size; (try simp at hzu2); have hsu2_w : w.heap.size ≤ u2.heap.size := (by omega); obtain ⟨hcu2_w_0, hfu2_w_0⟩ := pBc hbu2 (b := w.heap.size) pSd; have hsu2_w_0 : w.heap.size < u2.heap.size := (by omega); obtain ⟨hcu2_w_1, hfu2_w_1⟩ := pBc hbu2 (b := w.heap.size + 1) pSd; have hsu2_w_1 : w.heap.size + 1 < u2.heap.size := (by omega); obtain ⟨hcu2_w_2, hfu2_w_2⟩ := pBc hbu2 (b := w.heap.size + 1 + 1) pSd; have hsu2_w_2 : w.heap.size + 1 + 1 < u2.heap.size := (by omega); have hsu2_u1 : u1.heap.size ≤ u2.heap.size := (by omega); obtain ⟨hcu2_u1_0, hfu2_u1_0⟩ := pBc hbu2 (b := u1.heap.size) pSd; have hsu2_u1_0 : u1.heap.size < u2.heap.size := (by omega); have Hu2 := Lib.hid hbu2; clear hbu2))
      all_goals refine bodyPost_ret ?rr rfl ⟨rfl, ?bb⟩
      case rr => simp (maxDischargeDepth := 9) [results, Try.results92, go_sem, *, hi_z, lo_z]
      case bb => exact pBl
    · rw [e1, e2]
      go_enter Try.func92, Try.ntmps92
      go_wp2_with (first | (go_at_call_of 57 (Value.agg #[.int .i64 axh, .int .u64 axl]); refine (num_Mul _ _ _ _ _ (by assumption) (by assumption)).mono ?_; rintro e u1 ⟨rfl, hbu1⟩; have hzu1 := hbu1.size; (try simp at hzu1); have hsu1_w : w.heap.size ≤ u1.heap.size := (by omega); obtain ⟨hcu1_w_0, hfu1_w_0⟩ := pBc hbu1 (b := w.heap.size) pSd; have hsu1_w_0 : w.heap.size < u1.heap.size := (by omega); obtain ⟨hcu1_w_1, hfu1_w_1⟩ := pBc hbu1 (b := w.heap.size + 1) pSd; have hsu1_w_1 : w.heap.size + 1 < u1.heap.size := (by omega); obtain ⟨hcu1_w_2, hfu1_w_2⟩ := pBc hbu1 (b := w.heap.size + 1 + 1) pSd; have hsu1_w_2 : w.heap.size + 1 + 1 < u1.heap.size := (by omega); have Hu1 := Lib.hid hbu1; clear hbu1) | (go_at_call 57; refine (num_Mul _ _ _ _ _ (by assumption) (by assumption)).mono ?_; rintro e u2 ⟨rfl, hbu2⟩; have hzu2 := hbu2.size; (try simp at hzu2); have hsu2_w : w.heap.size ≤ u2.heap.size := (by omega); obtain ⟨hcu2_w_0, hfu2_w_0⟩ := pBc hbu2 (b := w.heap.size) pSd; have hsu2_w_0 : w.heap.size < u2.heap.size := (by omega); obtain ⟨hcu2_w_1, hfu2_w_1⟩ := pBc hbu2 (b := w.heap.size + 1) pSd; have hsu2_w_1 : w.heap.size + 1 < u2.heap.size := (by omega); obtain ⟨hcu2_w_2, hfu2_w_2⟩ := pBc hbu2 (b := w.heap.size + 1 + 1) pSd; have hsu2_w_2 : w.heap.size + 1 + 1 < u2.heap.size := (by omega); have hsu2_u1 : u1.heap.size ≤ u2.heap.size := (by omega); obtain ⟨hcu2_u1_0, hfu2_u1_0⟩ := pBc hbu2 (b := u1.heap.size) pSd; have hsu2_u1_0 : u1.heap.size < u2.heap.size := (by omega); have Hu2 := Lib.hid hbu2; clear hbu2))
      all_goals refine bodyPost_ret ?rr rfl ⟨rfl, ?bb⟩
      case rr => simp (maxDischargeDepth := 9) [results, Try.results92, go_sem, *, hi_z, lo_z]
      case bb => exact pBl
  · rw [e1]
    go_enter Try.func92, Try.ntmps92
    go_wp2_with (go_at_call 57; refine (num_Mul _ _ _ _ _ (by assumption) (by assumption)).mono ?_; rintro e u1 ⟨rfl, hbu1⟩; have hzu1 := hbu1.size; (try simp at hzu1); have hsu1_w : w.heap.size ≤ u1.heap.size := (by omega); obtain ⟨hcu1_w_0, hfu1_w_0⟩ := pBc hbu1 (b := w.heap.size) pSd; have hsu1_w_0 : w.heap.size < u1.heap.size := (by omega); obtain ⟨hcu1_w_1, hfu1_w_1⟩ := pBc hbu1 (b := w.heap.size + 1) pSd; have hsu1_w_1 : w.heap.size + 1 < u1.heap.size := (by omega); obtain ⟨hcu1_w_2, hfu1_w_2⟩ := pBc hbu1 (b := w.heap.size + 1 + 1) pSd; have hsu1_w_2 : w.heap.size + 1 + 1 < u1.heap.size := (by omega); have Hu1 := Lib.hid hbu1; clear hbu1)
    all_goals refine bodyPost_ret ?rr rfl ⟨rfl, ?bb⟩
    case rr => simp (maxDischargeDepth := 9) [results, Try.results92, go_sem, *, hi_z, lo_z]
    case bb => exact pBl

end Go.Proofs.Ytdphhkbbphfjlaa
