/- The walks of the reference's r1.Shr by 64, r1.Shl by 65. -/
import Derived.Test.YtdphhkbbphfjlaaRefD
set_option linter.unusedVariables false
set_option linter.unusedSimpArgs false
namespace Go.Proofs.Ytdphhkbbphfjlaa
open Go.RowKit
attribute [local go_sem] uwrap_lo lo_lo hi_lo val_00
attribute [local go_sem ↓] Go.wp_at_zero Go.wp_at_succ

theorem mk4 (w : World) : (Instr.makeSlice 172 (.int .i64 4) (.int .i64 4)).run Try.prog w = .ok (.slice (some ⟨w.heap.size, 0, none⟩) 4 4) (w.alloc (.cells #[.int .u64 0, .int .u64 0, .int .u64 0, .int .u64 0] 22)) := by kernel_rfl
attribute [local go_sem] mk4
set_option maxRecDepth 100000 in
set_option maxHeartbeats 2000000 in
theorem r1_Shr64 (a b c d : Int) (w : World) (ha : W64 a) (hb : W64 b) (hc : W64 c) (hd : W64 d) :
    Calls Try.prog 89 #[.agg #[.int .u64 a, .int .u64 b, .int .u64 c, .int .u64 d], .int .i64 64] w fun e w' => e = .returned (.agg #[.int .u64 0, .int .u64 a, .int .u64 b, .int .u64 c]) ∧ Below w.heap.size w w' := by
  go_enter Try.func89, Try.ntmps89
  go_wp2_with (go_at_call 116; refine (r1_words _ _ _ _ _).mono ?_; rintro e u1 ⟨rfl, e_s, ho⟩; (try simp at e_s); (try clear c_s); (try clear f_s r_s B_s); obtain ⟨c_s, f_s, l_s, r_s, B_s⟩ := blk_all e_s; clear e_s; have hzu1 := Below.size ho; (try simp at hzu1); have HB2 : Hid (Below w.heap.size w u1) := Lib.hid (Below.trans (by exact pBl) (Below.mono ho pSd)); (try clear HB); have HB := HB2; clear HB2; have B2 := blk_below (g := w.heap.size) ho pSd; (try simp (disch := first | omega | (simp; done) | (simp; omega)) only [pBk] at B2); (try rw [Hid.out B_a] at B2); (try simp only [pBk] at B2); (try clear c_a f_a r_a B_a); obtain ⟨c_a, f_a, l_u1_a, r_a, B_a⟩ := blk_all B2; clear B2; have B2 := blk_below (g := w.heap.size + 1) ho pSd; (try simp (disch := first | omega | (simp; done) | (simp; omega)) only [pBk] at B2); (try rw [Hid.out B_r] at B2); (try simp only [pBk] at B2); (try clear c_r f_r r_r B_r); obtain ⟨c_r, f_r, l_u1_r, r_r, B_r⟩ := blk_all B2; clear B2; clear ho)
  refine wp_loop_rounds 5 ?_
  rw [rounds_succ]
  go_wp2
  rw [rounds_succ]
  go_wp2
  rw [rounds_succ]
  go_wp2
  rw [rounds_succ]
  go_wp2
  rw [rounds_succ]
  go_wp2_with (go_at_call 117; refine (r1_four _ _ _ _ _ _ (by ((try simp (disch := first | omega | (simp; done) | (simp; omega)) only [pBk]); first | done | with_reducible rfl | with_reducible exact Hid.out (by assumption) | (with_reducible rw [Hid.out B_s]; (try simp only [pBk]); first | done | with_reducible rfl) | (with_reducible rw [Hid.out B_a]; (try simp only [pBk]); first | done | with_reducible rfl) | (with_reducible rw [Hid.out B_r]; (try simp only [pBk]); first | done | with_reducible rfl)))).mono ?_; rintro e u2 ⟨rfl, ho⟩; have hzu2 := Below.size ho; (try simp at hzu2); have HB2 : Hid (Below w.heap.size w u2) := Lib.hid (Below.trans (by exact pBl) (Below.mono ho pSd)); (try clear HB); have HB := HB2; clear HB2; have B2 := blk_below (g := w.heap.size) ho pSd; (try simp (disch := first | omega | (simp; done) | (simp; omega)) only [pBk] at B2); (try rw [Hid.out B_a] at B2); (try simp only [pBk] at B2); (try clear c_a f_a r_a B_a); obtain ⟨c_a, f_a, l_u2_a, r_a, B_a⟩ := blk_all B2; clear B2; have B2 := blk_below (g := w.heap.size + 1) ho pSd; (try simp (disch := first | omega | (simp; done) | (simp; omega)) only [pBk] at B2); (try rw [Hid.out B_r] at B2); (try simp only [pBk] at B2); (try clear c_r f_r r_r B_r); obtain ⟨c_r, f_r, l_u2_r, r_r, B_r⟩ := blk_all B2; clear B2; clear ho)
  refine bodyPost_ret ?r rfl ⟨rfl, ?b⟩
  case r =>
    simp (maxDischargeDepth := 9) [results, Try.results89, go_sem, *]
  case b => exact pBl

theorem shl65_words {c d : Int} (hc : W64 c) (hd : W64 d) (hN : val c d < 170141183460469231731687303715884105728) :
    q3 (val c d * 36893488147419103232) = c / 9223372036854775808 ∧ q2 (val c d * 36893488147419103232) = lo (c * 2) + d / 9223372036854775808 ∧ q1 (val c d * 36893488147419103232) = lo (d * 2) ∧ q0 (val c d * 36893488147419103232) = 0 := by
  unfold W64 at *; unfold val at *; unfold q3 q2 q1 q0 hi lo; refine ⟨?_, ?_, ?_, ?_⟩ <;> omega
theorem or_low {x y : Int} (hx : W64 x) (hy : W64 y) : bits .or .u64 (lo (x * 2)) (y / 9223372036854775808) = lo (x * 2) + y / 9223372036854775808 := by
  refine or_join (i := 1) (by decide) (W64_lo _).1 (W64_lo _).2 ?_ ?_ ?_
  · unfold lo; omega
  · unfold W64 at hy; omega
  · unfold W64 at hy; omega
set_option maxRecDepth 100000 in
set_option maxHeartbeats 2000000 in
theorem r1_Shl65 (c d : Int) (w : World) (hc : W64 c) (hd : W64 d) (hN : val c d < 170141183460469231731687303715884105728) :
    Calls Try.prog 67 #[.agg #[.int .u64 0, .int .u64 0, .int .u64 c, .int .u64 d], .int .i64 65] w fun e w' => e = .returned (.agg #[.int .u64 (q3 (val c d * 36893488147419103232)), .int .u64 (q2 (val c d * 36893488147419103232)), .int .u64 (q1 (val c d * 36893488147419103232)), .int .u64 (q0 (val c d * 36893488147419103232))]) ∧ Below w.heap.size w w' := by
  obtain ⟨h3, h2, h1, h0⟩ := shl65_words hc hd hN
  rw [h3, h2, h1, h0, ← or_low hc hd]
  clear h3 h2 h1 h0 hN
  go_enter Try.func67, Try.ntmps67
  go_wp2_with (go_at_call 116; refine (r1_words _ _ _ _ _).mono ?_; rintro e u1 ⟨rfl, e_s, ho⟩; (try simp at e_s); (try clear c_s); (try clear f_s r_s B_s); obtain ⟨c_s, f_s, l_s, r_s, B_s⟩ := blk_all e_s; clear e_s; have hzu1 := Below.size ho; (try simp at hzu1); have HB2 : Hid (Below w.heap.size w u1) := Lib.hid (Below.trans (by exact pBl) (Below.mono ho pSd)); (try clear HB); have HB := HB2; clear HB2; have B2 := blk_below (g := w.heap.size) ho pSd; (try simp (disch := first | omega | (simp; done) | (simp; omega)) only [pBk] at B2); (try rw [Hid.out B_a] at B2); (try simp only [pBk] at B2); (try clear c_a f_a r_a B_a); obtain ⟨c_a, f_a, l_u1_a, r_a, B_a⟩ := blk_all B2; clear B2; have B2 := blk_below (g := w.heap.size + 1) ho pSd; (try simp (disch := first | omega | (simp; done) | (simp; omega)) only [pBk] at B2); (try rw [Hid.out B_r] at B2); (try simp only [pBk] at B2); (try clear c_r f_r r_r B_r); obtain ⟨c_r, f_r, l_u1_r, r_r, B_r⟩ := blk_all B2; clear B2; clear ho)
  refine wp_loop_rounds 5 ?_
  rw [rounds_succ]
  go_wp2
  rw [rounds_succ]
  go_wp2
  rw [rounds_succ]
  go_wp2
  go_region
  go_wp2
  rw [rounds_succ]
  go_wp2
  go_region
  go_wp2
  rw [rounds_succ]
  go_wp2_with (go_at_call 117; refine (r1_four _ _ _ _ _ _ (by ((try simp (disch := first | omega | (simp; done) | (simp; omega)) only [pBk]); first | done | with_reducible rfl | with_reducible exact Hid.out (by assumption) | (with_reducible rw [Hid.out B_s]; (try simp only [pBk]); first | done | with_reducible rfl) | (with_reducible rw [Hid.out B_a]; (try simp only [pBk]); first | done | with_reducible rfl) | (with_reducible rw [Hid.out B_r]; (try simp only [pBk]); first | done | with_reducible rfl)))).mono ?_; rintro e u2 ⟨rfl, ho⟩; have hzu2 := Below.size ho; (try simp at hzu2); have HB2 : Hid (Below w.heap.size w u2) := Lib.hid (Below.trans (by exact pBl) (Below.mono ho pSd)); (try clear HB); have HB := HB2; clear HB2; have B2 := blk_below (g := w.heap.size) ho pSd; (try simp (disch := first | omega | (simp; done) | (simp; omega)) only [pBk] at B2); (try rw [Hid.out B_a] at B2); (try simp only [pBk] at B2); (try clear c_a f_a r_a B_a); obtain ⟨c_a, f_a, l_u2_a, r_a, B_a⟩ := blk_all B2; clear B2; have B2 := blk_below (g := w.heap.size + 1) ho pSd; (try simp (disch := first | omega | (simp; done) | (simp; omega)) only [pBk] at B2); (try rw [Hid.out B_r] at B2); (try simp only [pBk] at B2); (try clear c_r f_r r_r B_r); obtain ⟨c_r, f_r, l_u2_r, r_r, B_r⟩ := blk_all B2; clear B2; clear ho)
  refine bodyPost_ret ?r rfl ⟨rfl, ?b⟩
  case r =>
    simp (maxDischargeDepth := 9) [results, Try.results67, go_sem, *]
    show bits .or .u64 0 _ = _
    exact or_zero' (by unfold W64 at *; omega)
  case b => exact pBl
end Go.Proofs.Ytdphhkbbphfjlaa
