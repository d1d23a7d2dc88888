/- The walks of the reference's r1.MulTwo, words, four, bit. -/
import Derived.Test.YtdphhkbbphfjlaaCRefB
import Derived.Test.YtdphhkbbphfjlaaCRg
namespace Go.Proofs.Ytdphhkbbphfjlaa
set_option linter.unusedVariables false
set_option linter.unusedSimpArgs false
open Go.RowKit
attribute [local go_sem] uwrap_lo lo_lo hi_lo val_hl val_00 v4_q
attribute [local go_sem ↓] Go.wp_at_zero Go.wp_at_succ

set_option maxRecDepth 100000 in
set_option maxHeartbeats 2000000 in
theorem r1_words (a b c d : Int) (w : World) :
    Calls Try.prog 116 #[.agg #[.int .u64 a, .int .u64 b, .int .u64 c, .int .u64 d]] w fun e w' => e = .returned (.slice (some ⟨w.heap.size + 1, 0, none⟩) 4 4) ∧ blk w' (w.heap.size + 1) = some (.cells #[.int .u64 d, .int .u64 c, .int .u64 b, .int .u64 a] 22 (0, 0)) ∧ Below w.heap.size w w' := by
  go_enter Try.func116, Try.ntmps116
  go_wp2
  refine bodyPost_ret ?rr rfl ⟨rfl, ?cc, ?bb⟩
  case rr => simp (maxDischargeDepth := 9) [results, Try.results116, go_sem]
  case bb => exact pBl
  case cc => exact blk_new _ (by simp)
set_option maxRecDepth 100000 in
set_option maxHeartbeats 2000000 in
theorem r1_four (s : Nat) (a b c d : Int) (w : World) (hs : blk w s = some (.cells #[.int .u64 d, .int .u64 c, .int .u64 b, .int .u64 a] 22 (0, 0))) :
    Calls Try.prog 117 #[.slice (some ⟨s, 0, none⟩) 4 4] w fun e w' => e = .returned (.agg #[.int .u64 a, .int .u64 b, .int .u64 c, .int .u64 d]) ∧ Below w.heap.size w w' := by
  have c0 := blk_cell hs
  have f0 := blk_free hs
  have l0 := blk_lt hs
  have B := Lib.hid hs
  clear hs
  go_enter Try.func117, Try.ntmps117
  go_wp2_with fail
  go_region
  all_goals go_wp2
  all_goals refine bodyPost_ret ?rr rfl ⟨rfl, ?bb⟩
  case rr => simp (maxDischargeDepth := 9) [results, Try.results117, go_sem]
  case bb => exact pBl

theorem ret_u64R {a b : Int} (h : a = b) : Ending.returned (.int .u64 a) = .returned (.int .u64 b) := by rw [h]
set_option maxRecDepth 100000 in
set_option maxHeartbeats 2000000 in
theorem r1_bit (X n : Int) (w : World) (h0 : 0 ≤ n) (h1 : n < 256) :
    Calls Try.prog 118 #[.agg #[.int .u64 (q3 X), .int .u64 (q2 X), .int .u64 (q1 X), .int .u64 (q0 X)], .int .i64 n] w fun e w' => e = .returned (.int .u64 (bitAt X n)) ∧ Below w.heap.size w w' := by
  have hk : n / 64 = 0 ∨ n / 64 = 1 ∨ n / 64 = 2 ∨ n / 64 = 3 := by omega
  rcases hk with hk | hk | hk | hk
  · go_enter Try.func118, Try.ntmps118
    go_wp2_with (go_at_call 116; refine (r1_words _ _ _ _ _).mono ?_; rintro e u1 ⟨rfl, hB, hb⟩; (try simp at hB); have c0 := blk_cell hB; have f0 := blk_free hB; have hz := Below.size hb; (try simp at hz); have H1 := Lib.hid hb; clear hb hB)
    go_ret
    refine ⟨ret_u64R ?_, ?_⟩
    · rw [bitAt_0 h0 hk, and_one (W64_shr (W64_q0 X) _)]
    · exact pBl
  · go_enter Try.func118, Try.ntmps118
    go_wp2_with (go_at_call 116; refine (r1_words _ _ _ _ _).mono ?_; rintro e u1 ⟨rfl, hB, hb⟩; (try simp at hB); have c0 := blk_cell hB; have f0 := blk_free hB; have hz := Below.size hb; (try simp at hz); have H1 := Lib.hid hb; clear hb hB)
    go_ret
    refine ⟨ret_u64R ?_, ?_⟩
    · rw [bitAt_1 h0 hk, and_one (W64_shr (W64_q1 X) _)]
    · exact pBl
  · go_enter Try.func118, Try.ntmps118
    go_wp2_with (go_at_call 116; refine (r1_words _ _ _ _ _).mono ?_; rintro e u1 ⟨rfl, hB, hb⟩; (try simp at hB); have c0 := blk_cell hB; have f0 := blk_free hB; have hz := Below.size hb; (try simp at hz); have H1 := Lib.hid hb; clear hb hB)
    go_ret
    refine ⟨ret_u64R ?_, ?_⟩
    · rw [bitAt_2 h0 hk, and_one (W64_shr (W64_q2 X) _)]
    · exact pBl
  · go_enter Try.func118, Try.ntmps118
    go_wp2_with (go_at_call 116; refine (r1_words _ _ _ _ _).mono ?_; rintro e u1 ⟨rfl, hB, hb⟩; (try simp at hB); have c0 := blk_cell hB; have f0 := blk_free hB; have hz := Below.size hb; (try simp at hz); have H1 := Lib.hid hb; clear hb hB)
    go_ret
    refine ⟨ret_u64R ?_, ?_⟩
    · rw [bitAt_3 h0 hk, and_one (W64_shr (W64_q3 X) _)]
    · exact pBl

theorem v4_low (x : Int) : v4 0 0 (hi x) (lo x) = x := by unfold v4 val hi lo; omega
theorem mul2_words (ah al bh bl : Int) : w4 (w4 (w4 (al * bl + ah * bh * 340282366920938463463374607431768211456) + ah * bl * 18446744073709551616) + al * bh * 18446744073709551616) = w4 (val ah al * val bh bl) := by
  have e : val ah al * val bh bl = al * bl + ah * bh * 340282366920938463463374607431768211456 + ah * bl * 18446744073709551616 + al * bh * 18446744073709551616 := by
    unfold val
    rw [Int.add_mul, Int.mul_add, Int.mul_add]
    have e1 : ah * 18446744073709551616 * (bh * 18446744073709551616) = ah * bh * 340282366920938463463374607431768211456 := by
      rw [Int.mul_assoc, Int.mul_left_comm 18446744073709551616, ← Int.mul_assoc]
      congr 1
    have e2 : ah * 18446744073709551616 * bl = ah * bl * 18446744073709551616 := by rw [Int.mul_assoc, Int.mul_comm 18446744073709551616, ← Int.mul_assoc]
    have e3 : al * (bh * 18446744073709551616) = al * bh * 18446744073709551616 := by rw [Int.mul_assoc]
    omega
  rw [e]
  generalize al * bl = x; generalize ah * bh = y; generalize ah * bl = z; generalize al * bh = t
  unfold w4; omega
theorem q_of_w4 {x y : Int} (h : w4 x = w4 y) : q3 x = q3 y ∧ q2 x = q2 y ∧ q1 x = q1 y ∧ q0 x = q0 y := by
  unfold w4 at h; unfold q3 q2 q1 q0 lo hi; refine ⟨?_, ?_, ?_, ?_⟩ <;> omega
attribute [local go_sem] v4_low
set_option maxRecDepth 100000 in
set_option maxHeartbeats 2000000 in
theorem r1_MulTwo (ah al bh bl : Int) (w : World) (ha : W64 ah) (hal : W64 al) (hb : W64 bh) (hbl : W64 bl) :
    Calls Try.prog 96 #[.agg #[.int .u64 ah, .int .u64 al], .agg #[.int .u64 bh, .int .u64 bl]] w fun e w' => e = .returned (.agg #[.int .u64 (q3 (val ah al * val bh bl)), .int .u64 (q2 (val ah al * val bh bl)), .int .u64 (q1 (val ah al * val bh bl)), .int .u64 (q0 (val ah al * val bh bl))]) ∧ Below w.heap.size w w' := by
  have q4 := mul2_words ah al bh bl
  obtain ⟨h3, h2, h1, h0⟩ := q_of_w4 (x := w4 (w4 (al * bl + ah * bh * 340282366920938463463374607431768211456) + ah * bl * 18446744073709551616) + al * bh * 18446744073709551616) (y := val ah al * val bh bl) q4
  rw [← h3, ← h2, ← h1, ← h0]
  clear h3 h2 h1 h0 q4
  have p1 := W64_hmul hal hbl
  have p2 := W64_hmul ha hb
  have p3 := W64_hmul ha hbl
  have p4 := W64_hmul hal hb
  go_enter Try.func96, Try.ntmps96
  go_wp2_with (go_at_call 123; refine (r1_product _ _ _ (by assumption) (by assumption)).mono ?_; rintro e u1 ⟨rfl, ho⟩; have hzu1 := Below.size ho; (try simp at hzu1); have HB2 : Hid (Below w.heap.size w u1) := Lib.hid (Below.trans (by exact pBl) (Below.mono ho pSd)); (try clear HB); have HB := HB2; clear HB2; have B2 := blk_below (g := w.heap.size) ho pSd; (try simp (disch := first | omega | (simp; done) | (simp; omega)) only [pBk] at B2); (try rw [Hid.out B_a] at B2); (try simp only [pBk] at B2); (try clear c_a f_a r_a B_a); obtain ⟨c_a, f_a, l_u1_a, r_a, B_a⟩ := blk_all B2; clear B2; have B2 := blk_below (g := w.heap.size + 1) ho pSd; (try simp (disch := first | omega | (simp; done) | (simp; omega)) only [pBk] at B2); (try rw [Hid.out B_b] at B2); (try simp only [pBk] at B2); (try clear c_b f_b r_b B_b); obtain ⟨c_b, f_b, l_u1_b, r_b, B_b⟩ := blk_all B2; clear B2; have B2 := blk_below (g := w.heap.size + 1 + 1) ho pSd; (try simp (disch := first | omega | (simp; done) | (simp; omega)) only [pBk] at B2); (try rw [Hid.out B_r] at B2); (try simp only [pBk] at B2); (try clear c_r f_r r_r B_r); obtain ⟨c_r, f_r, l_u1_r, r_r, B_r⟩ := blk_all B2; clear B2; clear ho)
  have n1 : ¬ (w.heap.size + 1 = u1.heap.size) := by omega
  have n2 : ¬ (w.heap.size = u1.heap.size) := by omega
  refine wp_region_G (fun w' => w'.cell? ⟨w.heap.size, 0, none⟩ = some (.int .u64 ah) ∧ w'.cell? ⟨w.heap.size, 1, none⟩ = some (.int .u64 al) ∧ w'.cell? ⟨w.heap.size + 1, 0, none⟩ = some (.int .u64 bh) ∧ w'.cell? ⟨w.heap.size + 1, 1, none⟩ = some (.int .u64 bl) ∧ w'.cell? ⟨u1.heap.size, 0, none⟩ = some (.int .u64 (0)) ∧ w'.cell? ⟨u1.heap.size, 1, none⟩ = some (.int .u64 (0)) ∧ w'.cell? ⟨u1.heap.size, 2, none⟩ = some (.int .u64 (hi (al * bl))) ∧ w'.cell? ⟨u1.heap.size, 3, none⟩ = some (.int .u64 (lo (al * bl)))) 7 (by kernel_rfl) ?_ (fun hHeld => ?_)
  · exact pKp
  refine Gw.tk 0 rfl ?_
  (try simp only [pLy])
  refine Gw.tk 1 rfl ?_
  (try simp only [pLy])
  refine Gw.tk 2 rfl ?_
  (try simp only [pLy])
  refine Gw.tk 3 rfl ?_
  (try simp only [pLy])
  refine Gw.tk 4 rfl ?_
  (try simp only [pLy])
  refine Gw.one (i := 5) rfl (by kernel_rfl) (fun K hK => ?_)
  go_simp
  (go_at_call 123; refine (r1_product _ _ _ (by assumption) (by assumption)).mono ?_; rintro e u2 ⟨rfl, ho⟩; have hzu2 := Below.size ho; (try simp at hzu2); have HB2 : Hid (Below w.heap.size w u2) := Lib.hid (Below.trans (by exact pBl) (Below.mono ho pSd)); (try clear HB); have HB := HB2; clear HB2; have B2 := blk_below (g := w.heap.size) ho pSd; (try simp (disch := first | omega | (simp; done) | (simp; omega)) only [pBk] at B2); (try rw [Hid.out B_a] at B2); (try simp only [pBk] at B2); (try clear c_a f_a r_a B_a); obtain ⟨c_a, f_a, l_u2_a, r_a, B_a⟩ := blk_all B2; clear B2; have B2 := blk_below (g := w.heap.size + 1) ho pSd; (try simp (disch := first | omega | (simp; done) | (simp; omega)) only [pBk] at B2); (try rw [Hid.out B_b] at B2); (try simp only [pBk] at B2); (try clear c_b f_b r_b B_b); obtain ⟨c_b, f_b, l_u2_b, r_b, B_b⟩ := blk_all B2; clear B2; have B2 := blk_below (g := w.heap.size + 1 + 1) ho pSd; (try simp (disch := first | omega | (simp; done) | (simp; omega)) only [pBk] at B2); (try rw [Hid.out B_r] at B2); (try simp only [pBk] at B2); (try clear c_r f_r r_r B_r); obtain ⟨c_r, f_r, l_u2_r, r_r, B_r⟩ := blk_all B2; clear B2; have B2 := blk_below (g := u1.heap.size) ho pSd; (try simp (disch := first | omega | (simp; done) | (simp; omega)) only [pBk] at B2); (try rw [Hid.out B_t] at B2); (try simp only [pBk] at B2); (try clear c_t f_t r_t B_t); obtain ⟨c_t, f_t, l_u2_t, r_t, B_t⟩ := blk_all B2; clear B2; clear ho)
  (try go_wp2_with fail)
  refine hK.out _ _ ?_ (fun hHeld => ?_)
  · exact pKp
  clear hK K
  (try simp only [pLy])
  refine Gw.one (i := 6) rfl (by kernel_rfl) (fun K hK => ?_)
  go_simp
  (go_at_call 124; refine (r1_plusU _ _ _ _ _ _ _ (by exact W64_0) (by exact W64_0) (by assumption) (by exact W64_lo _) (by assumption) (by exact W64_lo _)).mono ?_; rintro e u3 ⟨rfl, ho⟩; have hzu3 := Below.size ho; (try simp at hzu3); have HB2 : Hid (Below w.heap.size w u3) := Lib.hid (Below.trans (by exact pBl) (Below.mono ho pSd)); (try clear HB); have HB := HB2; clear HB2; have B2 := blk_below (g := w.heap.size) ho pSd; (try simp (disch := first | omega | (simp; done) | (simp; omega)) only [pBk] at B2); (try rw [Hid.out B_a] at B2); (try simp only [pBk] at B2); (try clear c_a f_a r_a B_a); obtain ⟨c_a, f_a, l_u3_a, r_a, B_a⟩ := blk_all B2; clear B2; have B2 := blk_below (g := w.heap.size + 1) ho pSd; (try simp (disch := first | omega | (simp; done) | (simp; omega)) only [pBk] at B2); (try rw [Hid.out B_b] at B2); (try simp only [pBk] at B2); (try clear c_b f_b r_b B_b); obtain ⟨c_b, f_b, l_u3_b, r_b, B_b⟩ := blk_all B2; clear B2; have B2 := blk_below (g := w.heap.size + 1 + 1) ho pSd; (try simp (disch := first | omega | (simp; done) | (simp; omega)) only [pBk] at B2); (try rw [Hid.out B_r] at B2); (try simp only [pBk] at B2); (try clear c_r f_r r_r B_r); obtain ⟨c_r, f_r, l_u3_r, r_r, B_r⟩ := blk_all B2; clear B2; have B2 := blk_below (g := u1.heap.size) ho pSd; (try simp (disch := first | omega | (simp; done) | (simp; omega)) only [pBk] at B2); (try rw [Hid.out B_t] at B2); (try simp only [pBk] at B2); (try clear c_t f_t r_t B_t); obtain ⟨c_t, f_t, l_u3_t, r_t, B_t⟩ := blk_all B2; clear B2; clear ho)
  (try go_wp2_with fail)
  refine hK.out _ _ ?_ (fun hHeld => ?_)
  · exact pKp
  clear hK K
  (try simp only [pLy])
  refine Gw.last (i := 7) rfl (by kernel_rfl) (by decide) (fun K hK => ?_)
  go_simp
  refine hK.out _ _ ?_
  clear hK K
  (try simp only [pLy])
  refine Gw.done (by kernel_rfl) ?_ _
  go_wp2_with fail
  refine wp_region_G (fun w' => w'.cell? ⟨w.heap.size, 0, none⟩ = some (.int .u64 ah) ∧ w'.cell? ⟨w.heap.size, 1, none⟩ = some (.int .u64 al) ∧ w'.cell? ⟨w.heap.size + 1, 0, none⟩ = some (.int .u64 bh) ∧ w'.cell? ⟨w.heap.size + 1, 1, none⟩ = some (.int .u64 bl) ∧ w'.cell? ⟨u1.heap.size, 0, none⟩ = some (.int .u64 (q3 (al * bl + ah * bh * 340282366920938463463374607431768211456))) ∧ w'.cell? ⟨u1.heap.size, 1, none⟩ = some (.int .u64 (q2 (al * bl + ah * bh * 340282366920938463463374607431768211456))) ∧ w'.cell? ⟨u1.heap.size, 2, none⟩ = some (.int .u64 (q1 (al * bl + ah * bh * 340282366920938463463374607431768211456))) ∧ w'.cell? ⟨u1.heap.size, 3, none⟩ = some (.int .u64 (q0 (al * bl + ah * bh * 340282366920938463463374607431768211456)))) 7 (by kernel_rfl) ?_ (fun hHeld => ?_)
  · exact pKp
  refine Gw.tk 0 rfl ?_
  (try simp only [pLy])
  refine Gw.tk 1 rfl ?_
  (try simp only [pLy])
  refine Gw.tk 2 rfl ?_
  (try simp only [pLy])
  refine Gw.tk 3 rfl ?_
  (try simp only [pLy])
  refine Gw.tk 4 rfl ?_
  (try simp only [pLy])
  refine Gw.one (i := 5) rfl (by kernel_rfl) (fun K hK => ?_)
  go_simp
  (go_at_call 123; refine (r1_product _ _ _ (by assumption) (by assumption)).mono ?_; rintro e u4 ⟨rfl, ho⟩; have hzu4 := Below.size ho; (try simp at hzu4); have HB2 : Hid (Below w.heap.size w u4) := Lib.hid (Below.trans (by exact pBl) (Below.mono ho pSd)); (try clear HB); have HB := HB2; clear HB2; have B2 := blk_below (g := w.heap.size) ho pSd; (try simp (disch := first | omega | (simp; done) | (simp; omega)) only [pBk] at B2); (try rw [Hid.out B_a] at B2); (try simp only [pBk] at B2); (try clear c_a f_a r_a B_a); obtain ⟨c_a, f_a, l_u4_a, r_a, B_a⟩ := blk_all B2; clear B2; have B2 := blk_below (g := w.heap.size + 1) ho pSd; (try simp (disch := first | omega | (simp; done) | (simp; omega)) only [pBk] at B2); (try rw [Hid.out B_b] at B2); (try simp only [pBk] at B2); (try clear c_b f_b r_b B_b); obtain ⟨c_b, f_b, l_u4_b, r_b, B_b⟩ := blk_all B2; clear B2; have B2 := blk_below (g := w.heap.size + 1 + 1) ho pSd; (try simp (disch := first | omega | (simp; done) | (simp; omega)) only [pBk] at B2); (try rw [Hid.out B_r] at B2); (try simp only [pBk] at B2); (try clear c_r f_r r_r B_r); obtain ⟨c_r, f_r, l_u4_r, r_r, B_r⟩ := blk_all B2; clear B2; have B2 := blk_below (g := u1.heap.size) ho pSd; (try simp (disch := first | omega | (simp; done) | (simp; omega)) only [pBk] at B2); (try rw [Hid.out B_t] at B2); (try simp only [pBk] at B2); (try clear c_t f_t r_t B_t); obtain ⟨c_t, f_t, l_u4_t, r_t, B_t⟩ := blk_all B2; clear B2; clear ho)
  (try go_wp2_with fail)
  refine hK.out _ _ ?_ (fun hHeld => ?_)
  · exact pKp
  clear hK K
  (try simp only [pLy])
  refine Gw.one (i := 6) rfl (by kernel_rfl) (fun K hK => ?_)
  go_simp
  (go_at_call 124; refine (r1_plusM _ _ _ _ _ _ _ (by exact W64_q3 _) (by exact W64_q2 _) (by exact W64_q1 _) (by exact W64_q0 _) (by assumption) (by exact W64_lo _)).mono ?_; rintro e u5 ⟨rfl, ho⟩; have hzu5 := Below.size ho; (try simp at hzu5); have HB2 : Hid (Below w.heap.size w u5) := Lib.hid (Below.trans (by exact pBl) (Below.mono ho pSd)); (try clear HB); have HB := HB2; clear HB2; have B2 := blk_below (g := w.heap.size) ho pSd; (try simp (disch := first | omega | (simp; done) | (simp; omega)) only [pBk] at B2); (try rw [Hid.out B_a] at B2); (try simp only [pBk] at B2); (try clear c_a f_a r_a B_a); obtain ⟨c_a, f_a, l_u5_a, r_a, B_a⟩ := blk_all B2; clear B2; have B2 := blk_below (g := w.heap.size + 1) ho pSd; (try simp (disch := first | omega | (simp; done) | (simp; omega)) only [pBk] at B2); (try rw [Hid.out B_b] at B2); (try simp only [pBk] at B2); (try clear c_b f_b r_b B_b); obtain ⟨c_b, f_b, l_u5_b, r_b, B_b⟩ := blk_all B2; clear B2; have B2 := blk_below (g := w.heap.size + 1 + 1) ho pSd; (try simp (disch := first | omega | (simp; done) | (simp; omega)) only [pBk] at B2); (try rw [Hid.out B_r] at B2); (try simp only [pBk] at B2); (try clear c_r f_r r_r B_r); obtain ⟨c_r, f_r, l_u5_r, r_r, B_r⟩ := blk_all B2; clear B2; have B2 := blk_below (g := u1.heap.size) ho pSd; (try simp (disch := first | omega | (simp; done) | (simp; omega)) only [pBk] at B2); (try rw [Hid.out B_t] at B2); (try simp only [pBk] at B2); (try clear c_t f_t r_t B_t); obtain ⟨c_t, f_t, l_u5_t, r_t, B_t⟩ := blk_all B2; clear B2; clear ho)
  (try go_wp2_with fail)
  refine hK.out _ _ ?_ (fun hHeld => ?_)
  · exact pKp
  clear hK K
  (try simp only [pLy])
  refine Gw.last (i := 7) rfl (by kernel_rfl) (by decide) (fun K hK => ?_)
  go_simp
  refine hK.out _ _ ?_
  clear hK K
  (try simp only [pLy])
  refine Gw.done (by kernel_rfl) ?_ _
  go_wp2_with fail
  refine wp_region_G (fun w' => w'.cell? ⟨w.heap.size, 0, none⟩ = some (.int .u64 ah) ∧ w'.cell? ⟨w.heap.size, 1, none⟩ = some (.int .u64 al) ∧ w'.cell? ⟨w.heap.size + 1, 0, none⟩ = some (.int .u64 bh) ∧ w'.cell? ⟨w.heap.size + 1, 1, none⟩ = some (.int .u64 bl) ∧ w'.cell? ⟨u1.heap.size, 0, none⟩ = some (.int .u64 (q3 (w4 (al * bl + ah * bh * 340282366920938463463374607431768211456) + ah * bl * 18446744073709551616))) ∧ w'.cell? ⟨u1.heap.size, 1, none⟩ = some (.int .u64 (q2 (w4 (al * bl + ah * bh * 340282366920938463463374607431768211456) + ah * bl * 18446744073709551616))) ∧ w'.cell? ⟨u1.heap.size, 2, none⟩ = some (.int .u64 (q1 (w4 (al * bl + ah * bh * 340282366920938463463374607431768211456) + ah * bl * 18446744073709551616))) ∧ w'.cell? ⟨u1.heap.size, 3, none⟩ = some (.int .u64 (q0 (w4 (al * bl + ah * bh * 340282366920938463463374607431768211456) + ah * bl * 18446744073709551616)))) 7 (by kernel_rfl) ?_ (fun hHeld => ?_)
  · exact pKp
  refine Gw.tk 0 rfl ?_
  (try simp only [pLy])
  refine Gw.tk 1 rfl ?_
  (try simp only [pLy])
  refine Gw.tk 2 rfl ?_
  (try simp only [pLy])
  refine Gw.tk 3 rfl ?_
  (try simp only [pLy])
  refine Gw.tk 4 rfl ?_
  (try simp only [pLy])
  refine Gw.one (i := 5) rfl (by kernel_rfl) (fun K hK => ?_)
  go_simp
  (go_at_call 123; refine (r1_product _ _ _ (by assumption) (by assumption)).mono ?_; rintro e u6 ⟨rfl, ho⟩; have hzu6 := Below.size ho; (try simp at hzu6); have HB2 : Hid (Below w.heap.size w u6) := Lib.hid (Below.trans (by exact pBl) (Below.mono ho pSd)); (try clear HB); have HB := HB2; clear HB2; have B2 := blk_below (g := w.heap.size) ho pSd; (try simp (disch := first | omega | (simp; done) | (simp; omega)) only [pBk] at B2); (try rw [Hid.out B_a] at B2); (try simp only [pBk] at B2); (try clear c_a f_a r_a B_a); obtain ⟨c_a, f_a, l_u6_a, r_a, B_a⟩ := blk_all B2; clear B2; have B2 := blk_below (g := w.heap.size + 1) ho pSd; (try simp (disch := first | omega | (simp; done) | (simp; omega)) only [pBk] at B2); (try rw [Hid.out B_b] at B2); (try simp only [pBk] at B2); (try clear c_b f_b r_b B_b); obtain ⟨c_b, f_b, l_u6_b, r_b, B_b⟩ := blk_all B2; clear B2; have B2 := blk_below (g := w.heap.size + 1 + 1) ho pSd; (try simp (disch := first | omega | (simp; done) | (simp; omega)) only [pBk] at B2); (try rw [Hid.out B_r] at B2); (try simp only [pBk] at B2); (try clear c_r f_r r_r B_r); obtain ⟨c_r, f_r, l_u6_r, r_r, B_r⟩ := blk_all B2; clear B2; have B2 := blk_below (g := u1.heap.size) ho pSd; (try simp (disch := first | omega | (simp; done) | (simp; omega)) only [pBk] at B2); (try rw [Hid.out B_t] at B2); (try simp only [pBk] at B2); (try clear c_t f_t r_t B_t); obtain ⟨c_t, f_t, l_u6_t, r_t, B_t⟩ := blk_all B2; clear B2; clear ho)
  (try go_wp2_with fail)
  refine hK.out _ _ ?_ (fun hHeld => ?_)
  · exact pKp
  clear hK K
  (try simp only [pLy])
  refine Gw.one (i := 6) rfl (by kernel_rfl) (fun K hK => ?_)
  go_simp
  (go_at_call 124; refine (r1_plusM _ _ _ _ _ _ _ (by exact W64_q3 _) (by exact W64_q2 _) (by exact W64_q1 _) (by exact W64_q0 _) (by assumption) (by exact W64_lo _)).mono ?_; rintro e u7 ⟨rfl, ho⟩; have hzu7 := Below.size ho; (try simp at hzu7); have HB2 : Hid (Below w.heap.size w u7) := Lib.hid (Below.trans (by exact pBl) (Below.mono ho pSd)); (try clear HB); have HB := HB2; clear HB2; have B2 := blk_below (g := w.heap.size) ho pSd; (try simp (disch := first | omega | (simp; done) | (simp; omega)) only [pBk] at B2); (try rw [Hid.out B_a] at B2); (try simp only [pBk] at B2); (try clear c_a f_a r_a B_a); obtain ⟨c_a, f_a, l_u7_a, r_a, B_a⟩ := blk_all B2; clear B2; have B2 := blk_below (g := w.heap.size + 1) ho pSd; (try simp (disch := first | omega | (simp; done) | (simp; omega)) only [pBk] at B2); (try rw [Hid.out B_b] at B2); (try simp only [pBk] at B2); (try clear c_b f_b r_b B_b); obtain ⟨c_b, f_b, l_u7_b, r_b, B_b⟩ := blk_all B2; clear B2; have B2 := blk_below (g := w.heap.size + 1 + 1) ho pSd; (try simp (disch := first | omega | (simp; done) | (simp; omega)) only [pBk] at B2); (try rw [Hid.out B_r] at B2); (try simp only [pBk] at B2); (try clear c_r f_r r_r B_r); obtain ⟨c_r, f_r, l_u7_r, r_r, B_r⟩ := blk_all B2; clear B2; have B2 := blk_below (g := u1.heap.size) ho pSd; (try simp (disch := first | omega | (simp; done) | (simp; omega)) only [pBk] at B2); (try rw [Hid.out B_t] at B2); (try simp only [pBk] at B2); (try clear c_t f_t r_t B_t); obtain ⟨c_t, f_t, l_u7_t, r_t, B_t⟩ := blk_all B2; clear B2; clear ho)
  (try go_wp2_with fail)
  refine hK.out _ _ ?_ (fun hHeld => ?_)
  · exact pKp
  clear hK K
  (try simp only [pLy])
  refine Gw.last (i := 7) rfl (by kernel_rfl) (by decide) (fun K hK => ?_)
  go_simp
  refine hK.out _ _ ?_
  clear hK K
  (try simp only [pLy])
  refine Gw.done (by kernel_rfl) ?_ _
  go_wp2_with fail
  all_goals refine bodyPost_ret ?rr rfl ⟨rfl, ?bb⟩
  case rr => simp (maxDischargeDepth := 9) [results, Try.results96, go_sem, *]
  case bb => exact pBl
end Go.Proofs.Ytdphhkbbphfjlaa
