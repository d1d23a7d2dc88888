/- r22.Momentum of a world whose momenta are small. -/
import Derived.Test.YtdphhkbbphfjlaaCWldI
import Derived.Test.YtdphhkbbphfjlaaCRg
import Derived.Test.YtdphhkbbphfjlaaCRefJ
namespace Go.Proofs.Ytdphhkbbphfjlaa
set_option linter.unusedVariables false
set_option linter.unusedSimpArgs false
open Go.RowKit
attribute [local go_sem] uwrap_lo lo_lo hi_lo val_hl val_00 v4_q
attribute [local go_sem ↓] Go.wp_at_zero Go.wp_at_succ
attribute [local go_sem] nOf_ok nOf_err eOf_ok eOf_err xOf_ok yOf_ok xOf_err yOf_err vecX_ok vecX_err vecX_ok_err hi_z lo_z okB_ok okB_err hitV_some hitV_none hitV_err hitB_some hitB_none hitB_err
attribute [local go_sem ↓] loadRow_body
attribute [local go_sem] rowAt_at rowAt_past rowAt_drew rowAt_far run_load_body row_0_0 row_0_1 row_0_2 row_0_3 row_0_4 row_0_5 row_1_0 row_1_1 row_1_2 row_1_3 row_1_4 row_2_0 row_2_1 row_2_2 row_2_3
attribute [local go_sem ↓] storeRow_body loadVar_body
attribute [local go_sem] run_loadV_body rowAt_same run_store_body row0_at row0_past row0_drew row0_far row0_rowfar rowAt_rowfar setRow_a2 setRow_b2 setRow_alloc cell_setRow_far frozen_setRow_far allOne_nil allOne_int allOne_bool allOne_slice
attribute [local go_sem ↓] loadRow_world storeRow_world loadVar_world
attribute [local go_sem] run_load_world run_store_world run_loadV_world range_alloc_iff range_drew_iff range_set_iff
theorem sumPx_take (l : List BodyI) (k : Nat) (h : k < l.length) : sumPx (l.take (k + 1)) = sumPx (l.take k) + (l.getD k noB).px := by
  rw [List.take_succ_eq_append_getElem h, List.getD_eq_getElem?_getD, List.getElem?_eq_getElem h]
  unfold sumPx
  rw [List.map_append, List.sum_append]
  simp
theorem sumPy_take (l : List BodyI) (k : Nat) (h : k < l.length) : sumPy (l.take (k + 1)) = sumPy (l.take k) + (l.getD k noB).py := by
  rw [List.take_succ_eq_append_getElem h, List.getD_eq_getElem?_getD, List.getElem?_eq_getElem h]
  unfold sumPy
  rw [List.map_append, List.sum_append]
  simp
set_option maxRecDepth 100000 in
set_option maxHeartbeats 8000000 in
theorem r22_Momentum (q0 q1 q2 q3 q4 q5 q6 q7 q8 q9 q10 q11 q12 q13 q14 q15 q16 q17 q18 : Int) (vb vt vr va ve : Value) (n : Nat) (l : List BodyI) (w : World) (hb : Reads w 20 vb n (l.flatMap bodyL)) (hl : l.length = n) (hn : n ≤ 100000) (m1 : MayF q15 q16) (m2 : MayF q17 q18)
    (hR : ∀ b ∈ l, R b.px ∧ R b.py) (hS : ∀ k, k ≤ n → R (val q15 q16 + sumPx (l.take k)) ∧ R (val q17 q18 + sumPy (l.take k))) :
    Calls Try.prog 32 #[.agg #[.int .i64 q0, .int .i64 q1, .int .u64 q2, .int .i64 q3, .int .u64 q4, .int .i64 q5, .int .u64 q6, .int .i64 q7, .int .u64 q8, .int .i64 q9, .int .u64 q10, .int .i64 q11, .int .i64 q12, vb, vt, vr, va, .int .i64 q13, .int .u64 q14, .int .i64 q15, .int .u64 q16, .int .i64 q17, .int .u64 q18, ve]] w fun e w' => e = .returned (.agg #[.int .i64 (hi (val q15 q16 + sumPx l)), .int .u64 (lo (val q15 q16 + sumPx l)), .int .i64 (hi (val q17 q18 + sumPy l)), .int .u64 (lo (val q17 q18 + sumPy l)), .int .i64 0]) ∧ Below w.heap.size w w' := by
  obtain ⟨ab, cb, rfl⟩ := hb.form
  have Hb := Lib.hid hb
  have Hl := Lib.hid hl
  have HR := Lib.hid hR
  have HS := Lib.hid hS
  have e1 : q15 = hi (val q15 q16) ∧ q16 = lo (val q15 q16) := ⟨(hi_val m1.w).symm, (lo_val m1.w).symm⟩
  have e2 : q17 = hi (val q17 q18) ∧ q18 = lo (val q17 q18) := ⟨(hi_val m2.w).symm, (lo_val m2.w).symm⟩
  have E1 := Lib.hid e1
  have E2 := Lib.hid e2
  clear hb hl hR hS e1 e2
  go_enter Try.func32, Try.ntmps32
  go_upto_region 2 with fail
  have e_x : blk (((w.alloc (.cells #[.int .i64 q0, .int .i64 q1, .int .u64 q2, .int .i64 q3, .int .u64 q4, .int .i64 q5, .int .u64 q6, .int .i64 q7, .int .u64 q8, .int .i64 q9, .int .u64 q10, .int .i64 q11, .int .i64 q12, .slice ab n cb, vt, vr, va, .int .i64 q13, .int .u64 q14, .int .i64 q15, .int .u64 q16, .int .i64 q17, .int .u64 q18, ve] 66)).alloc (.cells #[.int .i64 0, .int .u64 0, .int .i64 0, .int .u64 0, .int .i64 0] 78)).alloc (.cells #[.int .i64 q15, .int .u64 q16, .int .i64 q17, .int .u64 q18, .int .i64 0] 78)) (w.heap.size) = some (.cells #[.int .i64 q0, .int .i64 q1, .int .u64 q2, .int .i64 q3, .int .u64 q4, .int .i64 q5, .int .u64 q6, .int .i64 q7, .int .u64 q8, .int .i64 q9, .int .u64 q10, .int .i64 q11, .int .i64 q12, .slice ab n cb, vt, vr, va, .int .i64 q13, .int .u64 q14, .int .i64 q15, .int .u64 q16, .int .i64 q17, .int .u64 q18, ve] 66 (0, 0)) := by ((try simp (disch := first | omega | (simp; done) | (simp; omega)) only [pBk]); first | done | with_reducible rfl | with_reducible exact Hid.out (by assumption) | (with_reducible rw [Hid.out B_zz]; (try simp only [pBk]); first | done | with_reducible rfl))
  have e_r : blk (((w.alloc (.cells #[.int .i64 q0, .int .i64 q1, .int .u64 q2, .int .i64 q3, .int .u64 q4, .int .i64 q5, .int .u64 q6, .int .i64 q7, .int .u64 q8, .int .i64 q9, .int .u64 q10, .int .i64 q11, .int .i64 q12, .slice ab n cb, vt, vr, va, .int .i64 q13, .int .u64 q14, .int .i64 q15, .int .u64 q16, .int .i64 q17, .int .u64 q18, ve] 66)).alloc (.cells #[.int .i64 0, .int .u64 0, .int .i64 0, .int .u64 0, .int .i64 0] 78)).alloc (.cells #[.int .i64 q15, .int .u64 q16, .int .i64 q17, .int .u64 q18, .int .i64 0] 78)) (w.heap.size + 1) = some (.cells #[.int .i64 0, .int .u64 0, .int .i64 0, .int .u64 0, .int .i64 0] 78 (0, 0)) := by ((try simp (disch := first | omega | (simp; done) | (simp; omega)) only [pBk]); first | done | with_reducible rfl | with_reducible exact Hid.out (by assumption) | (with_reducible rw [Hid.out B_zz]; (try simp only [pBk]); first | done | with_reducible rfl))
  have e_t : blk (((w.alloc (.cells #[.int .i64 q0, .int .i64 q1, .int .u64 q2, .int .i64 q3, .int .u64 q4, .int .i64 q5, .int .u64 q6, .int .i64 q7, .int .u64 q8, .int .i64 q9, .int .u64 q10, .int .i64 q11, .int .i64 q12, .slice ab n cb, vt, vr, va, .int .i64 q13, .int .u64 q14, .int .i64 q15, .int .u64 q16, .int .i64 q17, .int .u64 q18, ve] 66)).alloc (.cells #[.int .i64 0, .int .u64 0, .int .i64 0, .int .u64 0, .int .i64 0] 78)).alloc (.cells #[.int .i64 q15, .int .u64 q16, .int .i64 q17, .int .u64 q18, .int .i64 0] 78)) (w.heap.size + 1 + 1) = some (.cells #[.int .i64 q15, .int .u64 q16, .int .i64 q17, .int .u64 q18, .int .i64 0] 78 (0, 0)) := by ((try simp (disch := first | omega | (simp; done) | (simp; omega)) only [pBk]); first | done | with_reducible rfl | with_reducible exact Hid.out (by assumption) | (with_reducible rw [Hid.out B_zz]; (try simp only [pBk]); first | done | with_reducible rfl))
  have hb_ : Below w.heap.size w (((w.alloc (.cells #[.int .i64 q0, .int .i64 q1, .int .u64 q2, .int .i64 q3, .int .u64 q4, .int .i64 q5, .int .u64 q6, .int .i64 q7, .int .u64 q8, .int .i64 q9, .int .u64 q10, .int .i64 q11, .int .i64 q12, .slice ab n cb, vt, vr, va, .int .i64 q13, .int .u64 q14, .int .i64 q15, .int .u64 q16, .int .i64 q17, .int .u64 q18, ve] 66)).alloc (.cells #[.int .i64 0, .int .u64 0, .int .i64 0, .int .u64 0, .int .i64 0] 78)).alloc (.cells #[.int .i64 q15, .int .u64 q16, .int .i64 q17, .int .u64 q18, .int .i64 0] 78)) := by exact pBl
  have hLB : w.heap.size + 3 ≤ (((w.alloc (.cells #[.int .i64 q0, .int .i64 q1, .int .u64 q2, .int .i64 q3, .int .u64 q4, .int .i64 q5, .int .u64 q6, .int .i64 q7, .int .u64 q8, .int .i64 q9, .int .u64 q10, .int .i64 q11, .int .i64 q12, .slice ab n cb, vt, vr, va, .int .i64 q13, .int .u64 q14, .int .i64 q15, .int .u64 q16, .int .i64 q17, .int .u64 q18, ve] 66)).alloc (.cells #[.int .i64 0, .int .u64 0, .int .i64 0, .int .u64 0, .int .i64 0] 78)).alloc (.cells #[.int .i64 q15, .int .u64 q16, .int .i64 q17, .int .u64 q18, .int .i64 0] 78)).heap.size := by simp
  generalize (((w.alloc (.cells #[.int .i64 q0, .int .i64 q1, .int .u64 q2, .int .i64 q3, .int .u64 q4, .int .i64 q5, .int .u64 q6, .int .i64 q7, .int .u64 q8, .int .i64 q9, .int .u64 q10, .int .i64 q11, .int .i64 q12, .slice ab n cb, vt, vr, va, .int .i64 q13, .int .u64 q14, .int .i64 q15, .int .u64 q16, .int .i64 q17, .int .u64 q18, ve] 66)).alloc (.cells #[.int .i64 0, .int .u64 0, .int .i64 0, .int .u64 0, .int .i64 0] 78)).alloc (.cells #[.int .i64 q15, .int .u64 q16, .int .i64 q17, .int .u64 q18, .int .i64 0] 78)) = wx1 at *
  (try clear HB); have HB := Lib.hid hb_; clear hb_
  (try clear c_x); (try clear f_x r_x B_x); obtain ⟨c_x, f_x, l_x, r_x, B_x⟩ := blk_all e_x; clear e_x; (try clear c_r); (try clear f_r r_r B_r); obtain ⟨c_r, f_r, l_r, r_r, B_r⟩ := blk_all e_r; clear e_r; (try clear c_t); (try clear f_t r_t B_t); obtain ⟨c_t, f_t, l_t, r_t, B_t⟩ := blk_all e_t; clear e_t
  have nxwx1 : ¬ (w.heap.size = wx1.heap.size) := by omega
  have nrwx1 : ¬ (w.heap.size + 1 = wx1.heap.size) := by omega
  have ntwx1 : ¬ (w.heap.size + 1 + 1 = wx1.heap.size) := by omega
  go_wp2_with fail
  go_loopw [4] (fun i wr => ∃ k : Nat, k ≤ n ∧ i = .int .i64 (k : Int) ∧ blk wr w.heap.size = some (.cells #[.int .i64 q0, .int .i64 q1, .int .u64 q2, .int .i64 q3, .int .u64 q4, .int .i64 q5, .int .u64 q6, .int .i64 q7, .int .u64 q8, .int .i64 q9, .int .u64 q10, .int .i64 q11, .int .i64 q12, .slice ab n cb, vt, vr, va, .int .i64 q13, .int .u64 q14, .int .i64 q15, .int .u64 q16, .int .i64 q17, .int .u64 q18, ve] 66 (0, 0)) ∧ blk wr (w.heap.size + 1) = some (.cells #[.int .i64 0, .int .u64 0, .int .i64 0, .int .u64 0, .int .i64 0] 78 (0, 0)) ∧ blk wr (w.heap.size + 1 + 1) = some (.cells #[.int .i64 (hi (val q15 q16 + sumPx (l.take k))), .int .u64 (lo (val q15 q16 + sumPx (l.take k))), .int .i64 (hi (val q17 q18 + sumPy (l.take k))), .int .u64 (lo (val q17 q18 + sumPy (l.take k))), .int .i64 0] 78 (0, 0)) ∧ Below w.heap.size w wr) (fun i _ => n - (intOf i).toNat)
  case atStart =>
    refine ⟨0, Nat.zero_le _, rfl, B_x.out, B_r.out, ?st, HB.out⟩
    case st =>
      rw [B_t.out, show sumPx (l.take 0) = 0 from rfl, show sumPy (l.take 0) = 0 from rfl, Int.add_zero, Int.add_zero, ← E1.out.1, ← E1.out.2, ← E2.out.1, ← E2.out.2]
  case round =>
    obtain ⟨k, hk, rfl, e_x, e_r, e_t, hbel⟩ := hrel
    (try clear HB); have HB := Lib.hid hbel; clear hbel
    (try clear c_x f_x r_x B_x c_r f_r r_r B_r c_t f_t r_t B_t)
    (try clear c_x); (try clear f_x r_x B_x); obtain ⟨c_x, f_x, l_x, r_x, B_x⟩ := blk_all e_x; clear e_x; (try clear c_r); (try clear f_r r_r B_r); obtain ⟨c_r, f_r, l_r, r_r, B_r⟩ := blk_all e_r; clear e_r; (try clear c_t); (try clear f_t r_t B_t); obtain ⟨c_t, f_t, l_t, r_t, B_t⟩ := blk_all e_t; clear e_t
    by_cases h1 : k < n
    · have h1' : ((k : Int) < (n : Int)) := by omega
      have v0 : 0 ≤ (k : Int) ∧ (k : Int) < (n : Int) := by omega
      obtain ⟨g, o, c1, e1, r1⟩ := (Hb.out.below (by omega) HB.out).at bodyL_length noB Hl.out k h1
      injection e1 with e1 _ e1'
      subst e1 e1'
      obtain ⟨b, hbe⟩ : ∃ b, l.getD k noB = b := ⟨_, rfl⟩
      rw [hbe] at r1
      have hbR := HR.out b (by rw [← hbe]; exact getD_mem (by rw [Hl.out]; exact h1))
      have hs0 := HS.out k hk
      have hs1 := HS.out (k + 1) h1
      rw [sumPx_take l k (by rw [Hl.out]; exact h1), sumPy_take l k (by rw [Hl.out]; exact h1), hbe, ← Int.add_assoc, ← Int.add_assoc] at hs1
      have tx := sumPx_take l k (by rw [Hl.out]; exact h1)
      have ty := sumPy_take l k (by rw [Hl.out]; exact h1)
      rw [hbe] at tx ty
      have Tx := Lib.hid tx
      have Ty := Lib.hid ty
      clear hbe tx ty
      obtain ⟨X, hX⟩ : ∃ X, val q15 q16 + sumPx (l.take k) = X := ⟨_, rfl⟩
      obtain ⟨Y, hY⟩ : ∃ Y, val q17 q18 + sumPy (l.take k) = Y := ⟨_, rfl⟩
      rw [hX, hY] at hs0 hs1 c_t r_t B_t
      have HX := Lib.hid hX
      have HY := Lib.hid hY
      clear hX hY
      have cAd := fun W => r1_AddVec (hi X) (lo X) (hi Y) (lo Y) (hi b.px) (lo b.px) (hi b.py) (lo b.py) W (MayF.of hs0.1) (MayF.of hs0.2) (MayF.of hbR.1) (MayF.of hbR.2)
      have ea : addV X Y b.px b.py = .ok (X + b.px, Y + b.py) := by
        unfold addV
        rw [addX_ok hs1.1, addX_ok hs1.2]; rfl
      simp only [val_hl, ea, xOf_ok, yOf_ok, eOf_ok] at cAd
      have HS1 := Lib.hid hs1
      clear hs0 hs1 hbR ea
      have cb0 := r1 8 _ rfl
      have cb1 := r1 9 _ rfl
      have cb2 := r1 10 _ rfl
      have cb3 := r1 11 _ rfl
      have hg := cell_lt cb0
      clear r1
      have nx : ¬ (w.heap.size = wr.heap.size) := by omega
      go_upto_region 5 with fail
      refine wp_region_L (fun w' => w'.cell? ⟨w.heap.size, 13, none⟩ = some (.slice (some ⟨g, o, none⟩) n cb) ∧ w'.cell? ⟨w.heap.size + 1 + 1, 0, none⟩ = some (.int .i64 (hi X)) ∧ w'.cell? ⟨w.heap.size + 1 + 1, 1, none⟩ = some (.int .u64 (lo X)) ∧ w'.cell? ⟨w.heap.size + 1 + 1, 2, none⟩ = some (.int .i64 (hi Y)) ∧ w'.cell? ⟨w.heap.size + 1 + 1, 3, none⟩ = some (.int .u64 (lo Y)) ∧ w'.cell? ⟨g, o + k * 20 + 8, none⟩ = some (.int .i64 (hi b.px)) ∧ w'.cell? ⟨g, o + k * 20 + 9, none⟩ = some (.int .u64 (lo b.px)) ∧ w'.cell? ⟨g, o + k * 20 + 10, none⟩ = some (.int .i64 (hi b.py)) ∧ w'.cell? ⟨g, o + k * 20 + 11, none⟩ = some (.int .u64 (lo b.py))) [9] (by kernel_rfl) ?_ (fun hHeld => ?_)
      · exact pKp
      refine Gl.tp 0 rfl ?_
      (try simp only [pLy])
      refine Gl.tk 1 rfl ?_
      (try simp only [pLy])
      refine Gl.tp 2 rfl ?_
      (try simp only [pLy])
      refine Gl.tk 3 rfl ?_
      (try simp only [pLy])
      refine Gl.tp 4 rfl ?_
      (try simp only [pLy])
      refine Gl.tp 5 rfl ?_
      (try simp only [pLy])
      refine Gl.tp 6 rfl ?_
      (try simp only [pLy])
      refine Gl.tk 7 rfl ?_
      (try simp only [pLy])
      refine Gl.one (i := 8) rfl (by kernel_rfl) (fun K hK => ?_)
      go_simp
      (go_at_call 80; refine (cAd _).mono ?_; rintro e u1 ⟨rfl, ho⟩; have cc0 := (ho.cell (p := ⟨g, o + k * 20 + 8, none⟩) (by exact hg)).trans cb0; have cc1 := (ho.cell (p := ⟨g, o + k * 20 + 9, none⟩) (by exact hg)).trans cb1; have cc2 := (ho.cell (p := ⟨g, o + k * 20 + 10, none⟩) (by exact hg)).trans cb2; have cc3 := (ho.cell (p := ⟨g, o + k * 20 + 11, none⟩) (by exact hg)).trans cb3; have hzu1 := Below.size ho; (try simp at hzu1); have HB2 : Hid (Below w.heap.size w u1) := Lib.hid (Below.trans (by exact pBl) (Below.mono ho pSd)); (try clear HB); have HB := HB2; clear HB2; have B2 := blk_below (g := w.heap.size) ho pSd; (try simp (disch := first | omega | (simp; done) | (simp; omega)) only [pBk] at B2); (try rw [Hid.out B_x] at B2); (try simp only [pBk] at B2); (try clear c_x f_x r_x B_x); obtain ⟨c_x, f_x, l_u1_x, r_x, B_x⟩ := blk_all B2; clear B2; have B2 := blk_below (g := w.heap.size + 1) ho pSd; (try simp (disch := first | omega | (simp; done) | (simp; omega)) only [pBk] at B2); (try rw [Hid.out B_r] at B2); (try simp only [pBk] at B2); (try clear c_r f_r r_r B_r); obtain ⟨c_r, f_r, l_u1_r, r_r, B_r⟩ := blk_all B2; clear B2; have B2 := blk_below (g := w.heap.size + 1 + 1) ho pSd; (try simp (disch := first | omega | (simp; done) | (simp; omega)) only [pBk] at B2); (try rw [Hid.out B_t] at B2); (try simp only [pBk] at B2); (try clear c_t f_t r_t B_t); obtain ⟨c_t, f_t, l_u1_t, r_t, B_t⟩ := blk_all B2; clear B2; clear ho)
      (try go_wp2_with fail)
      refine hK.out _ _ ?_ (fun hHeld2 => ?_)
      · exact pKp
      (try clear hHeld); have hHeld := hHeld2; clear hHeld2
      clear hK K
      (try simp only [pLy])
      refine Gl.last (i := 9) rfl (by kernel_rfl) (by decide) (fun K hK => ?_)
      go_simp
      refine hK.out _ _ ?_
      clear hK K
      (try simp only [pLy])
      refine Gl.done (by kernel_rfl) ?_ _
      go_wp2_with fail
      refine ⟨⟨k + 1, h1, by congr 1, ?ex, ?er, ?et, ?bw⟩, by simp only [intOf]; omega⟩
      case ex => ((try simp (disch := first | omega | (simp; done) | (simp; omega)) only [pBk]); first | done | with_reducible rfl | with_reducible exact Hid.out (by assumption) | (with_reducible rw [Hid.out B_x]; (try simp only [pBk]); first | done | with_reducible rfl) | (with_reducible rw [Hid.out B_r]; (try simp only [pBk]); first | done | with_reducible rfl) | (with_reducible rw [Hid.out B_t]; (try simp only [pBk]); first | done | with_reducible rfl))
      case er => ((try simp (disch := first | omega | (simp; done) | (simp; omega)) only [pBk]); first | done | with_reducible rfl | with_reducible exact Hid.out (by assumption) | (with_reducible rw [Hid.out B_x]; (try simp only [pBk]); first | done | with_reducible rfl) | (with_reducible rw [Hid.out B_r]; (try simp only [pBk]); first | done | with_reducible rfl) | (with_reducible rw [Hid.out B_t]; (try simp only [pBk]); first | done | with_reducible rfl))
      case et =>
        rw [Tx.out, Ty.out, ← Int.add_assoc, ← Int.add_assoc, HX.out, HY.out]
        ((try simp (disch := first | omega | (simp; done) | (simp; omega)) only [pBk]); first | done | with_reducible rfl | with_reducible exact Hid.out (by assumption) | (with_reducible rw [Hid.out B_x]; (try simp only [pBk]); first | done | with_reducible rfl) | (with_reducible rw [Hid.out B_r]; (try simp only [pBk]); first | done | with_reducible rfl) | (with_reducible rw [Hid.out B_t]; (try simp only [pBk]); first | done | with_reducible rfl))
      case bw => exact pBl
    · have h1' : ¬ ((k : Int) < (n : Int)) := by omega
      have hkn : k = n := by omega
      have et : l.take k = l := List.take_of_length_le (by rw [Hl.out]; omega)
      rw [et] at c_t r_t B_t
      have r0_r := row0_blk (Hid.out B_r)
      go_wp2_with fail
      refine bodyPost_ret ?rq rfl ⟨rfl, ?bb⟩
      case rq => simp (maxDischargeDepth := 9) [results, Try.results32, go_sem, *]
      case bb => exact pBl
end Go.Proofs.Ytdphhkbbphfjlaa
