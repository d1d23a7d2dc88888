/- The walk of l9.Body. Lists of bodies in memory. -/
import Derived.Test.YtdphhkbbphfjlaaCRefA
import Derived.Test.YtdphhkbbphfjlaaCSpecB
import Derived.Test.YtdphhkbbphfjlaaCRg
import Derived.Test.YtdphhkbbphfjlaaCRowA
import Derived.Deep.RegionHeld3
import Derived.Deep.DeepCutAuto
import Derived.Test.YtdphhkbbphfjlaaCEn
import Derived.Deep.MidRow
import Derived.Maps.AppendAt
import Derived.OwnWalk
namespace Go.Proofs.Ytdphhkbbphfjlaa
set_option linter.unusedVariables false
set_option linter.unusedSimpArgs false
open Go.RowKit
attribute [local go_sem] uwrap_lo lo_lo hi_lo val_hl val_00 v4_q
attribute [local go_sem ↓] Go.wp_at_zero Go.wp_at_succ
attribute [local go_sem] nOf_ok nOf_err eOf_ok eOf_err xOf_ok yOf_ok xOf_err yOf_err vecX_ok vecX_err vecX_ok_err hi_z lo_z okB_ok okB_err hitV_some hitV_none hitV_err hitB_some hitB_none hitB_err
attribute [local go_sem ↓] loadRow_body
attribute [local go_sem] rowAt_at rowAt_past rowAt_drew rowAt_far run_load_body row_0_0 row_0_1 row_0_2 row_0_3 row_0_4 row_0_5 row_1_0 row_1_1 row_1_2 row_1_3 row_1_4 row_2_0 row_2_1 row_2_2 row_2_3
attribute [local go_sem ↓] storeRow_body loadVar_body
attribute [local go_sem] run_loadV_body rowAt_same run_store_body row0_at row0_past row0_drew row0_far row0_rowfar rowAt_rowfar setRow_a2 setRow_b2 setRow_alloc cell_setRow_far frozen_setRow_far allOne_nil allOne_int allOne_bool allOne_slice
/-- one body as the result -/
theorem results_one_body {fn : Func} {p : Tmp} (h : fn.results = #[.cell p 28]) (tmps : Array Value) (w : World) (g1 : Nat) (c1 : Array Value)
    (hp : tmps.getD p undef = .pointer (some ⟨g1, 0, none⟩)) (e1 : rowAt w g1 = c1) (s1 : c1.size = 20) :
    (results fn tmps).run Try.prog w = .ok (.agg c1) w := by
  have hp' : tmps[p]?.getD undef = .pointer (some ⟨g1, 0, none⟩) := by simpa using hp
  have l1 := run_loadV_body (w := w) g1 (by rw [e1]; exact s1)
  rw [← loadVar_body, e1] at l1
  simp [results, h, hp', asAddr, l1]
/-- a body by numbers -/
def bodyN (a b c d : Int) : BodyI := ⟨val (1 + c % 9) 0, val (d % 3) 4611686018427387904, val (a - 128) (b * 72057594037927936), val (b - 128) (c * 1099511627776), val (d % 7 - 3) a, val (c % 5 - 2) (d % 16 * 1152921504606846976), d * 1125899906842624, a * 1125899906842624, val (b % 4) 0, 0, d * 257⟩
set_option maxRecDepth 100000 in
set_option maxHeartbeats 8000000 in
theorem l9_Body (a b c d : Int) (w : World) (ha : 0 ≤ a ∧ a ≤ 255) (hb : 0 ≤ b ∧ b ≤ 255) (hc : 0 ≤ c ∧ c ≤ 255) (hd : 0 ≤ d ∧ d ≤ 255) :
    Calls Try.prog 119 #[.int .u8 a, .int .u8 b, .int .u8 c, .int .u8 d] w fun e w' => e = .returned (.agg #[.int .i64 (1 + c % 9), .int .u64 0, .int .i64 (d % 3), .int .u64 4611686018427387904, .int .i64 (a - 128), .int .u64 (b * 72057594037927936), .int .i64 (b - 128), .int .u64 (c * 1099511627776), .int .i64 (d % 7 - 3), .int .u64 a, .int .i64 (c % 5 - 2), .int .u64 (d % 16 * 1152921504606846976), .int .i64 0, .int .u64 (d * 1125899906842624), .int .i64 0, .int .u64 (a * 1125899906842624), .int .i64 (b % 4), .int .u64 0, .int .i64 0, .int .i64 (d * 257)]) ∧ Below w.heap.size w w' := by
  have w0 : wrap64 a = a := by unfold wrap64; omega
  have w1 : wrap64 b = b := by unfold wrap64; omega
  have w2 : wrap64 c = c := by unfold wrap64; omega
  have w3 : wrap64 d = d := by unfold wrap64; omega
  have l0 : lo a = a := by unfold lo; omega
  have l1 : lo b = b := by unfold lo; omega
  have l2 : lo c = c := by unfold lo; omega
  have l3 : lo d = d := by unfold lo; omega
  have m1 : lo (b * 72057594037927936) = b * 72057594037927936 := by unfold lo; omega
  have m2 : lo (c * 1099511627776) = c * 1099511627776 := by unfold lo; omega
  have m3 : lo (d * 1152921504606846976) = d % 16 * 1152921504606846976 := by unfold lo; omega
  have m4 : lo (d * 1125899906842624) = d * 1125899906842624 := by unfold lo; omega
  have m5 : lo (a * 1125899906842624) = a * 1125899906842624 := by unfold lo; omega
  have t1 : Int.tmod c 9 = c % 9 := Int.tmod_eq_emod_of_nonneg hc.1
  have t2 : Int.tmod d 3 = d % 3 := Int.tmod_eq_emod_of_nonneg hd.1
  have t3 : Int.tmod d 7 = d % 7 := Int.tmod_eq_emod_of_nonneg hd.1
  have t4 : Int.tmod c 5 = c % 5 := Int.tmod_eq_emod_of_nonneg hc.1
  have t5 : Int.tmod b 4 = b % 4 := Int.tmod_eq_emod_of_nonneg hb.1
  have i0 : IntKind.i64.wrap (a) = a := by rw [IntKind.wrap_i64]; omega
  have i1 : IntKind.i64.wrap (b) = b := by rw [IntKind.wrap_i64]; omega
  have i2 : IntKind.i64.wrap (c) = c := by rw [IntKind.wrap_i64]; omega
  have i3 : IntKind.i64.wrap (d) = d := by rw [IntKind.wrap_i64]; omega
  have i4 : IntKind.i64.wrap (1 + c % 9) = 1 + c % 9 := by rw [IntKind.wrap_i64]; omega
  have i5 : IntKind.i64.wrap (d % 3) = d % 3 := by rw [IntKind.wrap_i64]; omega
  have i6 : IntKind.i64.wrap (d % 7) = d % 7 := by rw [IntKind.wrap_i64]; omega
  have i7 : IntKind.i64.wrap (d % 7 - 3) = d % 7 - 3 := by rw [IntKind.wrap_i64]; omega
  have i8 : IntKind.i64.wrap (c % 5) = c % 5 := by rw [IntKind.wrap_i64]; omega
  have i9 : IntKind.i64.wrap (c % 5 - 2) = c % 5 - 2 := by rw [IntKind.wrap_i64]; omega
  have i10 : IntKind.i64.wrap (d * 257) = d * 257 := by rw [IntKind.wrap_i64]; omega
  have i11 : IntKind.i64.wrap (b % 4) = b % 4 := by rw [IntKind.wrap_i64]; omega
  go_enter Try.func119, Try.ntmps119
  go_upto_region 2 with fail
  have e_z : blk ((w.alloc (.cells #[.int .i64 0, .int .u64 0, .int .i64 0, .int .u64 0, .int .i64 0, .int .u64 0, .int .i64 0, .int .u64 0, .int .i64 0, .int .u64 0, .int .i64 0, .int .u64 0, .int .i64 0, .int .u64 0, .int .i64 0, .int .u64 0, .int .i64 0, .int .u64 0, .int .i64 0, .int .i64 0] 28)).alloc (.cells #[.int .i64 (a - 128), .int .u64 (b * 72057594037927936), .int .i64 (b - 128), .int .u64 (c * 1099511627776)] 26)) (w.heap.size) = some (.cells #[.int .i64 0, .int .u64 0, .int .i64 0, .int .u64 0, .int .i64 0, .int .u64 0, .int .i64 0, .int .u64 0, .int .i64 0, .int .u64 0, .int .i64 0, .int .u64 0, .int .i64 0, .int .u64 0, .int .i64 0, .int .u64 0, .int .i64 0, .int .u64 0, .int .i64 0, .int .i64 0] 28 (0, 0)) := by ((try simp (disch := first | omega | (simp; done) | (simp; omega)) only [pBk]); first | done | with_reducible rfl | with_reducible exact Hid.out (by assumption) | (with_reducible rw [Hid.out B_zz]; (try simp only [pBk]); first | done | with_reducible rfl))
  have e_x : blk ((w.alloc (.cells #[.int .i64 0, .int .u64 0, .int .i64 0, .int .u64 0, .int .i64 0, .int .u64 0, .int .i64 0, .int .u64 0, .int .i64 0, .int .u64 0, .int .i64 0, .int .u64 0, .int .i64 0, .int .u64 0, .int .i64 0, .int .u64 0, .int .i64 0, .int .u64 0, .int .i64 0, .int .i64 0] 28)).alloc (.cells #[.int .i64 (a - 128), .int .u64 (b * 72057594037927936), .int .i64 (b - 128), .int .u64 (c * 1099511627776)] 26)) (w.heap.size + 1) = some (.cells #[.int .i64 (a - 128), .int .u64 (b * 72057594037927936), .int .i64 (b - 128), .int .u64 (c * 1099511627776)] 26 (0, 0)) := by ((try simp (disch := first | omega | (simp; done) | (simp; omega)) only [pBk]); first | done | with_reducible rfl | with_reducible exact Hid.out (by assumption) | (with_reducible rw [Hid.out B_zz]; (try simp only [pBk]); first | done | with_reducible rfl))
  have hb_ : Below w.heap.size w ((w.alloc (.cells #[.int .i64 0, .int .u64 0, .int .i64 0, .int .u64 0, .int .i64 0, .int .u64 0, .int .i64 0, .int .u64 0, .int .i64 0, .int .u64 0, .int .i64 0, .int .u64 0, .int .i64 0, .int .u64 0, .int .i64 0, .int .u64 0, .int .i64 0, .int .u64 0, .int .i64 0, .int .i64 0] 28)).alloc (.cells #[.int .i64 (a - 128), .int .u64 (b * 72057594037927936), .int .i64 (b - 128), .int .u64 (c * 1099511627776)] 26)) := by exact pBl
  have hLB : w.heap.size + 2 ≤ ((w.alloc (.cells #[.int .i64 0, .int .u64 0, .int .i64 0, .int .u64 0, .int .i64 0, .int .u64 0, .int .i64 0, .int .u64 0, .int .i64 0, .int .u64 0, .int .i64 0, .int .u64 0, .int .i64 0, .int .u64 0, .int .i64 0, .int .u64 0, .int .i64 0, .int .u64 0, .int .i64 0, .int .i64 0] 28)).alloc (.cells #[.int .i64 (a - 128), .int .u64 (b * 72057594037927936), .int .i64 (b - 128), .int .u64 (c * 1099511627776)] 26)).heap.size := by simp
  generalize ((w.alloc (.cells #[.int .i64 0, .int .u64 0, .int .i64 0, .int .u64 0, .int .i64 0, .int .u64 0, .int .i64 0, .int .u64 0, .int .i64 0, .int .u64 0, .int .i64 0, .int .u64 0, .int .i64 0, .int .u64 0, .int .i64 0, .int .u64 0, .int .i64 0, .int .u64 0, .int .i64 0, .int .i64 0] 28)).alloc (.cells #[.int .i64 (a - 128), .int .u64 (b * 72057594037927936), .int .i64 (b - 128), .int .u64 (c * 1099511627776)] 26)) = wx at *
  (try clear HB); have HB := Lib.hid hb_; clear hb_
  (try clear c_z); (try clear f_z r_z B_z); obtain ⟨c_z, f_z, l_z, r_z, B_z⟩ := blk_all e_z; clear e_z; (try clear c_x); (try clear f_x r_x B_x); obtain ⟨c_x, f_x, l_x, r_x, B_x⟩ := blk_all e_x; clear e_x
  have nzwx : ¬ (w.heap.size = wx.heap.size) := by omega
  have nxwx : ¬ (w.heap.size + 1 = wx.heap.size) := by omega
  have r0_z := row0_blk (Hid.out B_z)
  refine wp_region_G (fun w' => w'.cell? ⟨(w.heap.size + 1), 0, none⟩ = some (.int .i64 (a - 128)) ∧ w'.cell? ⟨(w.heap.size + 1), 1, none⟩ = some (.int .u64 (b * 72057594037927936)) ∧ w'.cell? ⟨(w.heap.size + 1), 2, none⟩ = some (.int .i64 (b - 128)) ∧ w'.cell? ⟨(w.heap.size + 1), 3, none⟩ = some (.int .u64 (c * 1099511627776))) 42 (by kernel_rfl) ?_ (fun hHeld => ?_)
  · exact pKp
  refine Gw.tk 0 rfl ?_
  (try simp only [pLy])
  refine Gw.tk 1 rfl ?_
  (try simp only [pLy])
  refine Gw.tk 2 rfl ?_
  (try simp only [pLy])
  refine Gw.tk 3 rfl ?_
  (try simp only [pLy])
  refine Gw.tk 5 rfl ?_
  (try simp only [pLy])
  refine Gw.tk 6 rfl ?_
  (try simp only [pLy])
  refine Gw.tk 7 rfl ?_
  (try simp only [pLy])
  refine Gw.tk 8 rfl ?_
  (try simp only [pLy])
  refine Gw.tk 9 rfl ?_
  (try simp only [pLy])
  refine Gw.tk 10 rfl ?_
  (try simp only [pLy])
  refine Gw.tk 11 rfl ?_
  (try simp only [pLy])
  refine Gw.tk 12 rfl ?_
  (try simp only [pLy])
  refine Gw.tk 13 rfl ?_
  (try simp only [pLy])
  refine Gw.tk 14 rfl ?_
  (try simp only [pLy])
  refine Gw.tk 15 rfl ?_
  (try simp only [pLy])
  refine Gw.tk 16 rfl ?_
  (try simp only [pLy])
  refine Gw.tk 17 rfl ?_
  (try simp only [pLy])
  refine Gw.tk 18 rfl ?_
  (try simp only [pLy])
  refine Gw.tk 19 rfl ?_
  (try simp only [pLy])
  refine Gw.tk 20 rfl ?_
  (try simp only [pLy])
  refine Gw.tk 21 rfl ?_
  (try simp only [pLy])
  refine Gw.tk 22 rfl ?_
  (try simp only [pLy])
  refine Gw.tk 23 rfl ?_
  (try simp only [pLy])
  refine Gw.tk 24 rfl ?_
  (try simp only [pLy])
  refine Gw.tk 25 rfl ?_
  (try simp only [pLy])
  refine Gw.tk 26 rfl ?_
  (try simp only [pLy])
  refine Gw.tk 27 rfl ?_
  (try simp only [pLy])
  refine Gw.tk 28 rfl ?_
  (try simp only [pLy])
  refine Gw.tk 29 rfl ?_
  (try simp only [pLy])
  refine Gw.tk 30 rfl ?_
  (try simp only [pLy])
  refine Gw.tk 31 rfl ?_
  (try simp only [pLy])
  refine Gw.tk 32 rfl ?_
  (try simp only [pLy])
  refine Gw.tk 33 rfl ?_
  (try simp only [pLy])
  refine Gw.tk 34 rfl ?_
  (try simp only [pLy])
  refine Gw.tk 35 rfl ?_
  (try simp only [pLy])
  refine Gw.tk 36 rfl ?_
  (try simp only [pLy])
  refine Gw.tk 38 rfl ?_
  (try simp only [pLy])
  refine Gw.tk 39 rfl ?_
  (try simp only [pLy])
  refine Gw.tk 40 rfl ?_
  (try simp only [pLy])
  refine Gw.one (i := 4) rfl (by kernel_rfl) (fun K hK => ?_)
  go_simp
  (go_at_call 15; refine (r1_Int _ _ (by omega)).mono ?_; rintro e u1 ⟨rfl, ho⟩; have hzu1 := Below.size ho; (try simp at hzu1); have HB2 : Hid (Below w.heap.size w u1) := Lib.hid (Below.trans (by exact pBl) (Below.mono ho pSd)); (try clear HB); have HB := HB2; clear HB2; have B2 := blk_below (g := w.heap.size) ho pSd; (try simp (disch := first | omega | (simp; done) | (simp; omega)) only [pBk] at B2); (try rw [Hid.out B_z] at B2); (try simp only [pBk] at B2); (try clear c_z f_z r_z B_z); obtain ⟨c_z, f_z, l_u1_z, r_z, B_z⟩ := blk_all B2; clear B2; have B2 := blk_below (g := w.heap.size + 1) ho pSd; (try simp (disch := first | omega | (simp; done) | (simp; omega)) only [pBk] at B2); (try rw [Hid.out B_x] at B2); (try simp only [pBk] at B2); (try clear c_x f_x r_x B_x); obtain ⟨c_x, f_x, l_u1_x, r_x, B_x⟩ := blk_all B2; clear B2; clear ho; (try clear r0_z); have r0_z := row0_blk (Hid.out B_z))
  (try go_wp2_with fail)
  refine hK.out _ _ ?_ (fun hHeld2 => ?_)
  · exact pKp
  (try clear hHeld); have hHeld := hHeld2; clear hHeld2
  clear hK K
  (try simp only [pLy])
  refine Gw.one (i := 37) rfl (by kernel_rfl) (fun K hK => ?_)
  go_simp
  (go_at_call 15; refine (r1_Int _ _ (by omega)).mono ?_; rintro e u2 ⟨rfl, ho⟩; have hzu2 := Below.size ho; (try simp at hzu2); have HB2 : Hid (Below w.heap.size w u2) := Lib.hid (Below.trans (by exact pBl) (Below.mono ho pSd)); (try clear HB); have HB := HB2; clear HB2; have B2 := blk_below (g := w.heap.size) ho pSd; (try simp (disch := first | omega | (simp; done) | (simp; omega)) only [pBk] at B2); (try rw [Hid.out B_z] at B2); (try simp only [pBk] at B2); (try clear c_z f_z r_z B_z); obtain ⟨c_z, f_z, l_u2_z, r_z, B_z⟩ := blk_all B2; clear B2; have B2 := blk_below (g := w.heap.size + 1) ho pSd; (try simp (disch := first | omega | (simp; done) | (simp; omega)) only [pBk] at B2); (try rw [Hid.out B_x] at B2); (try simp only [pBk] at B2); (try clear c_x f_x r_x B_x); obtain ⟨c_x, f_x, l_u2_x, r_x, B_x⟩ := blk_all B2; clear B2; clear ho; (try clear r0_z); have r0_z := row0_blk (Hid.out B_z))
  (try go_wp2_with fail)
  refine hK.out _ _ ?_ (fun hHeld2 => ?_)
  · exact pKp
  (try clear hHeld); have hHeld := hHeld2; clear hHeld2
  clear hK K
  (try simp only [pLy])
  refine Gw.tk 41 rfl ?_
  (try simp only [pLy])
  refine Gw.last (i := 42) rfl (by kernel_rfl) (by decide) (fun K hK => ?_)
  go_simp
  refine hK.out _ _ ?_
  clear hK K
  (try simp only [pLy])
  refine Gw.done (by kernel_rfl) ?_ _
  go_wp2_with fail
  refine bodyPost_ret ?r rfl ⟨rfl, ?b⟩
  case r => exact results_one_body Try.results119 _ _ _ _ rfl (by simp (maxDischargeDepth := 9) [go_sem, *]; done) rfl
  case b => (repeat (first | with_reducible exact Below.refl _ _ | (with_reducible refine Below.setRow ?_ (by first | omega | (simp; omega)) _) | (with_reducible refine Below.drew ?_) | with_reducible exact Hid.out (by assumption)))
end Go.Proofs.Ytdphhkbbphfjlaa
namespace Go.Proofs.Ytdphhkbbphfjlaa
set_option linter.unusedVariables false
set_option linter.unusedSimpArgs false
open Go.RowKit
/-- a body's cells -/

def bodyL (b : BodyI) : List Value := [.int .i64 (hi b.mass), .int .u64 (lo b.mass), .int .i64 (hi b.radius), .int .u64 (lo b.radius), .int .i64 (hi b.x), .int .u64 (lo b.x), .int .i64 (hi b.y), .int .u64 (lo b.y), .int .i64 (hi b.px), .int .u64 (lo b.px), .int .i64 (hi b.py), .int .u64 (lo b.py), .int .i64 (hi b.fuel), .int .u64 (lo b.fuel), .int .i64 (hi b.rate), .int .u64 (lo b.rate), .int .i64 (hi b.exh), .int .u64 (lo b.exh), .int .i64 b.thr, .int .i64 b.head]
theorem bodyL_length (b : BodyI) : (bodyL b).length = 20 := rfl
def bodiesL (l : List BodyI) : List Value := l.flatMap bodyL
theorem bodiesL_nil : bodiesL [] = [] := rfl
theorem bodiesL_add (l : List BodyI) (b : BodyI) : bodiesL (l ++ [b]) = bodiesL l ++ bodyL b := by unfold bodiesL; simp
theorem bodiesL_cons (b : BodyI) (l : List BodyI) : bodiesL (b :: l) = bodyL b ++ bodiesL l := by unfold bodiesL; simp
theorem bodiesL_length : ∀ l : List BodyI, (bodiesL l).length = l.length * 20
  | [] => rfl
  | b :: l => by rw [bodiesL_cons, List.length_append, bodiesL_length l, bodyL_length, List.length_cons]; omega
theorem bodiesL_get : ∀ (l : List BodyI) (i j : Nat), i < l.length → j < 20 → (bodiesL l)[i * 20 + j]? = (bodyL (l.getD i noB))[j]?
  | [], i, j, h, _ => by simp at h
  | b :: l, 0, j, _, hj => by
    rw [bodiesL_cons, List.getElem?_append_left (by rw [bodyL_length]; omega)]
    simp
  | b :: l, i + 1, j, h, hj => by
    rw [bodiesL_cons, List.getElem?_append_right (by rw [bodyL_length]; omega), bodyL_length, show (i + 1) * 20 + j - 20 = i * 20 + j by omega, bodiesL_get l i j (by simpa using h) hj]
    simp
/-- whoever has the bodies of a list has each of them, cell by cell -/
theorem owns_range {w : World} {B g n cap i : Nat} {l : List BodyI} (h : w.ownsRow B 28 20 (.slice (some ⟨g, 0, none⟩) n cap) n (bodiesL l)) (hl : l.length = n) (hi : i < n) :
    w.rangeAt g (i * 20) (bodyL (l.getD i noB)) := by
  intro j v hv
  have hj : j < 20 := by have := (List.getElem?_eq_some_iff.1 hv).1; rwa [bodyL_length] at this
  rw [h.cellAt (i * 20 + j) (by omega), bodiesL_get l i j (by omega) hj, hv]
theorem owns_form {w : World} {B e z n : Nat} {v : Value} {xs : List Value} (h : w.ownsRow B e z v n xs) : ∃ a cap, v = .slice a n cap := by
  rcases h.2 with ⟨rfl, rfl⟩ | ⟨g, cap, cur, rfl, _⟩
  · exact ⟨_, _, rfl⟩
  · exact ⟨_, _, rfl⟩
theorem grown_of_below {w w' : World} (h : Below w.heap.size w w') (row : Option Nat) : w.grownBy w' row := ⟨h.os, h.tape, h.output, h.size, fun k hk _ => h.block k hk⟩
theorem owns_below {w w' : World} {B e z n : Nat} {v : Value} {xs : List Value} (h : w.ownsRow B e z v n xs) (hb : Below w.heap.size w w') : w'.ownsRow B e z v n xs := by
  have hg := grown_of_below hb none
  cases hv : v.ownBlock with
  | none => exact h.kept hg (.inl hv)
  | some k => exact h.kept hg (.inr (by rw [hv]; exact fun e => by cases e))
/-- the bodies that some numbers make -/
def bodiesN (zs : List Int) (k : Nat) : List BodyI := (List.range k).map fun t => bodyN (zs.getD (4 * t) 0) (zs.getD (4 * t + 1) 0) (zs.getD (4 * t + 2) 0) (zs.getD (4 * t + 3) 0)
theorem bodiesN_succ (zs : List Int) (k : Nat) : bodiesN zs (k + 1) = bodiesN zs k ++ [bodyN (zs.getD (4 * k) 0) (zs.getD (4 * k + 1) 0) (zs.getD (4 * k + 2) 0) (zs.getD (4 * k + 3) 0)] := by
  unfold bodiesN; rw [List.range_succ, List.map_append]; rfl
theorem bodiesN_length (zs : List Int) (k : Nat) : (bodiesN zs k).length = k := by unfold bodiesN; simp
theorem bodyN_cells {a b c d : Int} (ha : 0 ≤ a ∧ a ≤ 255) (hb : 0 ≤ b ∧ b ≤ 255) (hc : 0 ≤ c ∧ c ≤ 255) (hd : 0 ≤ d ∧ d ≤ 255) :
    [.int .i64 (1 + c % 9), .int .u64 0, .int .i64 (d % 3), .int .u64 4611686018427387904, .int .i64 (a - 128), .int .u64 (b * 72057594037927936), .int .i64 (b - 128), .int .u64 (c * 1099511627776), .int .i64 (d % 7 - 3), .int .u64 a, .int .i64 (c % 5 - 2), .int .u64 (d % 16 * 1152921504606846976), .int .i64 0, .int .u64 (d * 1125899906842624), .int .i64 0, .int .u64 (a * 1125899906842624), .int .i64 (b % 4), .int .u64 0, .int .i64 0, .int .i64 (d * 257)] = bodyL (bodyN a b c d) := by
  have h : ∀ {x y : Int}, 0 ≤ y → y < 18446744073709551616 → hi (val x y) = x ∧ lo (val x y) = y := fun h0 h1 => ⟨hi_val ⟨h0, h1⟩, lo_val ⟨h0, h1⟩⟩
  have h1 := h (x := 1 + c % 9) (y := 0) (by omega) (by omega)
  have h2 := h (x := d % 3) (y := 4611686018427387904) (by omega) (by omega)
  have h3 := h (x := a - 128) (y := b * 72057594037927936) (by omega) (by omega)
  have h4 := h (x := b - 128) (y := c * 1099511627776) (by omega) (by omega)
  have h5 := h (x := d % 7 - 3) (y := a) (by omega) (by omega)
  have h6 := h (x := c % 5 - 2) (y := d % 16 * 1152921504606846976) (by omega) (by omega)
  have h7 : hi (d * 1125899906842624) = 0 ∧ lo (d * 1125899906842624) = d * 1125899906842624 := by unfold hi lo; omega
  have h8 : hi (a * 1125899906842624) = 0 ∧ lo (a * 1125899906842624) = a * 1125899906842624 := by unfold hi lo; omega
  have h9 := h (x := b % 4) (y := 0) (by omega) (by omega)
  unfold bodyL bodyN
  simp only [h1.1, h1.2, h2.1, h2.2, h3.1, h3.2, h4.1, h4.2, h5.1, h5.2, h6.1, h6.2, h7.1, h7.2, h8.1, h8.2, h9.1, h9.2]
theorem infoBody : (Try.prog.info? 28).map (fun i => (i.zero, i.size, i.bytes)) = some (some (.agg #[.int .i64 0, .int .u64 0, .int .i64 0, .int .u64 0, .int .i64 0, .int .u64 0, .int .i64 0, .int .u64 0, .int .i64 0, .int .u64 0, .int .i64 0, .int .u64 0, .int .i64 0, .int .u64 0, .int .i64 0, .int .u64 0, .int .i64 0, .int .u64 0, .int .i64 0, .int .i64 0]), 20, 160) := by kernel_rfl
/-- one more body behind those that the call owns -/
theorem run_append_body {u : World} {B n : Nat} {v : Value} {l : List BodyI} {c : Array Value} (b : BodyI) (hc : c.toList = bodyL b) (hown : u.ownsRow B 28 20 v n (bodiesL l)) (hn : n ≤ 1000) (hB : B ≤ u.heap.size) :
    ∃ v' w', (Builtin.append_ #[60, 60] 60 #[v, .slice (some ⟨u.heap.size, 0, none⟩) 1 1]).run Try.prog (u.alloc (.cells c 28)) = .ok v' w' ∧ w'.ownsRow B 28 20 v' (n + 1) (bodiesL (l ++ [b])) ∧ Below B u w' := by
  obtain ⟨i0, hi, hz0, hz1, hz2⟩ := info_parts infoBody
  obtain ⟨v', w', h1, h2, h3, h4, h5⟩ := run_append_own_at (P := Try.prog) (u.alloc (.cells c 28)) B 60 60 28 i0 _ 20 160 Try.underlying60 hi hz0 hz1 hz2 rfl (by decide) v n (bodiesL l) (hown.alloc _) ⟨u.heap.size, 0, none⟩ 1 1 (bodyL b) rfl
    (fun j x hx => by
      rw [Addr.add_mid, Nat.zero_add, blk_cell (blk_new _ rfl), ← Array.getElem?_toList, hc]; exact hx)
    (fun x hx => by
      unfold bodyL at hx
      simp only [List.mem_cons, List.not_mem_nil, or_false] at hx
      rcases hx with h | h | h | h | h | h | h | h | h | h | h | h | h | h | h | h | h | h | h | h <;> subst h <;> rfl)
    (by unfold maxLen; omega) (by omega) (by show B ≤ (u.heap.push _).size; simp; omega)
  refine ⟨v', w', h1, by rw [bodiesL_add]; exact h2, ?_⟩
  have hb : Below B u (u.alloc (.cells c 28)) := (Below.refl _ _).alloc hB _
  exact Below.grown hb h3 (by show B ≤ (u.heap.push _).size; simp; omega) (fun k hk => (hown.lt k hk).1)
/-- an append whose run is known, as an operation -/
theorem wp_append_run {P : Program} {o : Oper} {a : Act} {w w1 : World} {K : Act → World → Prop} {Q : Exit → Act → World → Prop} {s x : Operand} {t : TypeId} {v y v' : Value}
    (ho : o.op = .call { callee := .builtin .append, args := #[s, x], argTypes := #[t, t] }) (hs : a.eval s = v) (hx : a.eval x = y)
    (hr : (Builtin.append_ #[t, t] o.type #[v, y]).run P w = .ok v' w1) (h : K (a.put o.dst v') w1) : o.wp P a w K Q := by
  unfold Oper.wp execOp
  simp only [ho, resolve, invoke, builtin, Sem.run_bind, Sem.run_pure, Result.andThen_ok, List.map_toArray, List.map_cons, List.map_nil, hs, hx, hr]
  exact h
end Go.Proofs.Ytdphhkbbphfjlaa
