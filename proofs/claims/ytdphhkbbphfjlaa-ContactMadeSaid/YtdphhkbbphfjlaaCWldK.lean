/- r16.Contacts of a close world. -/
import Derived.Test.YtdphhkbbphfjlaaCWldJ
import Derived.Test.YtdphhkbbphfjlaaCWldG
import Derived.Test.YtdphhkbbphfjlaaCRefN
import Derived.Test.YtdphhkbbphfjlaaCRefJ
namespace Go.Proofs.Ytdphhkbbphfjlaa
set_option linter.unusedVariables false
set_option linter.unusedSimpArgs false
open Go.RowKit
attribute [local go_sem] uwrap_lo lo_lo hi_lo val_hl val_00 v4_q
attribute [local go_sem ↓] Go.wp_at_zero Go.wp_at_succ
attribute [local go_sem] nOf_ok nOf_err eOf_ok eOf_err xOf_ok yOf_ok xOf_err yOf_err vecX_ok vecX_err vecX_ok_err hi_z lo_z okB_ok okB_err hitV_some hitV_none hitV_err hitB_some hitB_none hitB_err
attribute [local go_sem ↓] loadRow_body
attribute [local go_sem] rowAt_at rowAt_past rowAt_drew rowAt_far run_load_body row_0_0 row_0_1 row_0_2 row_0_3 row_0_4 row_0_5 row_1_0 row_1_1 row_1_2 row_1_3 row_1_4 row_2_0 row_2_1 row_2_2 row_2_3
attribute [local go_sem ↓] storeRow_body loadVar_body
attribute [local go_sem] run_loadV_body rowAt_same run_store_body row0_at row0_past row0_drew row0_far row0_rowfar rowAt_rowfar setRow_a2 setRow_b2 setRow_alloc cell_setRow_far frozen_setRow_far allOne_nil allOne_int allOne_bool allOne_slice
attribute [local go_sem ↓] loadRow_world storeRow_world loadVar_world
attribute [local go_sem] run_load_world run_store_world run_loadV_world range_alloc_iff range_drew_iff range_set_iff
theorem loadRow_touched (v : Value) : Instr.loadAt 72 v = loadRow 72 v := loadRow_eq _ _
theorem run_load_touched {w : World} (b : Nat) (h : (rowAt w b).size = 26) :
    (loadRow 72 (.pointer (some ⟨b, 0, none⟩))).run Try.prog w = .ok (.agg (rowAt w b)) w :=
  run_loadRow Try.prog _ b 26 (by decide) (by kernel_rfl) (by kernel_rfl) h
theorem storeRow_touched (p v : Value) : Instr.storeAt 72 p v = storeRow 72 p v := storeRow_eq _ _ _
theorem run_store_touched {w : World} (b : Nat) (cs : Array Value) (h : (row0 w b).size = 26) (hc : cs.size = 26) (h1 : allOne cs = true) :
    (storeRow 72 (.pointer (some ⟨b, 0, none⟩)) (.agg cs)).run Try.prog w = .ok () (w.setRow b cs) :=
  run_storeRow Try.prog _ b 26 cs (by decide) (by kernel_rfl) h hc (fun v hv => by unfold allOne at h1; exact List.all_eq_true.1 h1 v hv)
theorem loadVar_touched (a : Addr) : loadVar 72 a = loadRowV 72 a := by unfold loadRowV; rfl
theorem run_loadV_touched {w : World} (b : Nat) (h : (rowAt w b).size = 26) :
    (loadRowV 72 ⟨b, 0, none⟩).run Try.prog w = .ok (.agg (rowAt w b)) w :=
  run_loadRowV Try.prog _ b 26 (by decide) (by kernel_rfl) (by kernel_rfl) h
theorem results_one_touched {fn : Func} {p : Tmp} (h : fn.results = #[.cell p 72]) (tmps : Array Value) (w : World) (g1 : Nat) (c1 : Array Value)
    (hp : tmps.getD p undef = .pointer (some ⟨g1, 0, none⟩)) (e1 : rowAt w g1 = c1) (s1 : c1.size = 26) :
    (results fn tmps).run Try.prog w = .ok (.agg c1) w := by
  have hp' : tmps[p]?.getD undef = .pointer (some ⟨g1, 0, none⟩) := by simpa using hp
  have l1 := run_loadV_touched (w := w) g1 (by rw [e1]; exact s1)
  rw [← loadVar_touched, e1] at l1
  simp [results, h, hp', asAddr, l1]
attribute [local go_sem ↓] loadRow_touched storeRow_touched loadVar_touched
attribute [local go_sem] run_load_touched run_store_touched run_loadV_touched
structure ConAt (h : Int) (n cc ca cb : Nat) (bb aa ab : Option Addr) (w wr : World) (gt B1 B2 : Nat) (st : List BodyI × List (Nat × Nat)) (vo : Value) (m : Nat) : Prop where
  ex : blk wr w.heap.size = some (.cells #[.int .i64 0, .int .i64 0, .int .u64 1152921504606846976, .int .i64 (1 + h % 3), .int .u64 0, .int .i64 0, .int .u64 4611686018427387904, .int .i64 0, .int .u64 (h * 72057594037927936), .int .i64 0, .int .u64 (h % 4 * 4611686018427387904), .int .i64 (h / 4 % 2), .int .i64 (h / 8 % 2), .slice ab n cb, .slice none 0 0, .slice none 0 0, .slice aa n ca, .int .i64 0, .int .u64 0, .int .i64 0, .int .u64 0, .int .i64 0, .int .u64 0, .slice none 0 0] 66 (0, 0))
  er : blk wr (w.heap.size + 1) = some (.cells #[.int .i64 0, .int .i64 0, .int .u64 0, .int .i64 0, .int .u64 0, .int .i64 0, .int .u64 0, .int .i64 0, .int .u64 0, .int .i64 0, .int .u64 0, .int .i64 0, .int .i64 0, .slice none 0 0, .slice none 0 0, .slice none 0 0, .slice none 0 0, .int .i64 0, .int .u64 0, .int .i64 0, .int .u64 0, .int .i64 0, .int .u64 0, .slice none 0 0, .slice none 0 0, .int .i64 0] 72 (0, 0))
  et : blk wr gt = some (.cells #[.int .i64 0, .int .i64 0, .int .u64 1152921504606846976, .int .i64 (1 + h % 3), .int .u64 0, .int .i64 0, .int .u64 4611686018427387904, .int .i64 0, .int .u64 (h * 72057594037927936), .int .i64 0, .int .u64 (h % 4 * 4611686018427387904), .int .i64 (h / 4 % 2), .int .i64 (h / 8 % 2), .slice bb n cc, .slice none 0 0, .slice none 0 0, .slice aa n ca, .int .i64 0, .int .u64 0, .int .i64 0, .int .u64 0, .int .i64 0, .int .u64 0, .slice none 0 0, vo, .int .i64 0] 72 (0, 0))
  ob : wr.ownsRow B1 28 20 (.slice bb n cc) n (bodiesL st.1)
  oo : wr.ownsRow B2 80 2 vo st.2.length (pairsL st.2)
  below : Below w.heap.size w wr
  size : B2 ≤ wr.heap.size
  len : st.1.length = n
  may : ∀ b ∈ st.1, MayN b
  few : st.2.length ≤ m
theorem ConAt.on {h : Int} {n cc ca cb : Nat} {bb aa ab : Option Addr} {w wr u : World} {gt B1 B2 : Nat} {st : List BodyI × List (Nat × Nat)} {vo : Value} {m : Nat} (x : ConAt h n cc ca cb bb aa ab w wr gt B1 B2 st vo m) (hb : Below wr.heap.size wr u) : ConAt h n cc ca cb bb aa ab w u gt B1 B2 st vo m :=
  ⟨(blk_below hb (blk_lt x.ex)).trans x.ex, (blk_below hb (blk_lt x.er)).trans x.er, (blk_below hb (blk_lt x.et)).trans x.et, owns_below x.ob hb, owns_below x.oo hb, x.below.trans (Below.mono hb x.below.size), Nat.le_trans x.size hb.size, x.len, x.may, x.few⟩
set_option maxRecDepth 100000 in
set_option maxHeartbeats 8000000 in
theorem r16_Contacts {B : Nat} (l : List BodyI) (h : Int) (ab aa : Option Addr) (n cb ca : Nat) (w : World) (hl : l.length = n) (hn : n ≤ 10) (hh : 0 ≤ h ∧ h ≤ 255) (hmay : ∀ b ∈ l, MayN b) (Rf : List BodyI × List (Nat × Nat)) (hall : outerX (h % 4 * 4611686018427387904) n n 0 (l, []) = .ok Rf)
    (hb : w.ownsRow B 28 20 (.slice ab n cb) n (bodiesL l)) :
    Calls Try.prog 29 #[.agg #[.int .i64 0, .int .i64 0, .int .u64 1152921504606846976, .int .i64 (1 + h % 3), .int .u64 0, .int .i64 0, .int .u64 4611686018427387904, .int .i64 0, .int .u64 (h * 72057594037927936), .int .i64 0, .int .u64 (h % 4 * 4611686018427387904), .int .i64 (h / 4 % 2), .int .i64 (h / 8 % 2), .slice ab n cb, .slice none 0 0, .slice none 0 0, .slice aa n ca, .int .i64 0, .int .u64 0, .int .i64 0, .int .u64 0, .int .i64 0, .int .u64 0, .slice none 0 0]] w fun e w' => ∃ vb vo : Value, e = .returned (.agg #[.int .i64 0, .int .i64 0, .int .u64 1152921504606846976, .int .i64 (1 + h % 3), .int .u64 0, .int .i64 0, .int .u64 4611686018427387904, .int .i64 0, .int .u64 (h * 72057594037927936), .int .i64 0, .int .u64 (h % 4 * 4611686018427387904), .int .i64 (h / 4 % 2), .int .i64 (h / 8 % 2), vb, .slice none 0 0, .slice none 0 0, .slice aa n ca, .int .i64 0, .int .u64 0, .int .i64 0, .int .u64 0, .int .i64 0, .int .u64 0, .slice none 0 0, vo, .int .i64 0]) ∧ w'.ownsRow w.heap.size 28 20 vb n (bodiesL Rf.1) ∧ w'.ownsRow w.heap.size 80 2 vo Rf.2.length (pairsL Rf.2) ∧ Below w.heap.size w w' := by
  have Hr := Lib.hid (Reads.of_owns hb)
  clear hb
  go_enter Try.func29, Try.ntmps29
  go_upto_region 1 with fail
  have e_x : blk ((w.alloc (.cells #[.int .i64 0, .int .i64 0, .int .u64 1152921504606846976, .int .i64 (1 + h % 3), .int .u64 0, .int .i64 0, .int .u64 4611686018427387904, .int .i64 0, .int .u64 (h * 72057594037927936), .int .i64 0, .int .u64 (h % 4 * 4611686018427387904), .int .i64 (h / 4 % 2), .int .i64 (h / 8 % 2), .slice ab n cb, .slice none 0 0, .slice none 0 0, .slice aa n ca, .int .i64 0, .int .u64 0, .int .i64 0, .int .u64 0, .int .i64 0, .int .u64 0, .slice none 0 0] 66)).alloc (.cells #[.int .i64 0, .int .i64 0, .int .u64 0, .int .i64 0, .int .u64 0, .int .i64 0, .int .u64 0, .int .i64 0, .int .u64 0, .int .i64 0, .int .u64 0, .int .i64 0, .int .i64 0, .slice none 0 0, .slice none 0 0, .slice none 0 0, .slice none 0 0, .int .i64 0, .int .u64 0, .int .i64 0, .int .u64 0, .int .i64 0, .int .u64 0, .slice none 0 0, .slice none 0 0, .int .i64 0] 72)) (w.heap.size) = some (.cells #[.int .i64 0, .int .i64 0, .int .u64 1152921504606846976, .int .i64 (1 + h % 3), .int .u64 0, .int .i64 0, .int .u64 4611686018427387904, .int .i64 0, .int .u64 (h * 72057594037927936), .int .i64 0, .int .u64 (h % 4 * 4611686018427387904), .int .i64 (h / 4 % 2), .int .i64 (h / 8 % 2), .slice ab n cb, .slice none 0 0, .slice none 0 0, .slice aa n ca, .int .i64 0, .int .u64 0, .int .i64 0, .int .u64 0, .int .i64 0, .int .u64 0, .slice none 0 0] 66 (0, 0)) := by ((try simp (disch := first | omega | (simp; done) | (simp; omega)) only [pBk]); first | done | with_reducible rfl | with_reducible exact Hid.out (by assumption) | (with_reducible rw [Hid.out B_zz]; (try simp only [pBk]); first | done | with_reducible rfl))
  have e_r : blk ((w.alloc (.cells #[.int .i64 0, .int .i64 0, .int .u64 1152921504606846976, .int .i64 (1 + h % 3), .int .u64 0, .int .i64 0, .int .u64 4611686018427387904, .int .i64 0, .int .u64 (h * 72057594037927936), .int .i64 0, .int .u64 (h % 4 * 4611686018427387904), .int .i64 (h / 4 % 2), .int .i64 (h / 8 % 2), .slice ab n cb, .slice none 0 0, .slice none 0 0, .slice aa n ca, .int .i64 0, .int .u64 0, .int .i64 0, .int .u64 0, .int .i64 0, .int .u64 0, .slice none 0 0] 66)).alloc (.cells #[.int .i64 0, .int .i64 0, .int .u64 0, .int .i64 0, .int .u64 0, .int .i64 0, .int .u64 0, .int .i64 0, .int .u64 0, .int .i64 0, .int .u64 0, .int .i64 0, .int .i64 0, .slice none 0 0, .slice none 0 0, .slice none 0 0, .slice none 0 0, .int .i64 0, .int .u64 0, .int .i64 0, .int .u64 0, .int .i64 0, .int .u64 0, .slice none 0 0, .slice none 0 0, .int .i64 0] 72)) (w.heap.size + 1) = some (.cells #[.int .i64 0, .int .i64 0, .int .u64 0, .int .i64 0, .int .u64 0, .int .i64 0, .int .u64 0, .int .i64 0, .int .u64 0, .int .i64 0, .int .u64 0, .int .i64 0, .int .i64 0, .slice none 0 0, .slice none 0 0, .slice none 0 0, .slice none 0 0, .int .i64 0, .int .u64 0, .int .i64 0, .int .u64 0, .int .i64 0, .int .u64 0, .slice none 0 0, .slice none 0 0, .int .i64 0] 72 (0, 0)) := by ((try simp (disch := first | omega | (simp; done) | (simp; omega)) only [pBk]); first | done | with_reducible rfl | with_reducible exact Hid.out (by assumption) | (with_reducible rw [Hid.out B_zz]; (try simp only [pBk]); first | done | with_reducible rfl))
  have hb_ : Below w.heap.size w ((w.alloc (.cells #[.int .i64 0, .int .i64 0, .int .u64 1152921504606846976, .int .i64 (1 + h % 3), .int .u64 0, .int .i64 0, .int .u64 4611686018427387904, .int .i64 0, .int .u64 (h * 72057594037927936), .int .i64 0, .int .u64 (h % 4 * 4611686018427387904), .int .i64 (h / 4 % 2), .int .i64 (h / 8 % 2), .slice ab n cb, .slice none 0 0, .slice none 0 0, .slice aa n ca, .int .i64 0, .int .u64 0, .int .i64 0, .int .u64 0, .int .i64 0, .int .u64 0, .slice none 0 0] 66)).alloc (.cells #[.int .i64 0, .int .i64 0, .int .u64 0, .int .i64 0, .int .u64 0, .int .i64 0, .int .u64 0, .int .i64 0, .int .u64 0, .int .i64 0, .int .u64 0, .int .i64 0, .int .i64 0, .slice none 0 0, .slice none 0 0, .slice none 0 0, .slice none 0 0, .int .i64 0, .int .u64 0, .int .i64 0, .int .u64 0, .int .i64 0, .int .u64 0, .slice none 0 0, .slice none 0 0, .int .i64 0] 72)) := by exact pBl
  have hLB : w.heap.size + 2 ≤ ((w.alloc (.cells #[.int .i64 0, .int .i64 0, .int .u64 1152921504606846976, .int .i64 (1 + h % 3), .int .u64 0, .int .i64 0, .int .u64 4611686018427387904, .int .i64 0, .int .u64 (h * 72057594037927936), .int .i64 0, .int .u64 (h % 4 * 4611686018427387904), .int .i64 (h / 4 % 2), .int .i64 (h / 8 % 2), .slice ab n cb, .slice none 0 0, .slice none 0 0, .slice aa n ca, .int .i64 0, .int .u64 0, .int .i64 0, .int .u64 0, .int .i64 0, .int .u64 0, .slice none 0 0] 66)).alloc (.cells #[.int .i64 0, .int .i64 0, .int .u64 0, .int .i64 0, .int .u64 0, .int .i64 0, .int .u64 0, .int .i64 0, .int .u64 0, .int .i64 0, .int .u64 0, .int .i64 0, .int .i64 0, .slice none 0 0, .slice none 0 0, .slice none 0 0, .slice none 0 0, .int .i64 0, .int .u64 0, .int .i64 0, .int .u64 0, .int .i64 0, .int .u64 0, .slice none 0 0, .slice none 0 0, .int .i64 0] 72)).heap.size := by simp
  generalize ((w.alloc (.cells #[.int .i64 0, .int .i64 0, .int .u64 1152921504606846976, .int .i64 (1 + h % 3), .int .u64 0, .int .i64 0, .int .u64 4611686018427387904, .int .i64 0, .int .u64 (h * 72057594037927936), .int .i64 0, .int .u64 (h % 4 * 4611686018427387904), .int .i64 (h / 4 % 2), .int .i64 (h / 8 % 2), .slice ab n cb, .slice none 0 0, .slice none 0 0, .slice aa n ca, .int .i64 0, .int .u64 0, .int .i64 0, .int .u64 0, .int .i64 0, .int .u64 0, .slice none 0 0] 66)).alloc (.cells #[.int .i64 0, .int .i64 0, .int .u64 0, .int .i64 0, .int .u64 0, .int .i64 0, .int .u64 0, .int .i64 0, .int .u64 0, .int .i64 0, .int .u64 0, .int .i64 0, .int .i64 0, .slice none 0 0, .slice none 0 0, .slice none 0 0, .slice none 0 0, .int .i64 0, .int .u64 0, .int .i64 0, .int .u64 0, .int .i64 0, .int .u64 0, .slice none 0 0, .slice none 0 0, .int .i64 0] 72)) = wx1 at *
  (try clear HB); have HB := Lib.hid hb_; clear hb_
  (try clear c_x); (try clear f_x r_x B_x); obtain ⟨c_x, f_x, l_x, r_x, B_x⟩ := blk_all e_x; clear e_x; (try clear c_r); (try clear f_r r_r B_r); obtain ⟨c_r, f_r, l_r, r_r, B_r⟩ := blk_all e_r; clear e_r
  have nxwx1 : ¬ (w.heap.size = wx1.heap.size) := by omega
  have nrwx1 : ¬ (w.heap.size + 1 = wx1.heap.size) := by omega
  have Hr1 := Lib.hid (Hr.out.below (by omega) HB.out)
  go_upto_region 2 with (go_at_call 37; refine (r10_With _ _ _ _ _ _ _ _ _ _ _ _ _ _ _ _ _ _ _ _ _ _ _ _ _ _ _ _ _ _ _ _ _ _ _ wx1 Hr1.out (bodiesL_one l) (by omega)).mono ?_; rintro e u1 ⟨vb, rfl, hob, ho⟩; obtain ⟨bb, cc, rfl⟩ := owns_form hob; have Hob := Lib.hid hob; clear hob; have hzu1 := Below.size ho; (try simp at hzu1); have HB2 : Hid (Below w.heap.size w u1) := Lib.hid (Below.trans (by exact pBl) (Below.mono ho pSd)); (try clear HB); have HB := HB2; clear HB2; have B2 := blk_below (g := w.heap.size) ho pSd; (try simp (disch := first | omega | (simp; done) | (simp; omega)) only [pBk] at B2); (try rw [Hid.out B_x] at B2); (try simp only [pBk] at B2); (try clear c_x f_x r_x B_x); obtain ⟨c_x, f_x, l_u1_x, r_x, B_x⟩ := blk_all B2; clear B2; have B2 := blk_below (g := w.heap.size + 1) ho pSd; (try simp (disch := first | omega | (simp; done) | (simp; omega)) only [pBk] at B2); (try rw [Hid.out B_r] at B2); (try simp only [pBk] at B2); (try clear c_r f_r r_r B_r); obtain ⟨c_r, f_r, l_u1_r, r_r, B_r⟩ := blk_all B2; clear B2; clear ho)
  have e_x : blk (u1.alloc (.cells #[.int .i64 0, .int .i64 0, .int .u64 1152921504606846976, .int .i64 (1 + h % 3), .int .u64 0, .int .i64 0, .int .u64 4611686018427387904, .int .i64 0, .int .u64 (h * 72057594037927936), .int .i64 0, .int .u64 (h % 4 * 4611686018427387904), .int .i64 (h / 4 % 2), .int .i64 (h / 8 % 2), .slice bb n cc, .slice none 0 0, .slice none 0 0, .slice aa n ca, .int .i64 0, .int .u64 0, .int .i64 0, .int .u64 0, .int .i64 0, .int .u64 0, .slice none 0 0, .slice none 0 0, .int .i64 0] 72)) (w.heap.size) = some (.cells #[.int .i64 0, .int .i64 0, .int .u64 1152921504606846976, .int .i64 (1 + h % 3), .int .u64 0, .int .i64 0, .int .u64 4611686018427387904, .int .i64 0, .int .u64 (h * 72057594037927936), .int .i64 0, .int .u64 (h % 4 * 4611686018427387904), .int .i64 (h / 4 % 2), .int .i64 (h / 8 % 2), .slice ab n cb, .slice none 0 0, .slice none 0 0, .slice aa n ca, .int .i64 0, .int .u64 0, .int .i64 0, .int .u64 0, .int .i64 0, .int .u64 0, .slice none 0 0] 66 (0, 0)) := by ((try simp (disch := first | omega | (simp; done) | (simp; omega)) only [pBk]); first | done | with_reducible rfl | with_reducible exact Hid.out (by assumption) | (with_reducible rw [Hid.out B_x]; (try simp only [pBk]); first | done | with_reducible rfl) | (with_reducible rw [Hid.out B_r]; (try simp only [pBk]); first | done | with_reducible rfl))
  have e_r : blk (u1.alloc (.cells #[.int .i64 0, .int .i64 0, .int .u64 1152921504606846976, .int .i64 (1 + h % 3), .int .u64 0, .int .i64 0, .int .u64 4611686018427387904, .int .i64 0, .int .u64 (h * 72057594037927936), .int .i64 0, .int .u64 (h % 4 * 4611686018427387904), .int .i64 (h / 4 % 2), .int .i64 (h / 8 % 2), .slice bb n cc, .slice none 0 0, .slice none 0 0, .slice aa n ca, .int .i64 0, .int .u64 0, .int .i64 0, .int .u64 0, .int .i64 0, .int .u64 0, .slice none 0 0, .slice none 0 0, .int .i64 0] 72)) (w.heap.size + 1) = some (.cells #[.int .i64 0, .int .i64 0, .int .u64 0, .int .i64 0, .int .u64 0, .int .i64 0, .int .u64 0, .int .i64 0, .int .u64 0, .int .i64 0, .int .u64 0, .int .i64 0, .int .i64 0, .slice none 0 0, .slice none 0 0, .slice none 0 0, .slice none 0 0, .int .i64 0, .int .u64 0, .int .i64 0, .int .u64 0, .int .i64 0, .int .u64 0, .slice none 0 0, .slice none 0 0, .int .i64 0] 72 (0, 0)) := by ((try simp (disch := first | omega | (simp; done) | (simp; omega)) only [pBk]); first | done | with_reducible rfl | with_reducible exact Hid.out (by assumption) | (with_reducible rw [Hid.out B_x]; (try simp only [pBk]); first | done | with_reducible rfl) | (with_reducible rw [Hid.out B_r]; (try simp only [pBk]); first | done | with_reducible rfl))
  have e_t : blk (u1.alloc (.cells #[.int .i64 0, .int .i64 0, .int .u64 1152921504606846976, .int .i64 (1 + h % 3), .int .u64 0, .int .i64 0, .int .u64 4611686018427387904, .int .i64 0, .int .u64 (h * 72057594037927936), .int .i64 0, .int .u64 (h % 4 * 4611686018427387904), .int .i64 (h / 4 % 2), .int .i64 (h / 8 % 2), .slice bb n cc, .slice none 0 0, .slice none 0 0, .slice aa n ca, .int .i64 0, .int .u64 0, .int .i64 0, .int .u64 0, .int .i64 0, .int .u64 0, .slice none 0 0, .slice none 0 0, .int .i64 0] 72)) (u1.heap.size) = some (.cells #[.int .i64 0, .int .i64 0, .int .u64 1152921504606846976, .int .i64 (1 + h % 3), .int .u64 0, .int .i64 0, .int .u64 4611686018427387904, .int .i64 0, .int .u64 (h * 72057594037927936), .int .i64 0, .int .u64 (h % 4 * 4611686018427387904), .int .i64 (h / 4 % 2), .int .i64 (h / 8 % 2), .slice bb n cc, .slice none 0 0, .slice none 0 0, .slice aa n ca, .int .i64 0, .int .u64 0, .int .i64 0, .int .u64 0, .int .i64 0, .int .u64 0, .slice none 0 0, .slice none 0 0, .int .i64 0] 72 (0, 0)) := by ((try simp (disch := first | omega | (simp; done) | (simp; omega)) only [pBk]); first | done | with_reducible rfl | with_reducible exact Hid.out (by assumption) | (with_reducible rw [Hid.out B_x]; (try simp only [pBk]); first | done | with_reducible rfl) | (with_reducible rw [Hid.out B_r]; (try simp only [pBk]); first | done | with_reducible rfl))
  have hb_ : Below w.heap.size w (u1.alloc (.cells #[.int .i64 0, .int .i64 0, .int .u64 1152921504606846976, .int .i64 (1 + h % 3), .int .u64 0, .int .i64 0, .int .u64 4611686018427387904, .int .i64 0, .int .u64 (h * 72057594037927936), .int .i64 0, .int .u64 (h % 4 * 4611686018427387904), .int .i64 (h / 4 % 2), .int .i64 (h / 8 % 2), .slice bb n cc, .slice none 0 0, .slice none 0 0, .slice aa n ca, .int .i64 0, .int .u64 0, .int .i64 0, .int .u64 0, .int .i64 0, .int .u64 0, .slice none 0 0, .slice none 0 0, .int .i64 0] 72)) := by exact pBl
  have hLB : u1.heap.size + 1 ≤ (u1.alloc (.cells #[.int .i64 0, .int .i64 0, .int .u64 1152921504606846976, .int .i64 (1 + h % 3), .int .u64 0, .int .i64 0, .int .u64 4611686018427387904, .int .i64 0, .int .u64 (h * 72057594037927936), .int .i64 0, .int .u64 (h % 4 * 4611686018427387904), .int .i64 (h / 4 % 2), .int .i64 (h / 8 % 2), .slice bb n cc, .slice none 0 0, .slice none 0 0, .slice aa n ca, .int .i64 0, .int .u64 0, .int .i64 0, .int .u64 0, .int .i64 0, .int .u64 0, .slice none 0 0, .slice none 0 0, .int .i64 0] 72)).heap.size := by simp
  have Hob2 := Lib.hid (Hob.out.alloc (.cells #[.int .i64 0, .int .i64 0, .int .u64 1152921504606846976, .int .i64 (1 + h % 3), .int .u64 0, .int .i64 0, .int .u64 4611686018427387904, .int .i64 0, .int .u64 (h * 72057594037927936), .int .i64 0, .int .u64 (h % 4 * 4611686018427387904), .int .i64 (h / 4 % 2), .int .i64 (h / 8 % 2), .slice bb n cc, .slice none 0 0, .slice none 0 0, .slice aa n ca, .int .i64 0, .int .u64 0, .int .i64 0, .int .u64 0, .int .i64 0, .int .u64 0, .slice none 0 0, .slice none 0 0, .int .i64 0] 72))
  generalize (u1.alloc (.cells #[.int .i64 0, .int .i64 0, .int .u64 1152921504606846976, .int .i64 (1 + h % 3), .int .u64 0, .int .i64 0, .int .u64 4611686018427387904, .int .i64 0, .int .u64 (h * 72057594037927936), .int .i64 0, .int .u64 (h % 4 * 4611686018427387904), .int .i64 (h / 4 % 2), .int .i64 (h / 8 % 2), .slice bb n cc, .slice none 0 0, .slice none 0 0, .slice aa n ca, .int .i64 0, .int .u64 0, .int .i64 0, .int .u64 0, .int .i64 0, .int .u64 0, .slice none 0 0, .slice none 0 0, .int .i64 0] 72)) = wx2 at *
  (try clear HB); have HB := Lib.hid hb_; clear hb_
  (try clear c_x); (try clear f_x r_x B_x); obtain ⟨c_x, f_x, l_x, r_x, B_x⟩ := blk_all e_x; clear e_x; (try clear c_r); (try clear f_r r_r B_r); obtain ⟨c_r, f_r, l_r, r_r, B_r⟩ := blk_all e_r; clear e_r; (try clear c_t); (try clear f_t r_t B_t); obtain ⟨c_t, f_t, l_t, r_t, B_t⟩ := blk_all e_t; clear e_t
  have nxwx2 : ¬ (w.heap.size = wx2.heap.size) := by omega
  have nrwx2 : ¬ (w.heap.size + 1 = wx2.heap.size) := by omega
  have ntwx2 : ¬ (u1.heap.size = wx2.heap.size) := by omega
  clear Hr Hr1 Hob
  have Hall := Lib.hid hall
  have Hmay := Lib.hid hmay
  clear hall hmay
  go_wp2_with fail
  go_loopw [5] (fun i wr => ∃ (k : Nat) (st : List BodyI × List (Nat × Nat)) (vo : Value), k ≤ n ∧ i = .int .i64 (k : Int) ∧ ConAt h n cc ca cb bb aa ab w wr u1.heap.size wx1.heap.size wx2.heap.size st vo (k * 10) ∧ outerX (h % 4 * 4611686018427387904) n (n - k) k st = .ok Rf) (fun i _ => n - (intOf i).toNat)
  case atStart => exact ⟨0, (l, []), _, Nat.zero_le _, rfl, ⟨B_x.out, B_r.out, B_t.out, Hob2.out, World.ownsRow_nil _ _ _ _, HB.out, Nat.le_refl _, hl, Hmay.out, Nat.zero_le _⟩, Hall.out⟩
  case round =>
    obtain ⟨k, st, vo, hk, rfl, hat, hrest⟩ := hrel
    have Hat := Lib.hid hat
    have Hrest := Lib.hid hrest
    clear hat hrest Hall Hmay Hob2 c_x f_x r_x B_x c_r f_r r_r B_r c_t f_t r_t B_t
    obtain ⟨av, cv, rfl⟩ := owns_form Hat.out.oo
    by_cases h1 : k < n
    · have h1' : ((k : Int) < (n : Int)) := by omega
      have e_x := Hat.out.ex
      have e_r := Hat.out.er
      have e_t := Hat.out.et
      (try clear c_x); (try clear f_x r_x B_x); obtain ⟨c_x, f_x, l_x, r_x, B_x⟩ := blk_all e_x; clear e_x; (try clear c_r); (try clear f_r r_r B_r); obtain ⟨c_r, f_r, l_r, r_r, B_r⟩ := blk_all e_r; clear e_r; (try clear c_t); (try clear f_t r_t B_t); obtain ⟨c_t, f_t, l_t, r_t, B_t⟩ := blk_all e_t; clear e_t
      go_wp2_with fail
      go_loopw [6] (fun j wr => ∃ (q : Nat) (st : List BodyI × List (Nat × Nat)) (vo : Value), k + 1 ≤ q ∧ q ≤ n ∧ j = .int .i64 (q : Int) ∧ ConAt h n cc ca cb bb aa ab w wr u1.heap.size wx1.heap.size wx2.heap.size st vo (k * 10 + (q - (k + 1))) ∧ (innerX (h % 4 * 4611686018427387904) k (n - q) q st >>= fun s => outerX (h % 4 * 4611686018427387904) n (n - (k + 1)) (k + 1) s) = .ok Rf) (fun j _ => n - (intOf j).toNat)
      case atStart =>
        refine ⟨k + 1, st, .slice av st.2.length cv, Nat.le_refl _, h1, by congr 1, ?at1, ?at2⟩
        case at1 => exact ⟨Hat.out.ex, Hat.out.er, Hat.out.et, Hat.out.ob, Hat.out.oo, Hat.out.below, Hat.out.size, Hat.out.len, Hat.out.may, by have := Hat.out.few; omega⟩
        case at2 =>
          have hr := Hrest.out
          rw [show n - k = (n - (k + 1)) + 1 by omega] at hr
          unfold outerX at hr
          rw [show n - 1 - k = n - (k + 1) by omega] at hr
          exact hr
      case round =>
        obtain ⟨q, st2, vo2, hq1, hq2, rfl, hat2, hrest2⟩ := hrel
        have Hat2 := Lib.hid hat2
        have Hrest2 := Lib.hid hrest2
        clear hat2 hrest2 Hat Hrest c_x f_x r_x B_x c_r f_r r_r B_r c_t f_t r_t B_t
        obtain ⟨av2, cv2, rfl⟩ := owns_form Hat2.out.oo
        have e_x := Hat2.out.ex
        have e_r := Hat2.out.er
        have e_t := Hat2.out.et
        (try clear c_x); (try clear f_x r_x B_x); obtain ⟨c_x, f_x, l_x, r_x, B_x⟩ := blk_all e_x; clear e_x; (try clear c_r); (try clear f_r r_r B_r); obtain ⟨c_r, f_r, l_r, r_r, B_r⟩ := blk_all e_r; clear e_r; (try clear c_t); (try clear f_t r_t B_t); obtain ⟨c_t, f_t, l_t, r_t, B_t⟩ := blk_all e_t; clear e_t
        by_cases h2 : q < n
        · have h2' : ((q : Int) < (n : Int)) := by omega
          obtain ⟨g, cp2, hv, hg1, hg2⟩ := owns_ptr Hat2.out.ob (by omega)
          injection hv with hv1 hv2 hv3
          subst hv1 hv3
          clear hv2
          have hstep : ∃ s, stepX (h % 4 * 4611686018427387904) st2 k q = .ok s ∧ (innerX (h % 4 * 4611686018427387904) k (n - (q + 1)) (q + 1) s >>= fun s => outerX (h % 4 * 4611686018427387904) n (n - (k + 1)) (k + 1) s) = .ok Rf := by
            have hr := Hrest2.out
            rw [show n - q = (n - (q + 1)) + 1 by omega] at hr
            unfold innerX at hr
            cases hs : stepX (h % 4 * 4611686018427387904) st2 k q with
            | error e => rw [hs, bind_err, bind_err] at hr; cases hr
            | ok s => rw [hs, bind_ok] at hr; exact ⟨s, rfl, hr⟩
          obtain ⟨s, hs1, hs2⟩ := hstep
          have ra := owns_range Hat2.out.ob Hat2.out.len (show k < n by omega)
          have rb := owns_range Hat2.out.ob Hat2.out.len (show q < n by omega)
          have ma := Hat2.out.may _ (getD_mem (i := k) (by rw [Hat2.out.len]; omega))
          have mb := Hat2.out.may _ (getD_mem (i := q) (by rw [Hat2.out.len]; omega))
          have hp := step_parts hs1
          obtain ⟨a, hae⟩ : ∃ a, st2.1.getD k noB = a := ⟨_, rfl⟩
          obtain ⟨b, hbe⟩ : ∃ b, st2.1.getD q noB = b := ⟨_, rfl⟩
          rw [hae] at ra ma
          rw [hbe] at rb mb
          rw [hae, hbe] at hp
          have Hae := Lib.hid hae
          have Hbe := Lib.hid hbe
          have Hs2 := Lib.hid hs2
          have Hp := Lib.hid hp
          clear hae hbe hs1 hs2 hp Hrest2
          have vk : 0 ≤ (k : Int) ∧ (k : Int) < (n : Int) := by omega
          have vq : 0 ≤ (q : Int) ∧ (q : Int) < (n : Int) := by omega
          have La : ∀ W : World, W.rangeAt g (k * 20) (bodyL a) → (loadRow 28 (.pointer (some ⟨g, k * 20, none⟩))).run Try.prog W = .ok (.agg #[.int .i64 (hi a.mass), .int .u64 (lo a.mass), .int .i64 (hi a.radius), .int .u64 (lo a.radius), .int .i64 (hi a.x), .int .u64 (lo a.x), .int .i64 (hi a.y), .int .u64 (lo a.y), .int .i64 (hi a.px), .int .u64 (lo a.px), .int .i64 (hi a.py), .int .u64 (lo a.py), .int .i64 (hi a.fuel), .int .u64 (lo a.fuel), .int .i64 (hi a.rate), .int .u64 (lo a.rate), .int .i64 (hi a.exh), .int .u64 (lo a.exh), .int .i64 a.thr, .int .i64 a.head]) W := fun W hW => run_load_mid a hW
          have Lb : ∀ W : World, W.rangeAt g (q * 20) (bodyL b) → (loadRow 28 (.pointer (some ⟨g, q * 20, none⟩))).run Try.prog W = .ok (.agg #[.int .i64 (hi b.mass), .int .u64 (lo b.mass), .int .i64 (hi b.radius), .int .u64 (lo b.radius), .int .i64 (hi b.x), .int .u64 (lo b.x), .int .i64 (hi b.y), .int .u64 (lo b.y), .int .i64 (hi b.px), .int .u64 (lo b.px), .int .i64 (hi b.py), .int .u64 (lo b.py), .int .i64 (hi b.fuel), .int .u64 (lo b.fuel), .int .i64 (hi b.rate), .int .u64 (lo b.rate), .int .i64 (hi b.exh), .int .u64 (lo b.exh), .int .i64 b.thr, .int .i64 b.head]) W := fun W hW => run_load_mid b hW
          have hKhi : hi (h % 4 * 4611686018427387904) = 0 := by unfold hi; omega
          have hKlo : lo (h % 4 * 4611686018427387904) = h % 4 * 4611686018427387904 := by unfold lo; omega
          have cBl := fun w => r16_Blow a b (h % 4 * 4611686018427387904) w ma mb (by unfold R; omega)
          simp only [hKhi, hKlo] at cBl
          clear hKhi hKlo
          have HB := Lib.hid Hat2.out.below
          have hg3 : ¬ (g = w.heap.size) := by omega
          have hg4 : ¬ (g = wr.heap.size) := by omega
          have hxw : ¬ (w.heap.size = wr.heap.size) := by omega
          rcases Hp.out with ⟨hbl, hs⟩ | ⟨J, p, qq, hbl, hp1, hp2, hs⟩
          · simp only [hbl, hitV_none, hitB_none, eOf_ok, hi_z, lo_z] at cBl
            have Hs := Lib.hid hs
            clear hbl hs Hp
            go_upto_region 9 with fail
            go_cut [7] (fun s7 wx => ∃ g_h : Nat, s7 = .pointer (some ⟨g_h, 0, none⟩) ∧ Below wr.heap.size wr wx ∧ wr.heap.size ≤ g_h ∧ blk wx g_h = some (.cells #[.int .i64 0, .int .u64 0, .int .i64 0, .int .u64 0, .bool false, .int .i64 0] 43 (0, 0)))
            case first =>
              go_region_held3 (fun w' => w'.rangeAt g (k * 20) (bodyL a) ∧ w'.rangeAt g (q * 20) (bodyL b) ∧ w'.cell? ⟨w.heap.size, 9, none⟩ = some (.int .i64 0) ∧ w'.cell? ⟨w.heap.size, 10, none⟩ = some (.int .u64 (h % 4 * 4611686018427387904))) (refine ⟨?_, ?_, ?_, ?_⟩ <;> (simp (maxDischargeDepth := 9) [go_sem, *]; done))
                ((go_at_call 20; refine (cBl _).mono ?_; rintro e u6 ⟨rfl, ho⟩; have HBr : Hid (Below wr.heap.size wr u6) := Lib.hid (Below.trans (by exact pBl) (Below.mono ho pSd)); have ra6 := range_below ra HBr.out hg2; have rb6 := range_below rb HBr.out hg2; have hzu6 := Below.size ho; (try simp at hzu6); have HB2 : Hid (Below w.heap.size w u6) := Lib.hid (Below.trans (by exact pBl) (Below.mono ho pSd)); (try clear HB); have HB := HB2; clear HB2; have B2 := blk_below (g := w.heap.size) ho pSd; (try simp (disch := first | omega | (simp; done) | (simp; omega)) only [pBk] at B2); (try rw [Hid.out B_x] at B2); (try simp only [pBk] at B2); (try clear c_x f_x r_x B_x); obtain ⟨c_x, f_x, l_u6_x, r_x, B_x⟩ := blk_all B2; clear B2; have B2 := blk_below (g := w.heap.size + 1) ho pSd; (try simp (disch := first | omega | (simp; done) | (simp; omega)) only [pBk] at B2); (try rw [Hid.out B_r] at B2); (try simp only [pBk] at B2); (try clear c_r f_r r_r B_r); obtain ⟨c_r, f_r, l_u6_r, r_r, B_r⟩ := blk_all B2; clear B2; (try (have B2 := blk_below (g := wr.heap.size) ho (by first  | omega | (simp; done) | (simp; omega)); (try simp (disch := first | omega | (simp; done) | (simp; omega)) only [pBk] at B2); (try rw [Hid.out B_o0] at B2); (try simp only [pBk] at B2); (try clear c_o0 f_o0 r_o0 B_o0); obtain ⟨c_o0, f_o0, l_u6_o0, r_o0, B_o0⟩ := blk_all B2; clear B2)); clear ho; have lg6 : g < u6.heap.size := (by omega); have hx6 : ¬ (g = u6.heap.size) := (by omega); have hy6 : ¬ (w.heap.size = u6.heap.size) := (by omega)))
              all_goals (go_wp2_with fail; go_meet; refine ⟨_, rfl, ?_, ?_, ?_⟩)
              all_goals first | omega | (simp; done) | (simp; omega) | ((try simp (disch := first | omega | (simp; done) | (simp; omega)) only [pBk]); first | done | with_reducible rfl | with_reducible exact Hid.out (by assumption) | (with_reducible rw [Hid.out B_o0]; (try simp only [pBk]); first | done | with_reducible rfl) | (with_reducible rw [Hid.out B_x]; (try simp only [pBk]); first | done | with_reducible rfl) | (with_reducible rw [Hid.out B_r]; (try simp only [pBk]); first | done | with_reducible rfl)) | skip
              all_goals (exact pBl)
            case rest =>
              obtain ⟨g_h, rfl, hbw, hgh, e_h⟩ := hcut
              have Hn := Lib.hid (ConAt.on Hat2.out hbw)
              clear c_x f_x r_x B_x c_r f_r r_r B_r c_t f_t r_t B_t HB La Lb cBl ra rb hbw
              have e_x := Hn.out.ex
              have e_r := Hn.out.er
              have e_t := Hn.out.et
              (try clear c_x); (try clear f_x r_x B_x); obtain ⟨c_x, f_x, l_x, r_x, B_x⟩ := blk_all e_x; clear e_x; (try clear c_r); (try clear f_r r_r B_r); obtain ⟨c_r, f_r, l_r, r_r, B_r⟩ := blk_all e_r; clear e_r; (try clear c_t); (try clear f_t r_t B_t); obtain ⟨c_t, f_t, l_t, r_t, B_t⟩ := blk_all e_t; clear e_t; (try clear c_h); (try clear f_h r_h B_h); obtain ⟨c_h, f_h, l_h, r_h, B_h⟩ := blk_all e_h; clear e_h
              go_wp2_with fail
              refine ⟨⟨q + 1, st2, _, by omega, by omega, by congr 1, ⟨Hn.out.ex, Hn.out.er, Hn.out.et, Hn.out.ob, Hn.out.oo, Hn.out.below, Hn.out.size, Hn.out.len, Hn.out.may, by have := Hn.out.few; omega⟩, ?nx⟩, by simp only [intOf]; omega⟩
              case nx =>
                have hr := Hs2.out
                rw [Hs.out] at hr
                exact hr
          · simp only [hbl, hitV_some, hitB_some, eOf_ok] at cBl
            have hJR := blow_R hbl
            have Hs := Lib.hid hs
            have Hp1 := Lib.hid hp1
            have Hp2 := Lib.hid hp2
            clear hbl hs Hp hp1 hp2
            go_upto_region 9 with fail
            go_cut [7] (fun s7 wx => ∃ g_h : Nat, s7 = .pointer (some ⟨g_h, 0, none⟩) ∧ Below wr.heap.size wr wx ∧ wr.heap.size ≤ g_h ∧ blk wx g_h = some (.cells #[.int .i64 (hi J.1), .int .u64 (lo J.1), .int .i64 (hi J.2), .int .u64 (lo J.2), .bool true, .int .i64 0] 43 (0, 0)))
            case first =>
              go_region_held3 (fun w' => w'.rangeAt g (k * 20) (bodyL a) ∧ w'.rangeAt g (q * 20) (bodyL b) ∧ w'.cell? ⟨w.heap.size, 9, none⟩ = some (.int .i64 0) ∧ w'.cell? ⟨w.heap.size, 10, none⟩ = some (.int .u64 (h % 4 * 4611686018427387904))) (refine ⟨?_, ?_, ?_, ?_⟩ <;> (simp (maxDischargeDepth := 9) [go_sem, *]; done))
                ((go_at_call 20; refine (cBl _).mono ?_; rintro e u6 ⟨rfl, ho⟩; have HBr : Hid (Below wr.heap.size wr u6) := Lib.hid (Below.trans (by exact pBl) (Below.mono ho pSd)); have ra6 := range_below ra HBr.out hg2; have rb6 := range_below rb HBr.out hg2; have hzu6 := Below.size ho; (try simp at hzu6); have HB2 : Hid (Below w.heap.size w u6) := Lib.hid (Below.trans (by exact pBl) (Below.mono ho pSd)); (try clear HB); have HB := HB2; clear HB2; have B2 := blk_below (g := w.heap.size) ho pSd; (try simp (disch := first | omega | (simp; done) | (simp; omega)) only [pBk] at B2); (try rw [Hid.out B_x] at B2); (try simp only [pBk] at B2); (try clear c_x f_x r_x B_x); obtain ⟨c_x, f_x, l_u6_x, r_x, B_x⟩ := blk_all B2; clear B2; have B2 := blk_below (g := w.heap.size + 1) ho pSd; (try simp (disch := first | omega | (simp; done) | (simp; omega)) only [pBk] at B2); (try rw [Hid.out B_r] at B2); (try simp only [pBk] at B2); (try clear c_r f_r r_r B_r); obtain ⟨c_r, f_r, l_u6_r, r_r, B_r⟩ := blk_all B2; clear B2; (try (have B2 := blk_below (g := wr.heap.size) ho (by first  | omega | (simp; done) | (simp; omega)); (try simp (disch := first | omega | (simp; done) | (simp; omega)) only [pBk] at B2); (try rw [Hid.out B_o0] at B2); (try simp only [pBk] at B2); (try clear c_o0 f_o0 r_o0 B_o0); obtain ⟨c_o0, f_o0, l_u6_o0, r_o0, B_o0⟩ := blk_all B2; clear B2)); clear ho; have lg6 : g < u6.heap.size := (by omega); have hx6 : ¬ (g = u6.heap.size) := (by omega); have hy6 : ¬ (w.heap.size = u6.heap.size) := (by omega)))
              all_goals (go_wp2_with fail; go_meet; refine ⟨_, rfl, ?_, ?_, ?_⟩)
              all_goals first | omega | (simp; done) | (simp; omega) | ((try simp (disch := first | omega | (simp; done) | (simp; omega)) only [pBk]); first | done | with_reducible rfl | with_reducible exact Hid.out (by assumption) | (with_reducible rw [Hid.out B_o0]; (try simp only [pBk]); first | done | with_reducible rfl) | (with_reducible rw [Hid.out B_x]; (try simp only [pBk]); first | done | with_reducible rfl) | (with_reducible rw [Hid.out B_r]; (try simp only [pBk]); first | done | with_reducible rfl)) | skip
              all_goals (exact pBl)
            case rest =>
              obtain ⟨g_h, rfl, hbw, hgh, e_h⟩ := hcut
              have Hn := Lib.hid (ConAt.on Hat2.out hbw)
              have hws := hbw.size
              clear c_x f_x r_x B_x c_r f_r r_r B_r c_t f_t r_t B_t HB La Lb cBl ra rb hbw
              have e_x := Hn.out.ex
              have e_r := Hn.out.er
              have e_t := Hn.out.et
              (try clear c_x); (try clear f_x r_x B_x); obtain ⟨c_x, f_x, l_x, r_x, B_x⟩ := blk_all e_x; clear e_x; (try clear c_r); (try clear f_r r_r B_r); obtain ⟨c_r, f_r, l_r, r_r, B_r⟩ := blk_all e_r; clear e_r; (try clear c_t); (try clear f_t r_t B_t); obtain ⟨c_t, f_t, l_t, r_t, B_t⟩ := blk_all e_t; clear e_t; (try clear c_h); (try clear f_h r_h B_h); obtain ⟨c_h, f_h, l_h, r_h, B_h⟩ := blk_all e_h; clear e_h
              have cAd := fun W => r1_AddVec (hi b.px) (lo b.px) (hi b.py) (lo b.py) (hi J.1) (lo J.1) (hi J.2) (lo J.2) W (MayF.of mb.px) (MayF.of mb.py) (MayF.of hJR.1) (MayF.of hJR.2)
              simp only [val_hl, Hp1.out, xOf_ok, yOf_ok, eOf_ok] at cAd
              have cSb := fun W => r1_SubVec (hi a.px) (lo a.px) (hi a.py) (lo a.py) (hi J.1) (lo J.1) (hi J.2) (lo J.2) W (MayF.of ma.px) (MayF.of ma.py) (MayF.of hJR.1) (MayF.of hJR.2)
              simp only [val_hl, Hp2.out, xOf_ok, yOf_ok, eOf_ok] at cSb
              have rb4 := owns_range Hn.out.ob Hn.out.len (show q < n by omega)
              rw [Hbe.out] at rb4
              have ra4 := owns_range Hn.out.ob Hn.out.len (show k < n by omega)
              rw [Hae.out] at ra4
              have Ra4 := Lib.hid ra4
              have Rb4 := Lib.hid rb4
              have cb0 := rb4 8 _ rfl
              have cb1 := rb4 9 _ rfl
              have cb2 := rb4 10 _ rfl
              have cb3 := rb4 11 _ rfl
              clear rb4 ra4
              have HB := Lib.hid Hn.out.below
              have hgc : ¬ (g = wc.heap.size) := by omega
              have hhc : ¬ (g_h = wc.heap.size) := by omega
              go_upto_region 13 with fail
              go_cut [8] (fun s8 wx => ∃ g_p : Nat, s8 = .pointer (some ⟨g_p, 0, none⟩) ∧ Below wc.heap.size wc wx ∧ wc.heap.size ≤ g_p ∧ blk wx g_p = some (.cells #[.int .i64 (hi p.1), .int .u64 (lo p.1), .int .i64 (hi p.2), .int .u64 (lo p.2), .int .i64 0] 78 (0, 0)))
              case first =>
                go_region_held3 (fun w' => w'.cell? ⟨g, q * 20 + 8, none⟩ = some (.int .i64 (hi b.px)) ∧ w'.cell? ⟨g, q * 20 + 9, none⟩ = some (.int .u64 (lo b.px)) ∧ w'.cell? ⟨g, q * 20 + 10, none⟩ = some (.int .i64 (hi b.py)) ∧ w'.cell? ⟨g, q * 20 + 11, none⟩ = some (.int .u64 (lo b.py)) ∧ w'.cell? ⟨g_h, 0, none⟩ = some (.int .i64 (hi J.1)) ∧ w'.cell? ⟨g_h, 1, none⟩ = some (.int .u64 (lo J.1)) ∧ w'.cell? ⟨g_h, 2, none⟩ = some (.int .i64 (hi J.2)) ∧ w'.cell? ⟨g_h, 3, none⟩ = some (.int .u64 (lo J.2))) (exact pKp)
                  ((go_at_call 80; refine (cAd _).mono ?_; rintro e u6 ⟨rfl, ho⟩; have HBr : Hid (Below wc.heap.size wc u6) := Lib.hid (Below.trans (by exact pBl) (Below.mono ho pSd)); have rc6 := range_below Rb4.out HBr.out (by omega); have cc0 := rc6 8 _ rfl; have cc1 := rc6 9 _ rfl; have cc2 := rc6 10 _ rfl; have cc3 := rc6 11 _ rfl; clear rc6; have hzu6 := Below.size ho; (try simp at hzu6); have HB2 : Hid (Below w.heap.size w u6) := Lib.hid (Below.trans (by exact pBl) (Below.mono ho pSd)); (try clear HB); have HB := HB2; clear HB2; have B2 := blk_below (g := w.heap.size) ho pSd; (try simp (disch := first | omega | (simp; done) | (simp; omega)) only [pBk] at B2); (try rw [Hid.out B_x] at B2); (try simp only [pBk] at B2); (try clear c_x f_x r_x B_x); obtain ⟨c_x, f_x, l_u6_x, r_x, B_x⟩ := blk_all B2; clear B2; have B2 := blk_below (g := w.heap.size + 1) ho pSd; (try simp (disch := first | omega | (simp; done) | (simp; omega)) only [pBk] at B2); (try rw [Hid.out B_r] at B2); (try simp only [pBk] at B2); (try clear c_r f_r r_r B_r); obtain ⟨c_r, f_r, l_u6_r, r_r, B_r⟩ := blk_all B2; clear B2; have B2 := blk_below (g := g_h) ho pSd; (try simp (disch := first | omega | (simp; done) | (simp; omega)) only [pBk] at B2); (try rw [Hid.out B_h] at B2); (try simp only [pBk] at B2); (try clear c_h f_h r_h B_h); obtain ⟨c_h, f_h, l_u6_h, r_h, B_h⟩ := blk_all B2; clear B2; (try (have B2 := blk_below (g := wc.heap.size) ho (by first  | omega | (simp; done) | (simp; omega)); (try simp (disch := first | omega | (simp; done) | (simp; omega)) only [pBk] at B2); (try rw [Hid.out B_o0] at B2); (try simp only [pBk] at B2); (try clear c_o0 f_o0 r_o0 B_o0); obtain ⟨c_o0, f_o0, l_u6_o0, r_o0, B_o0⟩ := blk_all B2; clear B2)); clear ho; have lg6 : g < u6.heap.size := (by omega); have hx6 : ¬ (g = u6.heap.size) := (by omega); have hy6 : ¬ (g_h = u6.heap.size) := (by omega)))
                all_goals (go_wp2_with fail; go_meet; refine ⟨_, rfl, ?_, ?_, ?_⟩)
                all_goals first | omega | (simp; done) | (simp; omega) | ((try simp (disch := first | omega | (simp; done) | (simp; omega)) only [pBk]); first | done | with_reducible rfl | with_reducible exact Hid.out (by assumption) | (with_reducible rw [Hid.out B_o0]; (try simp only [pBk]); first | done | with_reducible rfl) | (with_reducible rw [Hid.out B_x]; (try simp only [pBk]); first | done | with_reducible rfl) | (with_reducible rw [Hid.out B_r]; (try simp only [pBk]); first | done | with_reducible rfl) | (with_reducible rw [Hid.out B_h]; (try simp only [pBk]); first | done | with_reducible rfl)) | skip
                all_goals (exact pBl)
              case rest =>
                obtain ⟨g_p, rfl, hbw2, hgp, e_p⟩ := hcut
                have Hn2 := Lib.hid (ConAt.on Hn.out hbw2)
                have hws2 := hbw2.size
                have e_h := (blk_below hbw2 (by omega)).trans B_h.out
                clear c_x f_x r_x B_x c_r f_r r_r B_r c_t f_t r_t B_t HB cAd hbw2 cb0 cb1 cb2 cb3 Rb4 hgc hhc
                have e_x := Hn2.out.ex
                have e_r := Hn2.out.er
                have e_t := Hn2.out.et
                (try clear c_x); (try clear f_x r_x B_x); obtain ⟨c_x, f_x, l_x, r_x, B_x⟩ := blk_all e_x; clear e_x; (try clear c_r); (try clear f_r r_r B_r); obtain ⟨c_r, f_r, l_r, r_r, B_r⟩ := blk_all e_r; clear e_r; (try clear c_t); (try clear f_t r_t B_t); obtain ⟨c_t, f_t, l_t, r_t, B_t⟩ := blk_all e_t; clear e_t; (try clear c_h); (try clear f_h r_h B_h); obtain ⟨c_h, f_h, l_h, r_h, B_h⟩ := blk_all e_h; clear e_h; (try clear c_p); (try clear f_p r_p B_p); obtain ⟨c_p, f_p, l_p, r_p, B_p⟩ := blk_all e_p; clear e_p
                have ra4 := owns_range Hn2.out.ob Hn2.out.len (show k < n by omega)
                rw [Hae.out] at ra4
                clear Ra4
                have Ra4 := Lib.hid ra4
                have cb0 := ra4 8 _ rfl
                have cb1 := ra4 9 _ rfl
                have cb2 := ra4 10 _ rfl
                have cb3 := ra4 11 _ rfl
                clear ra4
                have HB := Lib.hid Hn2.out.below
                have hgc : ¬ (g = wc.heap.size) := by omega
                have hhc : ¬ (g_h = wc.heap.size) := by omega
                have hpc : ¬ (g_p = wc.heap.size) := by omega
                go_upto_region 16 with fail
                go_cut [9] (fun s9 wx => ∃ g_q : Nat, s9 = .pointer (some ⟨g_q, 0, none⟩) ∧ Below wc.heap.size wc wx ∧ wc.heap.size ≤ g_q ∧ blk wx g_q = some (.cells #[.int .i64 (hi qq.1), .int .u64 (lo qq.1), .int .i64 (hi qq.2), .int .u64 (lo qq.2), .int .i64 0] 78 (0, 0)))
                case first =>
                  go_region_held3 (fun w' => w'.cell? ⟨g, k * 20 + 8, none⟩ = some (.int .i64 (hi a.px)) ∧ w'.cell? ⟨g, k * 20 + 9, none⟩ = some (.int .u64 (lo a.px)) ∧ w'.cell? ⟨g, k * 20 + 10, none⟩ = some (.int .i64 (hi a.py)) ∧ w'.cell? ⟨g, k * 20 + 11, none⟩ = some (.int .u64 (lo a.py)) ∧ w'.cell? ⟨g_h, 0, none⟩ = some (.int .i64 (hi J.1)) ∧ w'.cell? ⟨g_h, 1, none⟩ = some (.int .u64 (lo J.1)) ∧ w'.cell? ⟨g_h, 2, none⟩ = some (.int .i64 (hi J.2)) ∧ w'.cell? ⟨g_h, 3, none⟩ = some (.int .u64 (lo J.2))) (exact pKp)
                    ((go_at_call 50; refine (cSb _).mono ?_; rintro e u6 ⟨rfl, ho⟩; have HBr : Hid (Below wc.heap.size wc u6) := Lib.hid (Below.trans (by exact pBl) (Below.mono ho pSd)); have rc6 := range_below Ra4.out HBr.out (by omega); have cc0 := rc6 8 _ rfl; have cc1 := rc6 9 _ rfl; have cc2 := rc6 10 _ rfl; have cc3 := rc6 11 _ rfl; clear rc6; have hzu6 := Below.size ho; (try simp at hzu6); have HB2 : Hid (Below w.heap.size w u6) := Lib.hid (Below.trans (by exact pBl) (Below.mono ho pSd)); (try clear HB); have HB := HB2; clear HB2; have B2 := blk_below (g := w.heap.size) ho pSd; (try simp (disch := first | omega | (simp; done) | (simp; omega)) only [pBk] at B2); (try rw [Hid.out B_x] at B2); (try simp only [pBk] at B2); (try clear c_x f_x r_x B_x); obtain ⟨c_x, f_x, l_u6_x, r_x, B_x⟩ := blk_all B2; clear B2; have B2 := blk_below (g := w.heap.size + 1) ho pSd; (try simp (disch := first | omega | (simp; done) | (simp; omega)) only [pBk] at B2); (try rw [Hid.out B_r] at B2); (try simp only [pBk] at B2); (try clear c_r f_r r_r B_r); obtain ⟨c_r, f_r, l_u6_r, r_r, B_r⟩ := blk_all B2; clear B2; have B2 := blk_below (g := g_h) ho pSd; (try simp (disch := first | omega | (simp; done) | (simp; omega)) only [pBk] at B2); (try rw [Hid.out B_h] at B2); (try simp only [pBk] at B2); (try clear c_h f_h r_h B_h); obtain ⟨c_h, f_h, l_u6_h, r_h, B_h⟩ := blk_all B2; clear B2; have B2 := blk_below (g := g_p) ho pSd; (try simp (disch := first | omega | (simp; done) | (simp; omega)) only [pBk] at B2); (try rw [Hid.out B_p] at B2); (try simp only [pBk] at B2); (try clear c_p f_p r_p B_p); obtain ⟨c_p, f_p, l_u6_p, r_p, B_p⟩ := blk_all B2; clear B2; (try (have B2 := blk_below (g := wc.heap.size) ho (by first  | omega | (simp; done) | (simp; omega)); (try simp (disch := first | omega | (simp; done) | (simp; omega)) only [pBk] at B2); (try rw [Hid.out B_o0] at B2); (try simp only [pBk] at B2); (try clear c_o0 f_o0 r_o0 B_o0); obtain ⟨c_o0, f_o0, l_u6_o0, r_o0, B_o0⟩ := blk_all B2; clear B2)); clear ho; have lg6 : g < u6.heap.size := (by omega); have hx6 : ¬ (g = u6.heap.size) := (by omega); have hy6 : ¬ (g_h = u6.heap.size) := (by omega)))
                  all_goals (go_wp2_with fail; go_meet; refine ⟨_, rfl, ?_, ?_, ?_⟩)
                  all_goals first | omega | (simp; done) | (simp; omega) | ((try simp (disch := first | omega | (simp; done) | (simp; omega)) only [pBk]); first | done | with_reducible rfl | with_reducible exact Hid.out (by assumption) | (with_reducible rw [Hid.out B_o0]; (try simp only [pBk]); first | done | with_reducible rfl) | (with_reducible rw [Hid.out B_x]; (try simp only [pBk]); first | done | with_reducible rfl) | (with_reducible rw [Hid.out B_r]; (try simp only [pBk]); first | done | with_reducible rfl) | (with_reducible rw [Hid.out B_h]; (try simp only [pBk]); first | done | with_reducible rfl)) | skip
                  all_goals (exact pBl)
                case rest =>
                obtain ⟨g_q, rfl, hbw3, hgq, e_q⟩ := hcut
                have Hn3 := Lib.hid (ConAt.on Hn2.out hbw3)
                have hws3 := hbw3.size
                have e_p := (blk_below hbw3 (by omega)).trans B_p.out
                clear c_x f_x r_x B_x c_r f_r r_r B_r c_t f_t r_t B_t c_h f_h r_h B_h HB cSb hbw3 cb0 cb1 cb2 cb3 Ra4 hgc hhc hpc
                have e_x := Hn3.out.ex
                have e_r := Hn3.out.er
                have e_t := Hn3.out.et
                (try clear c_x); (try clear f_x r_x B_x); obtain ⟨c_x, f_x, l_x, r_x, B_x⟩ := blk_all e_x; clear e_x; (try clear c_r); (try clear f_r r_r B_r); obtain ⟨c_r, f_r, l_r, r_r, B_r⟩ := blk_all e_r; clear e_r; (try clear c_t); (try clear f_t r_t B_t); obtain ⟨c_t, f_t, l_t, r_t, B_t⟩ := blk_all e_t; clear e_t; (try clear c_p); (try clear f_p r_p B_p); obtain ⟨c_p, f_p, l_p, r_p, B_p⟩ := blk_all e_p; clear e_p; (try clear c_q); (try clear f_q r_q B_q); obtain ⟨c_q, f_q, l_q, r_q, B_q⟩ := blk_all e_q; clear e_q
                have HB := Lib.hid Hn3.out.below
                have hgt : (Value.slice (some ⟨g, 0, none⟩) n cc).ownBlock ≠ some u1.heap.size := owns_not_blk Hn3.out.ob B_t.out (by decide)
                have hgt1 : ¬ (g = u1.heap.size) := fun e => hgt (by rw [← e]; rfl)
                have hgt2 : ¬ (u1.heap.size = g) := fun e => hgt1 e.symm
                have hn1 : ¬ (w.heap.size = g) := by omega
                have hn2 : ¬ (w.heap.size + 1 = g) := by omega
                have hn3 : ¬ (g_p = g) := by omega
                have hn4 : ¬ (g_q = g) := by omega
                have rb4 := owns_range Hn3.out.ob Hn3.out.len (show q < n by omega)
                rw [Hbe.out] at rb4
                have cc0 := rb4 8 _ rfl
                have cc1 := rb4 9 _ rfl
                have cc2 := rb4 10 _ rfl
                have cc3 := rb4 11 _ rfl
                clear rb4 hgt
                have fb0 := Hn3.out.ob.frozenAt (q * 20 + 8)
                have fb1 := Hn3.out.ob.frozenAt (q * 20 + 8 + 1)
                have fb2 := Hn3.out.ob.frozenAt (q * 20 + 8 + 2)
                have fb3 := Hn3.out.ob.frozenAt (q * 20 + 8 + 3)
                go_upto_region 20 with fail
                have hapo := owns_apart Hn3.out.oo Hn3.out.ob (by decide)
                have Hb8 : Hid (((((wc.setCell ⟨g, q * 20 + 8, none⟩ (.int .i64 (hi p.1))).setCell ⟨g, q * 20 + 8 + 1, none⟩ (.int .u64 (lo p.1))).setCell ⟨g, q * 20 + 8 + 2, none⟩ (.int .i64 (hi p.2))).setCell ⟨g, q * 20 + 8 + 3, none⟩ (.int .u64 (lo p.2))).ownsRow wx1.heap.size 28 20 (.slice (some ⟨g, 0, none⟩) n cc) n (bodiesL (st2.1.set q { b with px := p.1, py := p.2 }))) := by
                  have s4 := (((((Hn3.out.ob).stored (q * 20 + 8) (.int .i64 (hi p.1))).1.stored (q * 20 + 8 + 1) (.int .u64 (lo p.1))).1.stored (q * 20 + 8 + 2) (.int .i64 (hi p.2))).1.stored (q * 20 + 8 + 3) (.int .u64 (lo p.2))).1
                  have e := bodiesL_mom st2.1 q p.1 p.2 (by rw [Hn3.out.len]; omega)
                  rw [Hbe.out] at e
                  rw [← e]
                  exact Lib.hid s4
                have Ho8 := Lib.hid (owns_set_ne (o := q * 20 + 8 + 3) (u := .int .u64 (lo p.2)) (owns_set_ne (o := q * 20 + 8 + 2) (u := .int .i64 (hi p.2)) (owns_set_ne (o := q * 20 + 8 + 1) (u := .int .u64 (lo p.1)) (owns_set_ne (o := q * 20 + 8) (u := .int .i64 (hi p.1)) Hn3.out.oo hapo) hapo) hapo) hapo)
                have hz7 : wc.heap.size ≤ (((((wc.setCell ⟨g, q * 20 + 8, none⟩ (.int .i64 (hi p.1))).setCell ⟨g, q * 20 + 8 + 1, none⟩ (.int .u64 (lo p.1))).setCell ⟨g, q * 20 + 8 + 2, none⟩ (.int .i64 (hi p.2))).setCell ⟨g, q * 20 + 8 + 3, none⟩ (.int .u64 (lo p.2)))).heap.size := by simp
                have e_x : blk ((((wc.setCell ⟨g, q * 20 + 8, none⟩ (.int .i64 (hi p.1))).setCell ⟨g, q * 20 + 8 + 1, none⟩ (.int .u64 (lo p.1))).setCell ⟨g, q * 20 + 8 + 2, none⟩ (.int .i64 (hi p.2))).setCell ⟨g, q * 20 + 8 + 3, none⟩ (.int .u64 (lo p.2))) (w.heap.size) = some (.cells #[.int .i64 0, .int .i64 0, .int .u64 1152921504606846976, .int .i64 (1 + h % 3), .int .u64 0, .int .i64 0, .int .u64 4611686018427387904, .int .i64 0, .int .u64 (h * 72057594037927936), .int .i64 0, .int .u64 (h % 4 * 4611686018427387904), .int .i64 (h / 4 % 2), .int .i64 (h / 8 % 2), .slice ab n cb, .slice none 0 0, .slice none 0 0, .slice aa n ca, .int .i64 0, .int .u64 0, .int .i64 0, .int .u64 0, .int .i64 0, .int .u64 0, .slice none 0 0] 66 (0, 0)) := by ((try simp (disch := first | omega | (simp; done) | (simp; omega)) only [pBk]); first | done | with_reducible rfl | with_reducible exact Hid.out (by assumption) | (with_reducible rw [Hid.out B_x]; (try simp only [pBk]); first | done | with_reducible rfl) | (with_reducible rw [Hid.out B_r]; (try simp only [pBk]); first | done | with_reducible rfl) | (with_reducible rw [Hid.out B_t]; (try simp only [pBk]); first | done | with_reducible rfl) | (with_reducible rw [Hid.out B_p]; (try simp only [pBk]); first | done | with_reducible rfl) | (with_reducible rw [Hid.out B_q]; (try simp only [pBk]); first | done | with_reducible rfl))
                have e_r : blk ((((wc.setCell ⟨g, q * 20 + 8, none⟩ (.int .i64 (hi p.1))).setCell ⟨g, q * 20 + 8 + 1, none⟩ (.int .u64 (lo p.1))).setCell ⟨g, q * 20 + 8 + 2, none⟩ (.int .i64 (hi p.2))).setCell ⟨g, q * 20 + 8 + 3, none⟩ (.int .u64 (lo p.2))) (w.heap.size + 1) = some (.cells #[.int .i64 0, .int .i64 0, .int .u64 0, .int .i64 0, .int .u64 0, .int .i64 0, .int .u64 0, .int .i64 0, .int .u64 0, .int .i64 0, .int .u64 0, .int .i64 0, .int .i64 0, .slice none 0 0, .slice none 0 0, .slice none 0 0, .slice none 0 0, .int .i64 0, .int .u64 0, .int .i64 0, .int .u64 0, .int .i64 0, .int .u64 0, .slice none 0 0, .slice none 0 0, .int .i64 0] 72 (0, 0)) := by ((try simp (disch := first | omega | (simp; done) | (simp; omega)) only [pBk]); first | done | with_reducible rfl | with_reducible exact Hid.out (by assumption) | (with_reducible rw [Hid.out B_x]; (try simp only [pBk]); first | done | with_reducible rfl) | (with_reducible rw [Hid.out B_r]; (try simp only [pBk]); first | done | with_reducible rfl) | (with_reducible rw [Hid.out B_t]; (try simp only [pBk]); first | done | with_reducible rfl) | (with_reducible rw [Hid.out B_p]; (try simp only [pBk]); first | done | with_reducible rfl) | (with_reducible rw [Hid.out B_q]; (try simp only [pBk]); first | done | with_reducible rfl))
                have e_t : blk ((((wc.setCell ⟨g, q * 20 + 8, none⟩ (.int .i64 (hi p.1))).setCell ⟨g, q * 20 + 8 + 1, none⟩ (.int .u64 (lo p.1))).setCell ⟨g, q * 20 + 8 + 2, none⟩ (.int .i64 (hi p.2))).setCell ⟨g, q * 20 + 8 + 3, none⟩ (.int .u64 (lo p.2))) (u1.heap.size) = some (.cells #[.int .i64 0, .int .i64 0, .int .u64 1152921504606846976, .int .i64 (1 + h % 3), .int .u64 0, .int .i64 0, .int .u64 4611686018427387904, .int .i64 0, .int .u64 (h * 72057594037927936), .int .i64 0, .int .u64 (h % 4 * 4611686018427387904), .int .i64 (h / 4 % 2), .int .i64 (h / 8 % 2), .slice (some ⟨g, 0, none⟩) n cc, .slice none 0 0, .slice none 0 0, .slice aa n ca, .int .i64 0, .int .u64 0, .int .i64 0, .int .u64 0, .int .i64 0, .int .u64 0, .slice none 0 0, .slice av2 st2.2.length cv2, .int .i64 0] 72 (0, 0)) := by ((try simp (disch := first | omega | (simp; done) | (simp; omega)) only [pBk]); first | done | with_reducible rfl | with_reducible exact Hid.out (by assumption) | (with_reducible rw [Hid.out B_x]; (try simp only [pBk]); first | done | with_reducible rfl) | (with_reducible rw [Hid.out B_r]; (try simp only [pBk]); first | done | with_reducible rfl) | (with_reducible rw [Hid.out B_t]; (try simp only [pBk]); first | done | with_reducible rfl) | (with_reducible rw [Hid.out B_p]; (try simp only [pBk]); first | done | with_reducible rfl) | (with_reducible rw [Hid.out B_q]; (try simp only [pBk]); first | done | with_reducible rfl))
                have e_p : blk ((((wc.setCell ⟨g, q * 20 + 8, none⟩ (.int .i64 (hi p.1))).setCell ⟨g, q * 20 + 8 + 1, none⟩ (.int .u64 (lo p.1))).setCell ⟨g, q * 20 + 8 + 2, none⟩ (.int .i64 (hi p.2))).setCell ⟨g, q * 20 + 8 + 3, none⟩ (.int .u64 (lo p.2))) (g_p) = some (.cells #[.int .i64 (hi p.1), .int .u64 (lo p.1), .int .i64 (hi p.2), .int .u64 (lo p.2), .int .i64 0] 78 (0, 0)) := by ((try simp (disch := first | omega | (simp; done) | (simp; omega)) only [pBk]); first | done | with_reducible rfl | with_reducible exact Hid.out (by assumption) | (with_reducible rw [Hid.out B_x]; (try simp only [pBk]); first | done | with_reducible rfl) | (with_reducible rw [Hid.out B_r]; (try simp only [pBk]); first | done | with_reducible rfl) | (with_reducible rw [Hid.out B_t]; (try simp only [pBk]); first | done | with_reducible rfl) | (with_reducible rw [Hid.out B_p]; (try simp only [pBk]); first | done | with_reducible rfl) | (with_reducible rw [Hid.out B_q]; (try simp only [pBk]); first | done | with_reducible rfl))
                have e_q : blk ((((wc.setCell ⟨g, q * 20 + 8, none⟩ (.int .i64 (hi p.1))).setCell ⟨g, q * 20 + 8 + 1, none⟩ (.int .u64 (lo p.1))).setCell ⟨g, q * 20 + 8 + 2, none⟩ (.int .i64 (hi p.2))).setCell ⟨g, q * 20 + 8 + 3, none⟩ (.int .u64 (lo p.2))) (g_q) = some (.cells #[.int .i64 (hi qq.1), .int .u64 (lo qq.1), .int .i64 (hi qq.2), .int .u64 (lo qq.2), .int .i64 0] 78 (0, 0)) := by ((try simp (disch := first | omega | (simp; done) | (simp; omega)) only [pBk]); first | done | with_reducible rfl | with_reducible exact Hid.out (by assumption) | (with_reducible rw [Hid.out B_x]; (try simp only [pBk]); first | done | with_reducible rfl) | (with_reducible rw [Hid.out B_r]; (try simp only [pBk]); first | done | with_reducible rfl) | (with_reducible rw [Hid.out B_t]; (try simp only [pBk]); first | done | with_reducible rfl) | (with_reducible rw [Hid.out B_p]; (try simp only [pBk]); first | done | with_reducible rfl) | (with_reducible rw [Hid.out B_q]; (try simp only [pBk]); first | done | with_reducible rfl))
                have hb_ : Below w.heap.size w ((((wc.setCell ⟨g, q * 20 + 8, none⟩ (.int .i64 (hi p.1))).setCell ⟨g, q * 20 + 8 + 1, none⟩ (.int .u64 (lo p.1))).setCell ⟨g, q * 20 + 8 + 2, none⟩ (.int .i64 (hi p.2))).setCell ⟨g, q * 20 + 8 + 3, none⟩ (.int .u64 (lo p.2))) := by exact pBl
                generalize ((((wc.setCell ⟨g, q * 20 + 8, none⟩ (.int .i64 (hi p.1))).setCell ⟨g, q * 20 + 8 + 1, none⟩ (.int .u64 (lo p.1))).setCell ⟨g, q * 20 + 8 + 2, none⟩ (.int .i64 (hi p.2))).setCell ⟨g, q * 20 + 8 + 3, none⟩ (.int .u64 (lo p.2))) = w5 at *
                (try clear HB); have HB := Lib.hid hb_; clear hb_
                (try clear c_x); (try clear f_x r_x B_x); obtain ⟨c_x, f_x, l_x, r_x, B_x⟩ := blk_all e_x; clear e_x; (try clear c_r); (try clear f_r r_r B_r); obtain ⟨c_r, f_r, l_r, r_r, B_r⟩ := blk_all e_r; clear e_r; (try clear c_t); (try clear f_t r_t B_t); obtain ⟨c_t, f_t, l_t, r_t, B_t⟩ := blk_all e_t; clear e_t; (try clear c_p); (try clear f_p r_p B_p); obtain ⟨c_p, f_p, l_p, r_p, B_p⟩ := blk_all e_p; clear e_p; (try clear c_q); (try clear f_q r_q B_q); obtain ⟨c_q, f_q, l_q, r_q, B_q⟩ := blk_all e_q; clear e_q
                have nxw5 : ¬ (w.heap.size = w5.heap.size) := by omega
                have nrw5 : ¬ (w.heap.size + 1 = w5.heap.size) := by omega
                have ntw5 : ¬ (u1.heap.size = w5.heap.size) := by omega
                clear fb0 fb1 fb2 fb3 cc0 cc1 cc2 cc3
                have hlen9 : Hid ((st2.1.set q { b with px := p.1, py := p.2 }).length = n) := Lib.hid (by rw [List.length_set]; exact Hn3.out.len)
                have Hga : Hid ((st2.1.set q { b with px := p.1, py := p.2 }).getD k noB = a) := Lib.hid (by rw [getD_set_ne _ (by omega), Hae.out])
                have ra4 := owns_range Hb8.out hlen9.out (show k < n by omega)
                rw [Hga.out] at ra4
                have cc0 := ra4 8 _ rfl
                have cc1 := ra4 9 _ rfl
                have cc2 := ra4 10 _ rfl
                have cc3 := ra4 11 _ rfl
                clear ra4
                have fb0 := Hb8.out.frozenAt (k * 20 + 8)
                have fb1 := Hb8.out.frozenAt (k * 20 + 8 + 1)
                have fb2 := Hb8.out.frozenAt (k * 20 + 8 + 2)
                have fb3 := Hb8.out.frozenAt (k * 20 + 8 + 3)
                go_upto_region 21 with fail
                have Hb9 : Hid (((((w5.setCell ⟨g, k * 20 + 8, none⟩ (.int .i64 (hi qq.1))).setCell ⟨g, k * 20 + 8 + 1, none⟩ (.int .u64 (lo qq.1))).setCell ⟨g, k * 20 + 8 + 2, none⟩ (.int .i64 (hi qq.2))).setCell ⟨g, k * 20 + 8 + 3, none⟩ (.int .u64 (lo qq.2))).ownsRow wx1.heap.size 28 20 (.slice (some ⟨g, 0, none⟩) n cc) n (bodiesL ((st2.1.set q { b with px := p.1, py := p.2 }).set k { a with px := qq.1, py := qq.2 }))) := by
                  have s4 := (((((Hb8.out).stored (k * 20 + 8) (.int .i64 (hi qq.1))).1.stored (k * 20 + 8 + 1) (.int .u64 (lo qq.1))).1.stored (k * 20 + 8 + 2) (.int .i64 (hi qq.2))).1.stored (k * 20 + 8 + 3) (.int .u64 (lo qq.2))).1
                  have e := bodiesL_mom (st2.1.set q { b with px := p.1, py := p.2 }) k qq.1 qq.2 (by rw [hlen9.out]; omega)
                  rw [Hga.out] at e
                  rw [← e]
                  exact Lib.hid s4
                have Ho9 := Lib.hid (owns_set_ne (o := k * 20 + 8 + 3) (u := .int .u64 (lo qq.2)) (owns_set_ne (o := k * 20 + 8 + 2) (u := .int .i64 (hi qq.2)) (owns_set_ne (o := k * 20 + 8 + 1) (u := .int .u64 (lo qq.1)) (owns_set_ne (o := k * 20 + 8) (u := .int .i64 (hi qq.1)) Ho8.out hapo) hapo) hapo) hapo)
                have hz8 : w5.heap.size ≤ (((((w5.setCell ⟨g, k * 20 + 8, none⟩ (.int .i64 (hi qq.1))).setCell ⟨g, k * 20 + 8 + 1, none⟩ (.int .u64 (lo qq.1))).setCell ⟨g, k * 20 + 8 + 2, none⟩ (.int .i64 (hi qq.2))).setCell ⟨g, k * 20 + 8 + 3, none⟩ (.int .u64 (lo qq.2)))).heap.size := by simp
                have e_x : blk ((((w5.setCell ⟨g, k * 20 + 8, none⟩ (.int .i64 (hi qq.1))).setCell ⟨g, k * 20 + 8 + 1, none⟩ (.int .u64 (lo qq.1))).setCell ⟨g, k * 20 + 8 + 2, none⟩ (.int .i64 (hi qq.2))).setCell ⟨g, k * 20 + 8 + 3, none⟩ (.int .u64 (lo qq.2))) (w.heap.size) = some (.cells #[.int .i64 0, .int .i64 0, .int .u64 1152921504606846976, .int .i64 (1 + h % 3), .int .u64 0, .int .i64 0, .int .u64 4611686018427387904, .int .i64 0, .int .u64 (h * 72057594037927936), .int .i64 0, .int .u64 (h % 4 * 4611686018427387904), .int .i64 (h / 4 % 2), .int .i64 (h / 8 % 2), .slice ab n cb, .slice none 0 0, .slice none 0 0, .slice aa n ca, .int .i64 0, .int .u64 0, .int .i64 0, .int .u64 0, .int .i64 0, .int .u64 0, .slice none 0 0] 66 (0, 0)) := by ((try simp (disch := first | omega | (simp; done) | (simp; omega)) only [pBk]); first | done | with_reducible rfl | with_reducible exact Hid.out (by assumption) | (with_reducible rw [Hid.out B_x]; (try simp only [pBk]); first | done | with_reducible rfl) | (with_reducible rw [Hid.out B_r]; (try simp only [pBk]); first | done | with_reducible rfl) | (with_reducible rw [Hid.out B_t]; (try simp only [pBk]); first | done | with_reducible rfl) | (with_reducible rw [Hid.out B_p]; (try simp only [pBk]); first | done | with_reducible rfl) | (with_reducible rw [Hid.out B_q]; (try simp only [pBk]); first | done | with_reducible rfl))
                have e_r : blk ((((w5.setCell ⟨g, k * 20 + 8, none⟩ (.int .i64 (hi qq.1))).setCell ⟨g, k * 20 + 8 + 1, none⟩ (.int .u64 (lo qq.1))).setCell ⟨g, k * 20 + 8 + 2, none⟩ (.int .i64 (hi qq.2))).setCell ⟨g, k * 20 + 8 + 3, none⟩ (.int .u64 (lo qq.2))) (w.heap.size + 1) = some (.cells #[.int .i64 0, .int .i64 0, .int .u64 0, .int .i64 0, .int .u64 0, .int .i64 0, .int .u64 0, .int .i64 0, .int .u64 0, .int .i64 0, .int .u64 0, .int .i64 0, .int .i64 0, .slice none 0 0, .slice none 0 0, .slice none 0 0, .slice none 0 0, .int .i64 0, .int .u64 0, .int .i64 0, .int .u64 0, .int .i64 0, .int .u64 0, .slice none 0 0, .slice none 0 0, .int .i64 0] 72 (0, 0)) := by ((try simp (disch := first | omega | (simp; done) | (simp; omega)) only [pBk]); first | done | with_reducible rfl | with_reducible exact Hid.out (by assumption) | (with_reducible rw [Hid.out B_x]; (try simp only [pBk]); first | done | with_reducible rfl) | (with_reducible rw [Hid.out B_r]; (try simp only [pBk]); first | done | with_reducible rfl) | (with_reducible rw [Hid.out B_t]; (try simp only [pBk]); first | done | with_reducible rfl) | (with_reducible rw [Hid.out B_p]; (try simp only [pBk]); first | done | with_reducible rfl) | (with_reducible rw [Hid.out B_q]; (try simp only [pBk]); first | done | with_reducible rfl))
                have e_t : blk ((((w5.setCell ⟨g, k * 20 + 8, none⟩ (.int .i64 (hi qq.1))).setCell ⟨g, k * 20 + 8 + 1, none⟩ (.int .u64 (lo qq.1))).setCell ⟨g, k * 20 + 8 + 2, none⟩ (.int .i64 (hi qq.2))).setCell ⟨g, k * 20 + 8 + 3, none⟩ (.int .u64 (lo qq.2))) (u1.heap.size) = some (.cells #[.int .i64 0, .int .i64 0, .int .u64 1152921504606846976, .int .i64 (1 + h % 3), .int .u64 0, .int .i64 0, .int .u64 4611686018427387904, .int .i64 0, .int .u64 (h * 72057594037927936), .int .i64 0, .int .u64 (h % 4 * 4611686018427387904), .int .i64 (h / 4 % 2), .int .i64 (h / 8 % 2), .slice (some ⟨g, 0, none⟩) n cc, .slice none 0 0, .slice none 0 0, .slice aa n ca, .int .i64 0, .int .u64 0, .int .i64 0, .int .u64 0, .int .i64 0, .int .u64 0, .slice none 0 0, .slice av2 st2.2.length cv2, .int .i64 0] 72 (0, 0)) := by ((try simp (disch := first | omega | (simp; done) | (simp; omega)) only [pBk]); first | done | with_reducible rfl | with_reducible exact Hid.out (by assumption) | (with_reducible rw [Hid.out B_x]; (try simp only [pBk]); first | done | with_reducible rfl) | (with_reducible rw [Hid.out B_r]; (try simp only [pBk]); first | done | with_reducible rfl) | (with_reducible rw [Hid.out B_t]; (try simp only [pBk]); first | done | with_reducible rfl) | (with_reducible rw [Hid.out B_p]; (try simp only [pBk]); first | done | with_reducible rfl) | (with_reducible rw [Hid.out B_q]; (try simp only [pBk]); first | done | with_reducible rfl))
                have e_p : blk ((((w5.setCell ⟨g, k * 20 + 8, none⟩ (.int .i64 (hi qq.1))).setCell ⟨g, k * 20 + 8 + 1, none⟩ (.int .u64 (lo qq.1))).setCell ⟨g, k * 20 + 8 + 2, none⟩ (.int .i64 (hi qq.2))).setCell ⟨g, k * 20 + 8 + 3, none⟩ (.int .u64 (lo qq.2))) (g_p) = some (.cells #[.int .i64 (hi p.1), .int .u64 (lo p.1), .int .i64 (hi p.2), .int .u64 (lo p.2), .int .i64 0] 78 (0, 0)) := by ((try simp (disch := first | omega | (simp; done) | (simp; omega)) only [pBk]); first | done | with_reducible rfl | with_reducible exact Hid.out (by assumption) | (with_reducible rw [Hid.out B_x]; (try simp only [pBk]); first | done | with_reducible rfl) | (with_reducible rw [Hid.out B_r]; (try simp only [pBk]); first | done | with_reducible rfl) | (with_reducible rw [Hid.out B_t]; (try simp only [pBk]); first | done | with_reducible rfl) | (with_reducible rw [Hid.out B_p]; (try simp only [pBk]); first | done | with_reducible rfl) | (with_reducible rw [Hid.out B_q]; (try simp only [pBk]); first | done | with_reducible rfl))
                have e_q : blk ((((w5.setCell ⟨g, k * 20 + 8, none⟩ (.int .i64 (hi qq.1))).setCell ⟨g, k * 20 + 8 + 1, none⟩ (.int .u64 (lo qq.1))).setCell ⟨g, k * 20 + 8 + 2, none⟩ (.int .i64 (hi qq.2))).setCell ⟨g, k * 20 + 8 + 3, none⟩ (.int .u64 (lo qq.2))) (g_q) = some (.cells #[.int .i64 (hi qq.1), .int .u64 (lo qq.1), .int .i64 (hi qq.2), .int .u64 (lo qq.2), .int .i64 0] 78 (0, 0)) := by ((try simp (disch := first | omega | (simp; done) | (simp; omega)) only [pBk]); first | done | with_reducible rfl | with_reducible exact Hid.out (by assumption) | (with_reducible rw [Hid.out B_x]; (try simp only [pBk]); first | done | with_reducible rfl) | (with_reducible rw [Hid.out B_r]; (try simp only [pBk]); first | done | with_reducible rfl) | (with_reducible rw [Hid.out B_t]; (try simp only [pBk]); first | done | with_reducible rfl) | (with_reducible rw [Hid.out B_p]; (try simp only [pBk]); first | done | with_reducible rfl) | (with_reducible rw [Hid.out B_q]; (try simp only [pBk]); first | done | with_reducible rfl))
                have hb_ : Below w.heap.size w ((((w5.setCell ⟨g, k * 20 + 8, none⟩ (.int .i64 (hi qq.1))).setCell ⟨g, k * 20 + 8 + 1, none⟩ (.int .u64 (lo qq.1))).setCell ⟨g, k * 20 + 8 + 2, none⟩ (.int .i64 (hi qq.2))).setCell ⟨g, k * 20 + 8 + 3, none⟩ (.int .u64 (lo qq.2))) := by exact pBl
                generalize ((((w5.setCell ⟨g, k * 20 + 8, none⟩ (.int .i64 (hi qq.1))).setCell ⟨g, k * 20 + 8 + 1, none⟩ (.int .u64 (lo qq.1))).setCell ⟨g, k * 20 + 8 + 2, none⟩ (.int .i64 (hi qq.2))).setCell ⟨g, k * 20 + 8 + 3, none⟩ (.int .u64 (lo qq.2))) = w6 at *
                (try clear HB); have HB := Lib.hid hb_; clear hb_
                (try clear c_x); (try clear f_x r_x B_x); obtain ⟨c_x, f_x, l_x, r_x, B_x⟩ := blk_all e_x; clear e_x; (try clear c_r); (try clear f_r r_r B_r); obtain ⟨c_r, f_r, l_r, r_r, B_r⟩ := blk_all e_r; clear e_r; (try clear c_t); (try clear f_t r_t B_t); obtain ⟨c_t, f_t, l_t, r_t, B_t⟩ := blk_all e_t; clear e_t; (try clear c_p); (try clear f_p r_p B_p); obtain ⟨c_p, f_p, l_p, r_p, B_p⟩ := blk_all e_p; clear e_p; (try clear c_q); (try clear f_q r_q B_q); obtain ⟨c_q, f_q, l_q, r_q, B_q⟩ := blk_all e_q; clear e_q
                have nxw6 : ¬ (w.heap.size = w6.heap.size) := by omega
                have nrw6 : ¬ (w.heap.size + 1 = w6.heap.size) := by omega
                have ntw6 : ¬ (u1.heap.size = w6.heap.size) := by omega
                clear fb0 fb1 fb2 fb3 cc0 cc1 cc2 cc3 Hb8 Ho8
                have hfew := Hn3.out.few
                obtain ⟨i0, hi0, hz0, hz1, hz2⟩ := info_parts infoPair
                have hs6 : wx2.heap.size ≤ w6.heap.size := by have := Hn3.out.size; omega
                go_upto_region 8 with (at_builtin; refine wpList_append_own_at _ rfl _ _ 68 rfl wx2.heap.size 80 i0 _ 2 16 Try.underlying68 hi0 hz0 hz1 hz2 rfl (by decide) _ _ _ rfl (Ho9.out.alloc _) ⟨w6.heap.size, 0, none⟩ 1 1 (pairL (k, q)) rfl rfl ?c1 ?c2 ?c3 ?c4 ?c5 ?_)
                case c1 => intro j u hu; exact hu
                case c2 =>
                  intro u hu
                  unfold pairL at hu
                  simp only [List.mem_cons, List.not_mem_nil, or_false] at hu
                  rcases hu with e | e <;> subst e <;> rfl
                case c3 => unfold maxLen; omega
                case c4 => omega
                case c5 => omega
                intro v' w7 hoo hgrow hnl hbk
                have far : ∀ x, x < wx2.heap.size → blk w7 x = blk w6 x := fun x hx =>
                  (hgrow.block x (by show x < (w6.heap.push _).size; simp; omega) (fun e => by have := (Ho9.out.lt x e.symm).1; omega)).trans (blk_alloc _ (by omega))
                have e_x := (far w.heap.size (by omega)).trans B_x.out
                have e_r := (far (w.heap.size + 1) (by omega)).trans B_r.out
                have e_t := (far u1.heap.size (by omega)).trans B_t.out
                have hapb := owns_apart Ho9.out Hb9.out (by decide)
                have Hb10 := Lib.hid ((Hb9.out.alloc (.cells #[.int .i64 (k : Int), .int .i64 (q : Int)] 80)).kept hgrow (.inr (apart_symm hapb)))
                obtain ⟨ao', cp', rfl⟩ := owns_form hoo
                have Ho10 := Lib.hid hoo
                have hsz7 : w6.heap.size ≤ w7.heap.size := by have := hgrow.size; simp at this; omega
                have hb7 : Below w.heap.size w w7 := Below.grown (HB.out.alloc (by omega) _) hgrow (by show w.heap.size ≤ (w6.heap.push _).size; simp; omega) (fun x hx => by have := (Ho9.out.lt x hx).1; omega)
                clear HB far hgrow hoo hnl hbk Hb9 Ho9 c_p f_p r_p B_p c_q f_q r_q B_q
                have HB := Lib.hid hb7
                clear hb7
                (try clear c_x); (try clear f_x r_x B_x); obtain ⟨c_x, f_x, l_x, r_x, B_x⟩ := blk_all e_x; clear e_x; (try clear c_r); (try clear f_r r_r B_r); obtain ⟨c_r, f_r, l_r, r_r, B_r⟩ := blk_all e_r; clear e_r; (try clear c_t); (try clear f_t r_t B_t); obtain ⟨c_t, f_t, l_t, r_t, B_t⟩ := blk_all e_t; clear e_t
                go_upto_region 8 with fail
                have Hb11 := Lib.hid (owns_set_ne (b := u1.heap.size) (o := 24) (u := .slice ao' (st2.2.length + 1) cp') Hb10.out (.inr (fun e => hgt1 (by injection e))))
                have Ho11 := Lib.hid (owns_set_far (b := u1.heap.size) (o := 24) (u := .slice ao' (st2.2.length + 1) cp') Ho10.out (by omega))
                have hz9 : w7.heap.size ≤ (w7.setCell ⟨u1.heap.size, 24, none⟩ (.slice ao' (st2.2.length + 1) cp')).heap.size := by simp
                have e_x : blk (w7.setCell ⟨u1.heap.size, 24, none⟩ (.slice ao' (st2.2.length + 1) cp')) (w.heap.size) = some (.cells #[.int .i64 0, .int .i64 0, .int .u64 1152921504606846976, .int .i64 (1 + h % 3), .int .u64 0, .int .i64 0, .int .u64 4611686018427387904, .int .i64 0, .int .u64 (h * 72057594037927936), .int .i64 0, .int .u64 (h % 4 * 4611686018427387904), .int .i64 (h / 4 % 2), .int .i64 (h / 8 % 2), .slice ab n cb, .slice none 0 0, .slice none 0 0, .slice aa n ca, .int .i64 0, .int .u64 0, .int .i64 0, .int .u64 0, .int .i64 0, .int .u64 0, .slice none 0 0] 66 (0, 0)) := by ((try simp (disch := first | omega | (simp; done) | (simp; omega)) only [pBk]); first | done | with_reducible rfl | with_reducible exact Hid.out (by assumption) | (with_reducible rw [Hid.out B_x]; (try simp only [pBk]); first | done | with_reducible rfl) | (with_reducible rw [Hid.out B_r]; (try simp only [pBk]); first | done | with_reducible rfl) | (with_reducible rw [Hid.out B_t]; (try simp only [pBk]); first | done | with_reducible rfl))
                have e_r : blk (w7.setCell ⟨u1.heap.size, 24, none⟩ (.slice ao' (st2.2.length + 1) cp')) (w.heap.size + 1) = some (.cells #[.int .i64 0, .int .i64 0, .int .u64 0, .int .i64 0, .int .u64 0, .int .i64 0, .int .u64 0, .int .i64 0, .int .u64 0, .int .i64 0, .int .u64 0, .int .i64 0, .int .i64 0, .slice none 0 0, .slice none 0 0, .slice none 0 0, .slice none 0 0, .int .i64 0, .int .u64 0, .int .i64 0, .int .u64 0, .int .i64 0, .int .u64 0, .slice none 0 0, .slice none 0 0, .int .i64 0] 72 (0, 0)) := by ((try simp (disch := first | omega | (simp; done) | (simp; omega)) only [pBk]); first | done | with_reducible rfl | with_reducible exact Hid.out (by assumption) | (with_reducible rw [Hid.out B_x]; (try simp only [pBk]); first | done | with_reducible rfl) | (with_reducible rw [Hid.out B_r]; (try simp only [pBk]); first | done | with_reducible rfl) | (with_reducible rw [Hid.out B_t]; (try simp only [pBk]); first | done | with_reducible rfl))
                have e_t : blk (w7.setCell ⟨u1.heap.size, 24, none⟩ (.slice ao' (st2.2.length + 1) cp')) (u1.heap.size) = some (.cells #[.int .i64 0, .int .i64 0, .int .u64 1152921504606846976, .int .i64 (1 + h % 3), .int .u64 0, .int .i64 0, .int .u64 4611686018427387904, .int .i64 0, .int .u64 (h * 72057594037927936), .int .i64 0, .int .u64 (h % 4 * 4611686018427387904), .int .i64 (h / 4 % 2), .int .i64 (h / 8 % 2), .slice (some ⟨g, 0, none⟩) n cc, .slice none 0 0, .slice none 0 0, .slice aa n ca, .int .i64 0, .int .u64 0, .int .i64 0, .int .u64 0, .int .i64 0, .int .u64 0, .slice none 0 0, .slice ao' (st2.2.length + 1) cp', .int .i64 0] 72 (0, 0)) := by ((try simp (disch := first | omega | (simp; done) | (simp; omega)) only [pBk]); first | done | with_reducible rfl | with_reducible exact Hid.out (by assumption) | (with_reducible rw [Hid.out B_x]; (try simp only [pBk]); first | done | with_reducible rfl) | (with_reducible rw [Hid.out B_r]; (try simp only [pBk]); first | done | with_reducible rfl) | (with_reducible rw [Hid.out B_t]; (try simp only [pBk]); first | done | with_reducible rfl))
                have hb_ : Below w.heap.size w (w7.setCell ⟨u1.heap.size, 24, none⟩ (.slice ao' (st2.2.length + 1) cp')) := by exact pBl
                generalize (w7.setCell ⟨u1.heap.size, 24, none⟩ (.slice ao' (st2.2.length + 1) cp')) = w8 at *
                (try clear HB); have HB := Lib.hid hb_; clear hb_
                (try clear c_x); (try clear f_x r_x B_x); obtain ⟨c_x, f_x, l_x, r_x, B_x⟩ := blk_all e_x; clear e_x; (try clear c_r); (try clear f_r r_r B_r); obtain ⟨c_r, f_r, l_r, r_r, B_r⟩ := blk_all e_r; clear e_r; (try clear c_t); (try clear f_t r_t B_t); obtain ⟨c_t, f_t, l_t, r_t, B_t⟩ := blk_all e_t; clear e_t
                have nxw8 : ¬ (w.heap.size = w8.heap.size) := by omega
                have nrw8 : ¬ (w.heap.size + 1 = w8.heap.size) := by omega
                have ntw8 : ¬ (u1.heap.size = w8.heap.size) := by omega
                have hRp : R p.1 ∧ R p.2 := addV_R Hp1.out
                have hRq : R qq.1 ∧ R qq.2 := subV_R Hp2.out
                have hsz : wx2.heap.size ≤ w8.heap.size := by omega
                go_wp2_with fail
                have hs' := Hs.out
                subst hs'
                refine ⟨⟨q + 1, _, .slice ao' (st2.2.length + 1) cp', by omega, by omega, by congr 1, ⟨B_x.out, B_r.out, B_t.out, Hb11.out, ?oo, HB.out, hsz, ?ln, ?my, ?fw⟩, Hs2.out⟩, by simp only [intOf]; omega⟩
                case oo =>
                  show w8.ownsRow wx2.heap.size 80 2 _ (st2.2 ++ [(k, q)]).length (pairsL (st2.2 ++ [(k, q)]))
                  rw [pairsL_add, List.length_append]
                  exact Ho11.out
                case ln => show ((st2.1.set q _).set k _).length = n; rw [List.length_set, List.length_set]; exact Hn.out.len
                case my =>
                  intro c hc
                  rcases List.mem_or_eq_of_mem_set hc with h | rfl
                  · rcases List.mem_or_eq_of_mem_set h with h | rfl
                    · exact Hn.out.may c h
                    · exact may_move mb hRp.1 hRp.2
                  · exact may_move ma hRq.1 hRq.2
                case fw => show (st2.2 ++ [(k, q)]).length ≤ _; rw [List.length_append]; simp only [List.length_singleton]; omega
        · have h2' : ¬ ((q : Int) < (n : Int)) := by omega
          obtain rfl : n = q := by omega
          go_wp2_with fail
          refine ⟨⟨k + 1, st2, .slice av2 st2.2.length cv2, h1, by congr 1, ⟨Hat2.out.ex, Hat2.out.er, Hat2.out.et, Hat2.out.ob, Hat2.out.oo, Hat2.out.below, Hat2.out.size, Hat2.out.len, Hat2.out.may, by have := Hat2.out.few; omega⟩, ?ex2⟩, by simp only [intOf]; omega⟩
          case ex2 =>
            have hr := Hrest2.out
            rw [Nat.sub_self] at hr
            exact hr
    · have h1' : ¬ ((k : Int) < (n : Int)) := by omega
      have e_x := Hat.out.ex
      have e_r := Hat.out.er
      have e_t := Hat.out.et
      (try clear c_x); (try clear f_x r_x B_x); obtain ⟨c_x, f_x, l_x, r_x, B_x⟩ := blk_all e_x; clear e_x; (try clear c_r); (try clear f_r r_r B_r); obtain ⟨c_r, f_r, l_r, r_r, B_r⟩ := blk_all e_r; clear e_r; (try clear c_t); (try clear f_t r_t B_t); obtain ⟨c_t, f_t, l_t, r_t, B_t⟩ := blk_all e_t; clear e_t
      have r0_r := row0_blk (Hid.out B_r)
      go_wp2_with fail
      obtain rfl : n = k := by omega
      have hr := Hrest.out
      rw [Nat.sub_self] at hr
      have hst : st = Rf := by injection hr
      subst hst
      refine bodyPost_ret ?rq rfl ⟨_, _, rfl, owns_base (owns_row_far Hat.out.ob (by omega)) (by omega), owns_base (owns_row_far Hat.out.oo (by omega)) (by omega), Below.setRow Hat.out.below (by omega) _⟩
      case rq => exact results_one_touched Try.results29 _ _ _ _ rfl (by simp (maxDischargeDepth := 9) [go_sem, *]; done) rfl
end Go.Proofs.Ytdphhkbbphfjlaa
