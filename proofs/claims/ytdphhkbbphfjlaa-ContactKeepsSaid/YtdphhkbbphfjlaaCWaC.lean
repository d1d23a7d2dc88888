/- The walk of l9.Bodies. A world by a number, of no bodies. -/
import Derived.Test.YtdphhkbbphfjlaaCWaA
import Derived.OwnWalk
import Derived.Outline
namespace Go.Proofs.Ytdphhkbbphfjlaa
set_option linter.unusedVariables false
set_option linter.unusedSimpArgs false
open Go.RowKit
attribute [local go_sem] uwrap_lo lo_lo hi_lo val_hl val_00 v4_q
attribute [local go_sem ↓] Go.wp_at_zero Go.wp_at_succ
attribute [local go_sem] nOf_ok nOf_err eOf_ok eOf_err xOf_ok yOf_ok xOf_err yOf_err vecX_ok vecX_err vecX_ok_err hi_z lo_z okB_ok okB_err hitV_some hitV_none hitV_err hitB_some hitB_none hitB_err
attribute [local go_sem ↓] loadRow_body
attribute [local go_sem] rowAt_at rowAt_past rowAt_drew rowAt_far run_load_body row_0_0 row_0_1 row_0_2 row_0_3 row_0_4 row_0_5 row_1_0 row_1_1 row_1_2 row_1_3 row_1_4 row_2_0 row_2_1 row_2_2 row_2_3
attribute [local go_sem ↓] storeRow_body loadVar_body
attribute [local go_sem] run_loadV_body rowAt_same run_store_body row0_at row0_past row0_drew row0_far row0_rowfar rowAt_rowfar setRow_a2 setRow_b2 setRow_alloc cell_setRow_far frozen_setRow_far allOne_nil allOne_int allOne_bool allOne_slice
theorem info28 : (Try.prog.info? 28).map (fun i => (i.size, i.bytes)) = some (20, 160) := by kernel_rfl
set_option maxRecDepth 100000 in
set_option maxHeartbeats 8000000 in
theorem l9_Bodies (ad : Option Addr) (b off len cap : Nat) (zs : List Int) (m : Nat) (w : World) (had : 4 ≤ len → ad = some ⟨b, off, none⟩ ∧ b < w.heap.size ∧ ∀ i, i < len → w.cell? ⟨b, off + i, none⟩ = some (.int .u8 (zs.getD i 0))) (hr : ∀ i, 0 ≤ zs.getD i 0 ∧ zs.getD i 0 ≤ 255)
    (hlen : len ≤ 9223372036854775807) (hm : m ≤ 32) (n : Nat) (hn1 : n ≤ m) (hn2 : 4 * n ≤ len) (hn3 : n = m ∨ len < 4 * n + 4) :
    Calls Try.prog 73 #[.slice ad len cap, .int .i64 m] w fun e w' => ∃ v, e = .returned v ∧ w'.ownsRow w.heap.size 28 20 v n (bodiesL (bodiesN zs n)) ∧ Below w.heap.size w w' ∧ Hid (n = 0 → v = .slice none 0 0) := by
  have Had := Lib.hid had
  clear had
  go_enter Try.func73, Try.ntmps73
  go_wp2_with fail
  go_loopw [5, 6] (fun v i wr => ∃ k : Nat, k ≤ n ∧ i = .int .i64 (4 * k : Int) ∧ wr.ownsRow w.heap.size 28 20 v k (bodiesL (bodiesN zs k)) ∧ Below w.heap.size w wr ∧ (k = 0 → v = .slice none 0 0)) (fun _ i _ => len + 4 - (intOf i).toNat)
  case atStart => exact ⟨0, Nat.zero_le _, rfl, World.ownsRow_nil _ _ _ _, Below.refl _ _, fun _ => rfl⟩
  case round =>
    obtain ⟨k, hk, rfl, hown, hbel, hnil⟩ := hrel
    obtain ⟨ao, cp, rfl⟩ := owns_form hown
    have Hown := Lib.hid hown
    have Hnil := Lib.hid hnil
    clear hown hnil
    by_cases h1 : 4 * k + 3 < len
    · by_cases h2 : k < m
      · have h1' : (4 * (k : Int) + 3 < (len : Int)) := by omega
        have h2' : ((k : Int) < (m : Int)) := by omega
        obtain ⟨rfl, hb, hcell⟩ := Had.out (by omega)
        have t0 : (4 * (k : Int)).toNat = 4 * k := by omega
        have t1 : (4 * (k : Int) + 1).toNat = 4 * k + 1 := by omega
        have t2 : (4 * (k : Int) + 2).toNat = 4 * k + 2 := by omega
        have t3 : (4 * (k : Int) + 3).toNat = 4 * k + 3 := by omega
        obtain ⟨z0, y0⟩ : ∃ z, z = zs.getD (4 * k) 0 := ⟨_, rfl⟩
        have hc0 : wr.cell? ⟨b, off + 4 * k, none⟩ = some (.int .u8 z0) := by rw [y0]; exact (hbel.cell (by exact hb)).trans (hcell _ (by omega))
        have g0 : 0 ≤ z0 ∧ z0 ≤ 255 := by rw [y0]; exact hr _
        have Y0 := Lib.hid y0
        clear y0
        obtain ⟨z1, y1⟩ : ∃ z, z = zs.getD (4 * k + 1) 0 := ⟨_, rfl⟩
        have hc1 : wr.cell? ⟨b, off + (4 * k + 1), none⟩ = some (.int .u8 z1) := by rw [y1]; exact (hbel.cell (by exact hb)).trans (hcell _ (by omega))
        have g1 : 0 ≤ z1 ∧ z1 ≤ 255 := by rw [y1]; exact hr _
        have Y1 := Lib.hid y1
        clear y1
        obtain ⟨z2, y2⟩ : ∃ z, z = zs.getD (4 * k + 2) 0 := ⟨_, rfl⟩
        have hc2 : wr.cell? ⟨b, off + (4 * k + 2), none⟩ = some (.int .u8 z2) := by rw [y2]; exact (hbel.cell (by exact hb)).trans (hcell _ (by omega))
        have g2 : 0 ≤ z2 ∧ z2 ≤ 255 := by rw [y2]; exact hr _
        have Y2 := Lib.hid y2
        clear y2
        obtain ⟨z3, y3⟩ : ∃ z, z = zs.getD (4 * k + 3) 0 := ⟨_, rfl⟩
        have hc3 : wr.cell? ⟨b, off + (4 * k + 3), none⟩ = some (.int .u8 z3) := by rw [y3]; exact (hbel.cell (by exact hb)).trans (hcell _ (by omega))
        have g3 : 0 ≤ z3 ∧ z3 ≤ 255 := by rw [y3]; exact hr _
        have Y3 := Lib.hid y3
        clear y3
        have v0 : 0 ≤ 4 * (k : Int) ∧ 4 * (k : Int) < (len : Int) := by omega
        have v1 : 0 ≤ 4 * (k : Int) + 1 ∧ 4 * (k : Int) + 1 < (len : Int) := by omega
        have v2 : 0 ≤ 4 * (k : Int) + 2 ∧ 4 * (k : Int) + 2 < (len : Int) := by omega
        have v3 : 0 ≤ 4 * (k : Int) + 3 ∧ 4 * (k : Int) + 3 < (len : Int) := by omega
        have x1 : IntKind.i64.wrap (4 * (k : Int) + 1) = 4 * (k : Int) + 1 := by rw [IntKind.wrap_i64]; omega
        have x2 : IntKind.i64.wrap (4 * (k : Int) + 2) = 4 * (k : Int) + 2 := by rw [IntKind.wrap_i64]; omega
        have x3 : IntKind.i64.wrap (4 * (k : Int) + 3) = 4 * (k : Int) + 3 := by rw [IntKind.wrap_i64]; omega
        have hbw : b < wr.heap.size := by have := hbel.size; omega
        have Hbel := Lib.hid hbel
        clear hbel hcell hr
        go_wp2_with fail
        refine wp_region_G (fun w' => w'.cell? ⟨b, off + 4 * k, none⟩ = some (.int .u8 z0) ∧ w'.cell? ⟨b, off + (4 * k + 1), none⟩ = some (.int .u8 z1) ∧ w'.cell? ⟨b, off + (4 * k + 2), none⟩ = some (.int .u8 z2) ∧ w'.cell? ⟨b, off + (4 * k + 3), none⟩ = some (.int .u8 z3)) 22 (by kernel_rfl) ?_ (fun hHeld => ?_)
        · exact pKp
        refine Gw.tk 0 rfl ?_
        (try simp only [pLy])
        refine Gw.tk 1 rfl ?_
        (try simp only [pLy])
        refine Gw.tk 2 rfl ?_
        (try simp only [pLy])
        refine Gw.tk 3 rfl ?_
        (try simp only [pLy])
        refine Gw.tk 4 rfl ?_
        (try simp only [pLy])
        refine Gw.tk 5 rfl ?_
        (try simp only [pLy])
        refine Gw.tk 6 rfl ?_
        (try simp only [pLy])
        refine Gw.tk 7 rfl ?_
        (try simp only [pLy])
        refine Gw.tk 8 rfl ?_
        (try simp only [pLy])
        refine Gw.tk 9 rfl ?_
        (try simp only [pLy])
        refine Gw.tk 10 rfl ?_
        (try simp only [pLy])
        refine Gw.tk 11 rfl ?_
        (try simp only [pLy])
        refine Gw.tk 12 rfl ?_
        (try simp only [pLy])
        refine Gw.tk 13 rfl ?_
        (try simp only [pLy])
        refine Gw.tk 14 rfl ?_
        (try simp only [pLy])
        refine Gw.tk 15 rfl ?_
        (try simp only [pLy])
        refine Gw.tk 16 rfl ?_
        (try simp only [pLy])
        refine Gw.tk 17 rfl ?_
        (try simp only [pLy])
        refine Gw.tk 18 rfl ?_
        (try simp only [pLy])
        refine Gw.tk 19 rfl ?_
        (try simp only [pLy])
        refine Gw.one (i := 20) rfl (by kernel_rfl) (fun K hK => ?_)
        go_simp
        (go_at_call 119; refine (l9_Body z0 z1 z2 z3 _ (by exact g0) (by exact g1) (by exact g2) (by exact g3)).mono ?_; rintro e u1 ⟨rfl, hbu1⟩; have hzu1 := hbu1.size; (try simp at hzu1); obtain ⟨hcu1_b, hfu1_b⟩ := pBc hbu1 (b := b) pSd; have hsu1_b : b < u1.heap.size := (by omega); have Hu1 := Lib.hid hbu1; clear hbu1)
        (try go_wp2_with fail)
        refine hK.out _ _ ?_ (fun hHeld2 => ?_)
        · exact pKp
        (try clear hHeld); have hHeld := hHeld2; clear hHeld2
        clear hK K
        (try simp only [pLy])
        refine Gw.one (i := 21) rfl (by kernel_rfl) (fun K hK => ?_)
        go_simp
        skip
        (try go_wp2_with fail)
        refine hK.out _ _ ?_ (fun hHeld2 => ?_)
        · exact pKp
        (try clear hHeld); have hHeld := hHeld2; clear hHeld2
        clear hK K
        (try simp only [pLy])
        obtain ⟨v', w1, hrun, hown', hb1⟩ := run_append_body (u := u1) (B := w.heap.size) (c := #[.int .i64 (1 + z2 % 9), .int .u64 0, .int .i64 (z3 % 3), .int .u64 4611686018427387904, .int .i64 (z0 - 128), .int .u64 (z1 * 72057594037927936), .int .i64 (z1 - 128), .int .u64 (z2 * 1099511627776), .int .i64 (z3 % 7 - 3), .int .u64 z0, .int .i64 (z2 % 5 - 2), .int .u64 (z3 % 16 * 1152921504606846976), .int .i64 0, .int .u64 (z3 * 1125899906842624), .int .i64 0, .int .u64 (z0 * 1125899906842624), .int .i64 (z1 % 4), .int .u64 0, .int .i64 0, .int .i64 (z3 * 257)]) (bodyN z0 z1 z2 z3) (bodyN_cells g0 g1 g2 g3) (owns_below (w := wr.drew) Hown.out Hu1.out) (by omega) (by have := Hbel.out.size; omega)
        have HO := Lib.hid hown'
        have HB1 := Lib.hid hb1
        clear hown' hb1
        refine Gw.last (i := 22) rfl (by kernel_rfl) (by decide) (fun K hK => ?_)
        rw [if_pos (by rfl)]
        refine wp_append_run rfl rfl rfl hrun ?_
        refine hK.out _ _ ?_
        clear hK K
        (try simp only [pLy])
        refine Gw.last (i := 23) rfl (by kernel_rfl) (by decide) (fun K hK => ?_)
        go_simp
        refine hK.out _ _ ?_
        clear hK K
        (try simp only [pLy])
        refine Gw.done (by kernel_rfl) ?_ _
        clear hrun hHeld
        go_wp2_with fail
        have e : bodiesN zs k ++ [bodyN z0 z1 z2 z3] = bodiesN zs (k + 1) := by rw [bodiesN_succ, Y0.out, Y1.out, Y2.out, Y3.out]
        refine ⟨⟨k + 1, by omega, by congr 1, by rw [← e]; exact HO.out, ?_, fun h => by omega⟩, ?_⟩
        · exact (Hbel.out.drew.trans (Below.mono Hu1.out (by have := Hbel.out.size; exact this))).trans HB1.out
        · simp only [intOf]; omega
      · have h1' : (4 * (k : Int) + 3 < (len : Int)) := by omega
        have h2' : ¬ ((k : Int) < (m : Int)) := by omega
        go_wp2_with fail
        obtain rfl : n = k := by omega
        refine bodyPost_ret ?r1 rfl ⟨_, rfl, Hown.out, hbel, Hnil⟩
        case r1 => simp (maxDischargeDepth := 9) [results, Try.results73, go_sem]
    · have h1' : ¬ (4 * (k : Int) + 3 < (len : Int)) := by omega
      go_wp2_with fail
      obtain rfl : n = k := by omega
      refine bodyPost_ret ?r2 rfl ⟨_, rfl, Hown.out, hbel, Hnil⟩
      case r2 => simp (maxDischargeDepth := 9) [results, Try.results73, go_sem]
end Go.Proofs.Ytdphhkbbphfjlaa
namespace Go.Proofs.Ytdphhkbbphfjlaa
set_option linter.unusedVariables false
set_option linter.unusedSimpArgs false
open Go.RowKit
attribute [local go_sem] uwrap_lo lo_lo hi_lo val_hl val_00 v4_q
attribute [local go_sem ↓] Go.wp_at_zero Go.wp_at_succ
attribute [local go_sem] nOf_ok nOf_err eOf_ok eOf_err xOf_ok yOf_ok xOf_err yOf_err vecX_ok vecX_err vecX_ok_err hi_z lo_z okB_ok okB_err hitV_some hitV_none hitV_err hitB_some hitB_none hitB_err
attribute [local go_sem ↓] loadRow_body
attribute [local go_sem] rowAt_at rowAt_past rowAt_drew rowAt_far run_load_body row_0_0 row_0_1 row_0_2 row_0_3 row_0_4 row_0_5 row_1_0 row_1_1 row_1_2 row_1_3 row_1_4 row_2_0 row_2_1 row_2_2 row_2_3
attribute [local go_sem ↓] storeRow_body loadVar_body
attribute [local go_sem] run_loadV_body rowAt_same run_store_body row0_at row0_past row0_drew row0_far row0_rowfar rowAt_rowfar setRow_a2 setRow_b2 setRow_alloc cell_setRow_far frozen_setRow_far allOne_nil allOne_int allOne_bool allOne_slice
theorem loadRow_world (v : Value) : Instr.loadAt 66 v = loadRow 66 v := loadRow_eq _ _
theorem run_load_world {w : World} (b : Nat) (h : (rowAt w b).size = 24) :
    (loadRow 66 (.pointer (some ⟨b, 0, none⟩))).run Try.prog w = .ok (.agg (rowAt w b)) w :=
  run_loadRow Try.prog _ b 24 (by decide) (by kernel_rfl) (by kernel_rfl) h
theorem storeRow_world (p v : Value) : Instr.storeAt 66 p v = storeRow 66 p v := storeRow_eq _ _ _
theorem run_store_world {w : World} (b : Nat) (cs : Array Value) (h : (row0 w b).size = 24) (hc : cs.size = 24) (h1 : allOne cs = true) :
    (storeRow 66 (.pointer (some ⟨b, 0, none⟩)) (.agg cs)).run Try.prog w = .ok () (w.setRow b cs) :=
  run_storeRow Try.prog _ b 24 cs (by decide) (by kernel_rfl) h hc (fun v hv => by unfold allOne at h1; exact List.all_eq_true.1 h1 v hv)
theorem loadVar_world (a : Addr) : loadVar 66 a = loadRowV 66 a := by unfold loadRowV; rfl
theorem run_loadV_world {w : World} (b : Nat) (h : (rowAt w b).size = 24) :
    (loadRowV 66 ⟨b, 0, none⟩).run Try.prog w = .ok (.agg (rowAt w b)) w :=
  run_loadRowV Try.prog _ b 24 (by decide) (by kernel_rfl) (by kernel_rfl) h
/-- one world as the result -/
theorem results_one_world {fn : Func} {p : Tmp} (h : fn.results = #[.cell p 66]) (tmps : Array Value) (w : World) (g1 : Nat) (c1 : Array Value)
    (hp : tmps.getD p undef = .pointer (some ⟨g1, 0, none⟩)) (e1 : rowAt w g1 = c1) (s1 : c1.size = 24) :
    (results fn tmps).run Try.prog w = .ok (.agg c1) w := by
  have hp' : tmps[p]?.getD undef = .pointer (some ⟨g1, 0, none⟩) := by simpa using hp
  have l1 := run_loadV_world (w := w) g1 (by rw [e1]; exact s1)
  rw [← loadVar_world, e1] at l1
  simp [results, h, hp', asAddr, l1]
attribute [local go_sem ↓] loadRow_world storeRow_world loadVar_world
attribute [local go_sem] run_load_world run_store_world run_loadV_world
set_option maxRecDepth 100000 in
set_option maxHeartbeats 8000000 in
theorem l9_Bodies_nil (w : World) :
    Calls Try.prog 73 #[.slice none 0 0, .int .i64 0] w fun e w' => e = .returned (.slice none 0 0) ∧ Below w.heap.size w w' := by
  go_enter Try.func73, Try.ntmps73
  go_wp2_with fail
  refine wp_loop_rounds 1 ?_
  rw [rounds_succ]
  go_wp2_with fail
  refine bodyPost_ret ?r rfl ⟨rfl, ?b⟩
  case r => simp (maxDischargeDepth := 9) [results, Try.results73, go_sem]
  case b => exact pBl
set_option maxRecDepth 100000 in
set_option maxHeartbeats 8000000 in
theorem l11_World_nil (h : Int) (w : World) (hh : 0 ≤ h ∧ h ≤ 255) :
    Calls Try.prog 72 #[.slice none 0 0, .int .i64 0, .int .u8 h] w fun e w' => e = .returned (.agg #[.int .i64 0, .int .i64 0, .int .u64 1152921504606846976, .int .i64 (1 + h % 3), .int .u64 0, .int .i64 0, .int .u64 4611686018427387904, .int .i64 0, .int .u64 (h * 72057594037927936), .int .i64 0, .int .u64 (h % 4 * 4611686018427387904), .int .i64 (h / 4 % 2), .int .i64 (h / 8 % 2), .slice none 0 0, .slice none 0 0, .slice none 0 0, .slice none 0 0, .int .i64 0, .int .u64 0, .int .i64 0, .int .u64 0, .int .i64 0, .int .u64 0, .slice none 0 0]) ∧ Below w.heap.size w w' := by
  have l0 : lo h = h := by unfold lo; omega
  have l1 : lo (h * 72057594037927936) = h * 72057594037927936 := by unfold lo; omega
  have l2 : lo (h % 4) = h % 4 := by unfold lo; omega
  have l3 : lo (h % 4 * 4611686018427387904) = h % 4 * 4611686018427387904 := by unfold lo; omega
  have t1 : Int.tmod h 3 = h % 3 := Int.tmod_eq_emod_of_nonneg hh.1
  have t2 : Int.tmod h 4 = h % 4 := Int.tmod_eq_emod_of_nonneg hh.1
  have t3 : Int.tdiv h 4 = h / 4 := Int.tdiv_eq_ediv_of_nonneg hh.1
  have t4 : Int.tdiv h 8 = h / 8 := Int.tdiv_eq_ediv_of_nonneg hh.1
  have t5 : Int.tmod (h / 4) 2 = h / 4 % 2 := Int.tmod_eq_emod_of_nonneg (by omega)
  have t6 : Int.tmod (h / 8) 2 = h / 8 % 2 := Int.tmod_eq_emod_of_nonneg (by omega)
  have w0 : wrap64 (h) = h := by unfold wrap64; omega
  have w1 : wrap64 (h % 3) = h % 3 := by unfold wrap64; omega
  have w2 : wrap64 (1 + h % 3) = 1 + h % 3 := by unfold wrap64; omega
  have w3 : wrap64 (h / 4) = h / 4 := by unfold wrap64; omega
  have w4 : wrap64 (h / 8) = h / 8 := by unfold wrap64; omega
  have w5 : wrap64 (h / 4 % 2) = h / 4 % 2 := by unfold wrap64; omega
  have w6 : wrap64 (h / 8 % 2) = h / 8 % 2 := by unfold wrap64; omega
  go_enter Try.func72, Try.ntmps72
  go_upto_region 2 with (go_at_call 15; refine (r1_Int _ _ (by omega)).mono ?_; rintro e u1 ⟨rfl, ho⟩; have hzu1 := Below.size ho; (try simp at hzu1); have HB2 : Hid (Below w.heap.size w u1) := Lib.hid (Below.trans (by exact pBl) (Below.mono ho pSd)); (try clear HB); have HB := HB2; clear HB2; have B2 := blk_below (g := w.heap.size) ho pSd; (try simp (disch := first | omega | (simp; done) | (simp; omega)) only [pBk] at B2); (try rw [Hid.out B_z] at B2); (try simp only [pBk] at B2); (try clear c_z f_z r_z B_z); obtain ⟨c_z, f_z, l_u1_z, r_z, B_z⟩ := blk_all B2; clear B2; clear ho)
  have e_z : blk (u1.alloc (.cells #[.int .i64 0, .int .i64 0, .int .u64 1152921504606846976, .int .i64 (1 + h % 3), .int .u64 0, .int .i64 0, .int .u64 4611686018427387904, .int .i64 0, .int .u64 (h * 72057594037927936), .int .i64 0, .int .u64 (h % 4 * 4611686018427387904), .int .i64 (h / 4 % 2), .int .i64 (h / 8 % 2), .slice none 0 0, .slice none 0 0, .slice none 0 0, .slice none 0 0, .int .i64 0, .int .u64 0, .int .i64 0, .int .u64 0, .int .i64 0, .int .u64 0, .slice none 0 0] 66)) (w.heap.size) = some (.cells #[.int .i64 0, .int .i64 0, .int .u64 0, .int .i64 0, .int .u64 0, .int .i64 0, .int .u64 0, .int .i64 0, .int .u64 0, .int .i64 0, .int .u64 0, .int .i64 0, .int .i64 0, .slice none 0 0, .slice none 0 0, .slice none 0 0, .slice none 0 0, .int .i64 0, .int .u64 0, .int .i64 0, .int .u64 0, .int .i64 0, .int .u64 0, .slice none 0 0] 66 (0, 0)) := by ((try simp (disch := first | omega | (simp; done) | (simp; omega)) only [pBk]); first | done | with_reducible rfl | with_reducible exact Hid.out (by assumption) | (with_reducible rw [Hid.out B_z]; (try simp only [pBk]); first | done | with_reducible rfl))
  have e_y : blk (u1.alloc (.cells #[.int .i64 0, .int .i64 0, .int .u64 1152921504606846976, .int .i64 (1 + h % 3), .int .u64 0, .int .i64 0, .int .u64 4611686018427387904, .int .i64 0, .int .u64 (h * 72057594037927936), .int .i64 0, .int .u64 (h % 4 * 4611686018427387904), .int .i64 (h / 4 % 2), .int .i64 (h / 8 % 2), .slice none 0 0, .slice none 0 0, .slice none 0 0, .slice none 0 0, .int .i64 0, .int .u64 0, .int .i64 0, .int .u64 0, .int .i64 0, .int .u64 0, .slice none 0 0] 66)) (u1.heap.size) = some (.cells #[.int .i64 0, .int .i64 0, .int .u64 1152921504606846976, .int .i64 (1 + h % 3), .int .u64 0, .int .i64 0, .int .u64 4611686018427387904, .int .i64 0, .int .u64 (h * 72057594037927936), .int .i64 0, .int .u64 (h % 4 * 4611686018427387904), .int .i64 (h / 4 % 2), .int .i64 (h / 8 % 2), .slice none 0 0, .slice none 0 0, .slice none 0 0, .slice none 0 0, .int .i64 0, .int .u64 0, .int .i64 0, .int .u64 0, .int .i64 0, .int .u64 0, .slice none 0 0] 66 (0, 0)) := by ((try simp (disch := first | omega | (simp; done) | (simp; omega)) only [pBk]); first | done | with_reducible rfl | with_reducible exact Hid.out (by assumption) | (with_reducible rw [Hid.out B_z]; (try simp only [pBk]); first | done | with_reducible rfl))
  have hb_ : Below w.heap.size w (u1.alloc (.cells #[.int .i64 0, .int .i64 0, .int .u64 1152921504606846976, .int .i64 (1 + h % 3), .int .u64 0, .int .i64 0, .int .u64 4611686018427387904, .int .i64 0, .int .u64 (h * 72057594037927936), .int .i64 0, .int .u64 (h % 4 * 4611686018427387904), .int .i64 (h / 4 % 2), .int .i64 (h / 8 % 2), .slice none 0 0, .slice none 0 0, .slice none 0 0, .slice none 0 0, .int .i64 0, .int .u64 0, .int .i64 0, .int .u64 0, .int .i64 0, .int .u64 0, .slice none 0 0] 66)) := by exact pBl
  have hLB : u1.heap.size + 1 ≤ (u1.alloc (.cells #[.int .i64 0, .int .i64 0, .int .u64 1152921504606846976, .int .i64 (1 + h % 3), .int .u64 0, .int .i64 0, .int .u64 4611686018427387904, .int .i64 0, .int .u64 (h * 72057594037927936), .int .i64 0, .int .u64 (h % 4 * 4611686018427387904), .int .i64 (h / 4 % 2), .int .i64 (h / 8 % 2), .slice none 0 0, .slice none 0 0, .slice none 0 0, .slice none 0 0, .int .i64 0, .int .u64 0, .int .i64 0, .int .u64 0, .int .i64 0, .int .u64 0, .slice none 0 0] 66)).heap.size := by simp
  generalize (u1.alloc (.cells #[.int .i64 0, .int .i64 0, .int .u64 1152921504606846976, .int .i64 (1 + h % 3), .int .u64 0, .int .i64 0, .int .u64 4611686018427387904, .int .i64 0, .int .u64 (h * 72057594037927936), .int .i64 0, .int .u64 (h % 4 * 4611686018427387904), .int .i64 (h / 4 % 2), .int .i64 (h / 8 % 2), .slice none 0 0, .slice none 0 0, .slice none 0 0, .slice none 0 0, .int .i64 0, .int .u64 0, .int .i64 0, .int .u64 0, .int .i64 0, .int .u64 0, .slice none 0 0] 66)) = wx1 at *
  (try clear HB); have HB := Lib.hid hb_; clear hb_
  (try clear c_z); (try clear f_z r_z B_z); obtain ⟨c_z, f_z, l_z, r_z, B_z⟩ := blk_all e_z; clear e_z; (try clear c_y); (try clear f_y r_y B_y); obtain ⟨c_y, f_y, l_y, r_y, B_y⟩ := blk_all e_y; clear e_y
  have nzwx1 : ¬ (w.heap.size = wx1.heap.size) := by omega
  have nywx1 : ¬ (u1.heap.size = wx1.heap.size) := by omega
  go_upto_region 3 with (go_at_call 73; refine (l9_Bodies_nil _).mono ?_; rintro e u2 ⟨rfl, ho⟩; have hzu2 := Below.size ho; (try simp at hzu2); have HB2 : Hid (Below w.heap.size w u2) := Lib.hid (Below.trans (by exact pBl) (Below.mono ho pSd)); (try clear HB); have HB := HB2; clear HB2; have B2 := blk_below (g := w.heap.size) ho pSd; (try simp (disch := first | omega | (simp; done) | (simp; omega)) only [pBk] at B2); (try rw [Hid.out B_z] at B2); (try simp only [pBk] at B2); (try clear c_z f_z r_z B_z); obtain ⟨c_z, f_z, l_u2_z, r_z, B_z⟩ := blk_all B2; clear B2; have B2 := blk_below (g := u1.heap.size) ho pSd; (try simp (disch := first | omega | (simp; done) | (simp; omega)) only [pBk] at B2); (try rw [Hid.out B_y] at B2); (try simp only [pBk] at B2); (try clear c_y f_y r_y B_y); obtain ⟨c_y, f_y, l_u2_y, r_y, B_y⟩ := blk_all B2; clear B2; clear ho)
  have e_z : blk (u2.setCell ⟨u1.heap.size, 13, none⟩ (.slice none 0 0)) (w.heap.size) = some (.cells #[.int .i64 0, .int .i64 0, .int .u64 0, .int .i64 0, .int .u64 0, .int .i64 0, .int .u64 0, .int .i64 0, .int .u64 0, .int .i64 0, .int .u64 0, .int .i64 0, .int .i64 0, .slice none 0 0, .slice none 0 0, .slice none 0 0, .slice none 0 0, .int .i64 0, .int .u64 0, .int .i64 0, .int .u64 0, .int .i64 0, .int .u64 0, .slice none 0 0] 66 (0, 0)) := by ((try simp (disch := first | omega | (simp; done) | (simp; omega)) only [pBk]); first | done | with_reducible rfl | with_reducible exact Hid.out (by assumption) | (with_reducible rw [Hid.out B_z]; (try simp only [pBk]); first | done | with_reducible rfl) | (with_reducible rw [Hid.out B_y]; (try simp only [pBk]); first | done | with_reducible rfl))
  have e_y : blk (u2.setCell ⟨u1.heap.size, 13, none⟩ (.slice none 0 0)) (u1.heap.size) = some (.cells #[.int .i64 0, .int .i64 0, .int .u64 1152921504606846976, .int .i64 (1 + h % 3), .int .u64 0, .int .i64 0, .int .u64 4611686018427387904, .int .i64 0, .int .u64 (h * 72057594037927936), .int .i64 0, .int .u64 (h % 4 * 4611686018427387904), .int .i64 (h / 4 % 2), .int .i64 (h / 8 % 2), .slice none 0 0, .slice none 0 0, .slice none 0 0, .slice none 0 0, .int .i64 0, .int .u64 0, .int .i64 0, .int .u64 0, .int .i64 0, .int .u64 0, .slice none 0 0] 66 (0, 0)) := by ((try simp (disch := first | omega | (simp; done) | (simp; omega)) only [pBk]); first | done | with_reducible rfl | with_reducible exact Hid.out (by assumption) | (with_reducible rw [Hid.out B_z]; (try simp only [pBk]); first | done | with_reducible rfl) | (with_reducible rw [Hid.out B_y]; (try simp only [pBk]); first | done | with_reducible rfl))
  have hb_ : Below w.heap.size w (u2.setCell ⟨u1.heap.size, 13, none⟩ (.slice none 0 0)) := by exact pBl
  generalize (u2.setCell ⟨u1.heap.size, 13, none⟩ (.slice none 0 0)) = wx2 at *
  (try clear HB); have HB := Lib.hid hb_; clear hb_
  (try clear c_z); (try clear f_z r_z B_z); obtain ⟨c_z, f_z, l_z, r_z, B_z⟩ := blk_all e_z; clear e_z; (try clear c_y); (try clear f_y r_y B_y); obtain ⟨c_y, f_y, l_y, r_y, B_y⟩ := blk_all e_y; clear e_y
  have nzwx2 : ¬ (w.heap.size = wx2.heap.size) := by omega
  have nywx2 : ¬ (u1.heap.size = wx2.heap.size) := by omega
  go_wp2_with fail
  refine wp_loop_rounds 1 ?_
  rw [rounds_succ]
  have r0_z := row0_blk (Hid.out B_z)
  go_wp2_with fail
  refine bodyPost_ret ?r rfl ⟨rfl, ?b⟩
  case r => exact results_one_world Try.results72 _ _ _ _ rfl (by simp (maxDischargeDepth := 9) [go_sem, *]; done) rfl
  case b => (repeat (first | with_reducible exact Below.refl _ _ | (with_reducible refine Below.setRow ?_ (by first | omega | (simp; omega)) _) | (with_reducible refine Below.drew ?_) | with_reducible exact Hid.out (by assumption)))
end Go.Proofs.Ytdphhkbbphfjlaa
