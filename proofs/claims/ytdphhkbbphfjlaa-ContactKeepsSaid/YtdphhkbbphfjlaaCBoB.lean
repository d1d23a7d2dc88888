/- The walk of the reckoner's over. The walk of contact.Over. -/
import Derived.Test.YtdphhkbbphfjlaaCBodyA
import Derived.Test.YtdphhkbbphfjlaaCRg
namespace Go.Proofs.Ytdphhkbbphfjlaa
set_option linter.unusedVariables false
set_option linter.unusedSimpArgs false
open Go.RowKit
attribute [local go_sem] uwrap_lo lo_lo hi_lo val_hl val_00
attribute [local go_sem ↓] Go.wp_at_zero Go.wp_at_succ loadRow_body
attribute [local go_sem] rowAt_at rowAt_past rowAt_drew rowAt_far run_load_body

theorem cmpI_neg {a b : Int} (h : a < b) : decide (cmpI a b < 0) = true := by unfold cmpI; rw [if_pos h]; rfl
theorem cmpI_nn {a b : Int} (h : ¬ a < b) : decide (cmpI a b < 0) = false := by unfold cmpI; rw [if_neg h]; split <;> rfl
theorem eq0_t {a : Int} (h : a = 0) : (a == 0) = true := by rw [h]; rfl
theorem eq0_f {a : Int} (h : ¬ a = 0) : (a == 0) = false := by simp [h]

set_option maxRecDepth 100000 in
set_option maxHeartbeats 8000000 in
theorem reck_over (g : Nat) (E : Int) (a b : BodyI) (dx dy : Int) (w : World) (hg : One w g (.int .i64 E) 101) (ha : MayN a) (hb : MayN b) (hdx : R dx) (hdy : R dy) :
    Calls Try.prog 49 #[.pointer (some ⟨g, 0, none⟩), .agg #[.int .i64 (hi a.mass), .int .u64 (lo a.mass), .int .i64 (hi a.radius), .int .u64 (lo a.radius), .int .i64 (hi a.x), .int .u64 (lo a.x), .int .i64 (hi a.y), .int .u64 (lo a.y), .int .i64 (hi a.px), .int .u64 (lo a.px), .int .i64 (hi a.py), .int .u64 (lo a.py), .int .i64 (hi a.fuel), .int .u64 (lo a.fuel), .int .i64 (hi a.rate), .int .u64 (lo a.rate), .int .i64 (hi a.exh), .int .u64 (lo a.exh), .int .i64 a.thr, .int .i64 a.head], .agg #[.int .i64 (hi b.mass), .int .u64 (lo b.mass), .int .i64 (hi b.radius), .int .u64 (lo b.radius), .int .i64 (hi b.x), .int .u64 (lo b.x), .int .i64 (hi b.y), .int .u64 (lo b.y), .int .i64 (hi b.px), .int .u64 (lo b.px), .int .i64 (hi b.py), .int .u64 (lo b.py), .int .i64 (hi b.fuel), .int .u64 (lo b.fuel), .int .i64 (hi b.rate), .int .u64 (lo b.rate), .int .i64 (hi b.exh), .int .u64 (lo b.exh), .int .i64 b.thr, .int .i64 b.head], .agg #[.int .i64 (hi dx), .int .u64 (lo dx), .int .i64 (hi dy), .int .u64 (lo dy)]] w fun e w' => e = .returned (.bool (ovB E a.radius b.radius dx dy)) ∧ Only g w w' ∧ One w' g (.int .i64 (ovE E a.radius b.radius dx dy)) 101 := by
  have c0 := hg.cell
  have f0 := hg.free
  have lt := hg.lt
  have lt1 : g < w.heap.size + 1 := by omega
  have lt2 : g < w.heap.size + 1 + 1 := by omega
  have lt3 : g < w.heap.size + 1 + 1 + 1 := by omega
  have m1 := MayF.of hdx
  have m2 := MayF.of hdy
  have m3 := MayF.of ha.radius
  have m4 := MayF.of hb.radius
  have mL := MayF.of (R_rN (E := E) (Good.dot dx dy dx dy))
  have mS := MayF.of (R_rN (E := ovE1 E dx dy) (Good.add a.radius b.radius))
  have Hg := Lib.hid hg
  clear hg ha hb hdx hdy
  unfold ovE1 at mS
  unfold ovB ovE ovM ovE2 ovS ovE1 ovL
  go_enter Try.func49, Try.ntmps49
  go_wp2_with (go_at_call 53; refine (reck_dot g E _ _ _ _ _ _ _ _ _ (by exact pOg) (by assumption) (by assumption) (by assumption) (by assumption)).mono ?_; rintro e u1 ⟨rfl, hou1, hgu1⟩; (try simp only [val_hl, val_00] at hgu1); have hzu1 := Only.size hou1; (try simp at hzu1); have hcu1_g := One.cell hgu1; have hfu1_g := One.free hgu1; have hlu1_g := One.lt hgu1; have hqu1_g : g ≤ u1.heap.size := Nat.le_of_lt hlu1_g; have hqu1_h : g < u1.heap.size + 1 := Nat.lt_succ_of_lt hlu1_g; have hsu1_w : w.heap.size ≤ u1.heap.size := (by omega); have hcu1_w_0 : ∀ o, u1.cell? ⟨w.heap.size, o, none⟩ = _ := fun o => Only.cell hou1 (b := w.heap.size) pSd pSd o; have hfu1_w_0 : ∀ o, u1.frozen? ⟨w.heap.size, o, none⟩ = _ := fun o => Only.frozen hou1 (b := w.heap.size) pSd pSd o; have hsu1_w_0 : w.heap.size < u1.heap.size := (by omega); have hcu1_w_1 : ∀ o, u1.cell? ⟨w.heap.size + 1, o, none⟩ = _ := fun o => Only.cell hou1 (b := w.heap.size + 1) pSd pSd o; have hfu1_w_1 : ∀ o, u1.frozen? ⟨w.heap.size + 1, o, none⟩ = _ := fun o => Only.frozen hou1 (b := w.heap.size + 1) pSd pSd o; have hsu1_w_1 : w.heap.size + 1 < u1.heap.size := (by omega); have hcu1_w_2 : ∀ o, u1.cell? ⟨w.heap.size + 1 + 1, o, none⟩ = _ := fun o => Only.cell hou1 (b := w.heap.size + 1 + 1) pSd pSd o; have hfu1_w_2 : ∀ o, u1.frozen? ⟨w.heap.size + 1 + 1, o, none⟩ = _ := fun o => Only.frozen hou1 (b := w.heap.size + 1 + 1) pSd pSd o; have hsu1_w_2 : w.heap.size + 1 + 1 < u1.heap.size := (by omega); have Hou1 := Lib.hid hou1; have Hgu1 := Lib.hid hgu1; clear hou1 hgu1)
  go_wp2_with (go_at_call 56; refine (reck_fix_Add g (rE E (dotX dx dy dx dy)) _ _ _ _ _ (by exact pOg) (by assumption) (by assumption)).mono ?_; rintro e u2 ⟨rfl, hou2, hgu2⟩; (try simp only [val_hl, val_00] at hgu2); have hzu2 := Only.size hou2; (try simp at hzu2); have hcu2_g := One.cell hgu2; have hfu2_g := One.free hgu2; have hlu2_g := One.lt hgu2; have hqu2_g : g ≤ u2.heap.size := Nat.le_of_lt hlu2_g; have hqu2_h : g < u2.heap.size + 1 := Nat.lt_succ_of_lt hlu2_g; have hsu2_w : w.heap.size ≤ u2.heap.size := (by omega); have hcu2_w_0 : ∀ o, u2.cell? ⟨w.heap.size, o, none⟩ = _ := fun o => Only.cell hou2 (b := w.heap.size) pSd pSd o; have hfu2_w_0 : ∀ o, u2.frozen? ⟨w.heap.size, o, none⟩ = _ := fun o => Only.frozen hou2 (b := w.heap.size) pSd pSd o; have hsu2_w_0 : w.heap.size < u2.heap.size := (by omega); have hcu2_w_1 : ∀ o, u2.cell? ⟨w.heap.size + 1, o, none⟩ = _ := fun o => Only.cell hou2 (b := w.heap.size + 1) pSd pSd o; have hfu2_w_1 : ∀ o, u2.frozen? ⟨w.heap.size + 1, o, none⟩ = _ := fun o => Only.frozen hou2 (b := w.heap.size + 1) pSd pSd o; have hsu2_w_1 : w.heap.size + 1 < u2.heap.size := (by omega); have hcu2_w_2 : ∀ o, u2.cell? ⟨w.heap.size + 1 + 1, o, none⟩ = _ := fun o => Only.cell hou2 (b := w.heap.size + 1 + 1) pSd pSd o; have hfu2_w_2 : ∀ o, u2.frozen? ⟨w.heap.size + 1 + 1, o, none⟩ = _ := fun o => Only.frozen hou2 (b := w.heap.size + 1 + 1) pSd pSd o; have hsu2_w_2 : w.heap.size + 1 + 1 < u2.heap.size := (by omega); have hsu2_u1 : u1.heap.size ≤ u2.heap.size := (by omega); have hcu2_u1_0 : ∀ o, u2.cell? ⟨u1.heap.size, o, none⟩ = _ := fun o => Only.cell hou2 (b := u1.heap.size) pSd pSd o; have hfu2_u1_0 : ∀ o, u2.frozen? ⟨u1.heap.size, o, none⟩ = _ := fun o => Only.frozen hou2 (b := u1.heap.size) pSd pSd o; have hsu2_u1_0 : u1.heap.size < u2.heap.size := (by omega); have Hou2 := Lib.hid hou2; have Hgu2 := Lib.hid hgu2; clear hou2 hgu2)
  by_cases hL : rN E (dotX dx dy dx dy) < rN (rE (rE E (dotX dx dy dx dy)) (addX a.radius b.radius)) (mulX (rN (rE E (dotX dx dy dx dy)) (addX a.radius b.radius)) (rN (rE E (dotX dx dy dx dy)) (addX a.radius b.radius)))
  · have hd := cmpI_neg hL
    have hL' := decide_eq_true hL
    clear hL
    refine wp_region_G (fun w' => w'.cell? ⟨u1.heap.size, 0, none⟩ = some (.int .i64 (hi (rN E (dotX dx dy dx dy)))) ∧ w'.cell? ⟨u1.heap.size, 1, none⟩ = some (.int .u64 (lo (rN E (dotX dx dy dx dy)))) ∧ w'.cell? ⟨u2.heap.size, 0, none⟩ = some (.int .i64 (hi (rN (rE E (dotX dx dy dx dy)) (addX a.radius b.radius)))) ∧ w'.cell? ⟨u2.heap.size, 1, none⟩ = some (.int .u64 (lo (rN (rE E (dotX dx dy dx dy)) (addX a.radius b.radius))))) 7 (by kernel_rfl) ?_ (fun hHeld => ?_)
    · exact pKp
    refine Gw.tk 0 rfl ?_
    (try simp only [pLy])
    refine Gw.tk 1 rfl ?_
    (try simp only [pLy])
    refine Gw.tk 2 rfl ?_
    (try simp only [pLy])
    refine Gw.tk 3 rfl ?_
    (try simp only [pLy])
    refine Gw.one (i := 4) rfl (by kernel_rfl) (fun K hK => ?_)
    go_simp
    (go_at_call 56; refine (reck_fix_Mul g (rE (rE E (dotX dx dy dx dy)) (addX a.radius b.radius)) _ _ _ _ _ (by exact pOg) (by assumption) (by assumption)).mono ?_; rintro e u3 ⟨rfl, hou3, hgu3⟩; (try simp only [val_hl, val_00] at hgu3); have hzu3 := Only.size hou3; (try simp at hzu3); have hcu3_g := One.cell hgu3; have hfu3_g := One.free hgu3; have hlu3_g := One.lt hgu3; have hqu3_g : g ≤ u3.heap.size := Nat.le_of_lt hlu3_g; have hqu3_h : g < u3.heap.size + 1 := Nat.lt_succ_of_lt hlu3_g; have hsu3_u1 : u1.heap.size ≤ u3.heap.size := (by omega); have hcu3_u1_0 : ∀ o, u3.cell? ⟨u1.heap.size, o, none⟩ = _ := fun o => Only.cell hou3 (b := u1.heap.size) pSd pSd o; have hfu3_u1_0 : ∀ o, u3.frozen? ⟨u1.heap.size, o, none⟩ = _ := fun o => Only.frozen hou3 (b := u1.heap.size) pSd pSd o; have hsu3_u1_0 : u1.heap.size < u3.heap.size := (by omega); have hsu3_u2 : u2.heap.size ≤ u3.heap.size := (by omega); have hcu3_u2_0 : ∀ o, u3.cell? ⟨u2.heap.size, o, none⟩ = _ := fun o => Only.cell hou3 (b := u2.heap.size) pSd pSd o; have hfu3_u2_0 : ∀ o, u3.frozen? ⟨u2.heap.size, o, none⟩ = _ := fun o => Only.frozen hou3 (b := u2.heap.size) pSd pSd o; have hsu3_u2_0 : u2.heap.size < u3.heap.size := (by omega); have Hou3 := Lib.hid hou3; have Hgu3 := Lib.hid hgu3; clear hou3 hgu3)
    (try go_wp2_with fail)
    refine hK.out _ _ ?_ (fun hHeld => ?_)
    · exact pKp
    clear hK K
    (try simp only [pLy])
    refine Gw.one (i := 5) rfl (by kernel_rfl) (fun K hK => ?_)
    go_simp
    (go_at_call 55; refine (fix_Cmp _ _ _ _ _ (W64_lo _) (W64_lo _)).mono ?_; rintro e u4 ⟨rfl, hbu4⟩; have hzu4 := hbu4.size; (try simp at hzu4); obtain ⟨hcu4_g, hfu4_g⟩ := pBc hbu4 (b := g) pSd; have hsu4_g : g < u4.heap.size := (by omega); have hsu4_u1 : u1.heap.size ≤ u4.heap.size := (by omega); obtain ⟨hcu4_u1_0, hfu4_u1_0⟩ := pBc hbu4 (b := u1.heap.size) pSd; have hsu4_u1_0 : u1.heap.size < u4.heap.size := (by omega); have hsu4_u2 : u2.heap.size ≤ u4.heap.size := (by omega); obtain ⟨hcu4_u2_0, hfu4_u2_0⟩ := pBc hbu4 (b := u2.heap.size) pSd; have hsu4_u2_0 : u2.heap.size < u4.heap.size := (by omega); have Hu4 := Lib.hid hbu4; clear hbu4)
    (try go_wp2_with fail)
    refine hK.out _ _ ?_ (fun hHeld => ?_)
    · exact pKp
    clear hK K
    (try simp only [pLy])
    refine Gw.tk 6 rfl ?_
    (try simp only [pLy])
    refine Gw.last (i := 7) rfl (by kernel_rfl) (by decide) (fun K hK => ?_)
    go_simp
    refine hK.out _ _ ?_
    clear hK K
    (try simp only [pLy])
    refine Gw.last (i := 8) rfl (by kernel_rfl) (by decide) (fun K hK => ?_)
    go_simp
    refine hK.out _ _ ?_
    clear hK K
    (try simp only [pLy])
    refine Gw.last (i := 9) rfl (by kernel_rfl) (by decide) (fun K hK => ?_)
    go_simp
    refine hK.out _ _ ?_
    clear hK K
    (try simp only [pLy])
    refine Gw.last (i := 10) rfl (by kernel_rfl) (by decide) (fun K hK => ?_)
    go_simp
    refine hK.out _ _ ?_
    clear hK K
    (try simp only [pLy])
    refine Gw.last (i := 11) rfl (by kernel_rfl) (by decide) (fun K hK => ?_)
    go_simp
    refine hK.out _ _ ?_
    clear hK K
    (try simp only [pLy])
    refine Gw.last (i := 12) rfl (by kernel_rfl) (by decide) (fun K hK => ?_)
    go_simp
    refine hK.out _ _ ?_
    clear hK K
    (try simp only [pLy])
    refine Gw.last (i := 13) rfl (by kernel_rfl) (by decide) (fun K hK => ?_)
    go_simp
    refine hK.out _ _ ?_
    clear hK K
    (try simp only [pLy])
    refine Gw.last (i := 14) rfl (by kernel_rfl) (by decide) (fun K hK => ?_)
    go_simp
    refine hK.out _ _ ?_
    clear hK K
    (try simp only [pLy])
    refine Gw.done (by kernel_rfl) ?_ _
    all_goals go_wp2
    all_goals refine bodyPost_ret ?rr rfl ⟨rfl, ?bb, ?cc⟩
    case rr => (simp (maxDischargeDepth := 9) [results, Try.results49, go_sem, *, hi_z, lo_z])
    case bb => exact pOn
    case cc => exact pOg
  · have hd := cmpI_nn hL
    have hL' := decide_eq_false hL
    clear hL
    refine wp_region_G (fun w' => w'.cell? ⟨u1.heap.size, 0, none⟩ = some (.int .i64 (hi (rN E (dotX dx dy dx dy)))) ∧ w'.cell? ⟨u1.heap.size, 1, none⟩ = some (.int .u64 (lo (rN E (dotX dx dy dx dy)))) ∧ w'.cell? ⟨u2.heap.size, 0, none⟩ = some (.int .i64 (hi (rN (rE E (dotX dx dy dx dy)) (addX a.radius b.radius)))) ∧ w'.cell? ⟨u2.heap.size, 1, none⟩ = some (.int .u64 (lo (rN (rE E (dotX dx dy dx dy)) (addX a.radius b.radius))))) 7 (by kernel_rfl) ?_ (fun hHeld => ?_)
    · exact pKp
    refine Gw.tk 0 rfl ?_
    (try simp only [pLy])
    refine Gw.tk 1 rfl ?_
    (try simp only [pLy])
    refine Gw.tk 2 rfl ?_
    (try simp only [pLy])
    refine Gw.tk 3 rfl ?_
    (try simp only [pLy])
    refine Gw.one (i := 4) rfl (by kernel_rfl) (fun K hK => ?_)
    go_simp
    (go_at_call 56; refine (reck_fix_Mul g (rE (rE E (dotX dx dy dx dy)) (addX a.radius b.radius)) _ _ _ _ _ (by exact pOg) (by assumption) (by assumption)).mono ?_; rintro e u3 ⟨rfl, hou3, hgu3⟩; (try simp only [val_hl, val_00] at hgu3); have hzu3 := Only.size hou3; (try simp at hzu3); have hcu3_g := One.cell hgu3; have hfu3_g := One.free hgu3; have hlu3_g := One.lt hgu3; have hqu3_g : g ≤ u3.heap.size := Nat.le_of_lt hlu3_g; have hqu3_h : g < u3.heap.size + 1 := Nat.lt_succ_of_lt hlu3_g; have hsu3_u1 : u1.heap.size ≤ u3.heap.size := (by omega); have hcu3_u1_0 : ∀ o, u3.cell? ⟨u1.heap.size, o, none⟩ = _ := fun o => Only.cell hou3 (b := u1.heap.size) pSd pSd o; have hfu3_u1_0 : ∀ o, u3.frozen? ⟨u1.heap.size, o, none⟩ = _ := fun o => Only.frozen hou3 (b := u1.heap.size) pSd pSd o; have hsu3_u1_0 : u1.heap.size < u3.heap.size := (by omega); have hsu3_u2 : u2.heap.size ≤ u3.heap.size := (by omega); have hcu3_u2_0 : ∀ o, u3.cell? ⟨u2.heap.size, o, none⟩ = _ := fun o => Only.cell hou3 (b := u2.heap.size) pSd pSd o; have hfu3_u2_0 : ∀ o, u3.frozen? ⟨u2.heap.size, o, none⟩ = _ := fun o => Only.frozen hou3 (b := u2.heap.size) pSd pSd o; have hsu3_u2_0 : u2.heap.size < u3.heap.size := (by omega); have Hou3 := Lib.hid hou3; have Hgu3 := Lib.hid hgu3; clear hou3 hgu3)
    (try go_wp2_with fail)
    refine hK.out _ _ ?_ (fun hHeld => ?_)
    · exact pKp
    clear hK K
    (try simp only [pLy])
    refine Gw.one (i := 5) rfl (by kernel_rfl) (fun K hK => ?_)
    go_simp
    (go_at_call 55; refine (fix_Cmp _ _ _ _ _ (W64_lo _) (W64_lo _)).mono ?_; rintro e u4 ⟨rfl, hbu4⟩; have hzu4 := hbu4.size; (try simp at hzu4); obtain ⟨hcu4_g, hfu4_g⟩ := pBc hbu4 (b := g) pSd; have hsu4_g : g < u4.heap.size := (by omega); have hsu4_u1 : u1.heap.size ≤ u4.heap.size := (by omega); obtain ⟨hcu4_u1_0, hfu4_u1_0⟩ := pBc hbu4 (b := u1.heap.size) pSd; have hsu4_u1_0 : u1.heap.size < u4.heap.size := (by omega); have hsu4_u2 : u2.heap.size ≤ u4.heap.size := (by omega); obtain ⟨hcu4_u2_0, hfu4_u2_0⟩ := pBc hbu4 (b := u2.heap.size) pSd; have hsu4_u2_0 : u2.heap.size < u4.heap.size := (by omega); have Hu4 := Lib.hid hbu4; clear hbu4)
    (try go_wp2_with fail)
    refine hK.out _ _ ?_ (fun hHeld => ?_)
    · exact pKp
    clear hK K
    (try simp only [pLy])
    refine Gw.tk 6 rfl ?_
    (try simp only [pLy])
    refine Gw.last (i := 7) rfl (by kernel_rfl) (by decide) (fun K hK => ?_)
    go_simp
    refine hK.out _ _ ?_
    clear hK K
    (try simp only [pLy])
    refine Gw.last (i := 8) rfl (by kernel_rfl) (by decide) (fun K hK => ?_)
    go_simp
    refine hK.out _ _ ?_
    clear hK K
    (try simp only [pLy])
    refine Gw.last (i := 9) rfl (by kernel_rfl) (by decide) (fun K hK => ?_)
    go_simp
    refine hK.out _ _ ?_
    clear hK K
    (try simp only [pLy])
    refine Gw.last (i := 10) rfl (by kernel_rfl) (by decide) (fun K hK => ?_)
    go_simp
    refine hK.out _ _ ?_
    clear hK K
    (try simp only [pLy])
    refine Gw.last (i := 11) rfl (by kernel_rfl) (by decide) (fun K hK => ?_)
    go_simp
    refine hK.out _ _ ?_
    clear hK K
    (try simp only [pLy])
    refine Gw.last (i := 12) rfl (by kernel_rfl) (by decide) (fun K hK => ?_)
    go_simp
    refine hK.out _ _ ?_
    clear hK K
    (try simp only [pLy])
    refine Gw.last (i := 13) rfl (by kernel_rfl) (by decide) (fun K hK => ?_)
    go_simp
    refine hK.out _ _ ?_
    clear hK K
    (try simp only [pLy])
    refine Gw.last (i := 14) rfl (by kernel_rfl) (by decide) (fun K hK => ?_)
    go_simp
    refine hK.out _ _ ?_
    clear hK K
    (try simp only [pLy])
    refine Gw.done (by kernel_rfl) ?_ _
    all_goals go_wp2
    all_goals refine bodyPost_ret ?rr rfl ⟨rfl, ?bb, ?cc⟩
    case rr => (simp (maxDischargeDepth := 9) [results, Try.results49, go_sem, *, hi_z, lo_z])
    case bb => exact pOn
    case cc => exact pOg
end Go.Proofs.Ytdphhkbbphfjlaa
namespace Go.Proofs.Ytdphhkbbphfjlaa
set_option linter.unusedVariables false
set_option linter.unusedSimpArgs false
open Go.RowKit
attribute [local go_sem] uwrap_lo lo_lo hi_lo val_hl val_00
attribute [local go_sem ↓] Go.wp_at_zero Go.wp_at_succ loadRow_body
attribute [local go_sem] rowAt_at rowAt_past rowAt_drew rowAt_far run_load_body

theorem One.new_ {w : World} {g : Nat} (v : Value) (t : TypeId) (h : g = w.heap.size) : One (w.alloc (.cells #[v] t)) g v t := by subst h; exact One.new w v t
def overB (a b : BodyI) : Bool := ovB (rE 0 (subV b.x b.y a.x a.y)) a.radius b.radius (rX 0 (subV b.x b.y a.x a.y)) (rY 0 (subV b.x b.y a.x a.y))
def overE (a b : BodyI) : Int := ovE (rE 0 (subV b.x b.y a.x a.y)) a.radius b.radius (rX 0 (subV b.x b.y a.x a.y)) (rY 0 (subV b.x b.y a.x a.y))

set_option maxRecDepth 100000 in
set_option maxHeartbeats 8000000 in
theorem contact_Over (a b : BodyI) (w : World) (ha : MayN a) (hb : MayN b) :
    Calls Try.prog 17 #[.agg #[.int .i64 (hi a.mass), .int .u64 (lo a.mass), .int .i64 (hi a.radius), .int .u64 (lo a.radius), .int .i64 (hi a.x), .int .u64 (lo a.x), .int .i64 (hi a.y), .int .u64 (lo a.y), .int .i64 (hi a.px), .int .u64 (lo a.px), .int .i64 (hi a.py), .int .u64 (lo a.py), .int .i64 (hi a.fuel), .int .u64 (lo a.fuel), .int .i64 (hi a.rate), .int .u64 (lo a.rate), .int .i64 (hi a.exh), .int .u64 (lo a.exh), .int .i64 a.thr, .int .i64 a.head], .agg #[.int .i64 (hi b.mass), .int .u64 (lo b.mass), .int .i64 (hi b.radius), .int .u64 (lo b.radius), .int .i64 (hi b.x), .int .u64 (lo b.x), .int .i64 (hi b.y), .int .u64 (lo b.y), .int .i64 (hi b.px), .int .u64 (lo b.px), .int .i64 (hi b.py), .int .u64 (lo b.py), .int .i64 (hi b.fuel), .int .u64 (lo b.fuel), .int .i64 (hi b.rate), .int .u64 (lo b.rate), .int .i64 (hi b.exh), .int .u64 (lo b.exh), .int .i64 b.thr, .int .i64 b.head]] w fun e w' => e = .returned (.tuple #[.bool (overB a b), .int .i64 (overE a b)]) ∧ Below w.heap.size w w' := by
  have m1 := MayF.of ha.x
  have m2 := MayF.of ha.y
  have m3 := MayF.of hb.x
  have m4 := MayF.of hb.y
  have hA := Lib.hid ha
  have hB := Lib.hid hb
  clear ha hb
  go_enter Try.func17, Try.ntmps17
  unfold overB overE
  go_wp2_with (go_at_call 47; refine (reck_vec_Sub (w.heap.size + 1 + 1) 0 _ _ _ _ _ _ _ _ _ (by first | exact One.new_ _ _ (by simp) | exact pOg) (by assumption) (by assumption) (by assumption) (by assumption)).mono ?_; rintro e u1 ⟨rfl, hou1, hgu1⟩; (try simp only [val_hl, val_00] at hgu1); have hzu1 := Only.size hou1; (try simp at hzu1); have hcu1_g := One.cell hgu1; have hfu1_g := One.free hgu1; have hlu1_g := One.lt hgu1; have hqu1_g : (w.heap.size + 1 + 1) ≤ u1.heap.size := Nat.le_of_lt hlu1_g; have hqu1_h : (w.heap.size + 1 + 1) < u1.heap.size + 1 := Nat.lt_succ_of_lt hlu1_g; have hsu1_w : w.heap.size ≤ u1.heap.size := (by omega); have hcu1_w_0 : ∀ o, u1.cell? ⟨w.heap.size, o, none⟩ = _ := fun o => Only.cell hou1 (b := w.heap.size) pSd pSd o; have hfu1_w_0 : ∀ o, u1.frozen? ⟨w.heap.size, o, none⟩ = _ := fun o => Only.frozen hou1 (b := w.heap.size) pSd pSd o; have hsu1_w_0 : w.heap.size < u1.heap.size := (by omega); have hru1_w_0 : rowAt u1 (w.heap.size) = _ := rowAt_only hou1 pSd pSd; (try (rw [rowAt_past _ _ (by first  | omega | (simp; done) | (simp; omega))] at hru1_w_0)); (try (rw [rowAt_past _ _ (by first  | omega | (simp; done) | (simp; omega))] at hru1_w_0)); (try (rw [rowAt_past _ _ (by first  | omega | (simp; done) | (simp; omega))] at hru1_w_0)); (try (rw [rowAt_at _ _ _ _ (by first  | omega | (simp; done) | (simp; omega))] at hru1_w_0)); have hcu1_w_1 : ∀ o, u1.cell? ⟨w.heap.size + 1, o, none⟩ = _ := fun o => Only.cell hou1 (b := w.heap.size + 1) pSd pSd o; have hfu1_w_1 : ∀ o, u1.frozen? ⟨w.heap.size + 1, o, none⟩ = _ := fun o => Only.frozen hou1 (b := w.heap.size + 1) pSd pSd o; have hsu1_w_1 : w.heap.size + 1 < u1.heap.size := (by omega); have hru1_w_1 : rowAt u1 (w.heap.size + 1) = _ := rowAt_only hou1 pSd pSd; (try (rw [rowAt_past _ _ (by first  | omega | (simp; done) | (simp; omega))] at hru1_w_1)); (try (rw [rowAt_past _ _ (by first  | omega | (simp; done) | (simp; omega))] at hru1_w_1)); (try (rw [rowAt_past _ _ (by first  | omega | (simp; done) | (simp; omega))] at hru1_w_1)); (try (rw [rowAt_at _ _ _ _ (by first  | omega | (simp; done) | (simp; omega))] at hru1_w_1)); have Hou1 := Lib.hid hou1; have Hgu1 := Lib.hid hgu1; clear hou1 hgu1)
  go_wp2_with (go_at_call 49; refine (reck_over (w.heap.size + 1 + 1) (rE 0 (subV b.x b.y a.x a.y)) _ _ _ _ _ (by exact pOg) (Hid.out hA) (Hid.out hB) (R_rX (GoodV.sub _ _ _ _)) (R_rY (GoodV.sub _ _ _ _))).mono ?_; rintro e u2 ⟨rfl, hou2, hgu2⟩; (try simp only [val_hl, val_00] at hgu2); have hzu2 := Only.size hou2; (try simp at hzu2); have hcu2_g := One.cell hgu2; have hfu2_g := One.free hgu2; have hlu2_g := One.lt hgu2; have hqu2_g : (w.heap.size + 1 + 1) ≤ u2.heap.size := Nat.le_of_lt hlu2_g; have hqu2_h : (w.heap.size + 1 + 1) < u2.heap.size + 1 := Nat.lt_succ_of_lt hlu2_g; have hsu2_w : w.heap.size ≤ u2.heap.size := (by omega); have hcu2_w_0 : ∀ o, u2.cell? ⟨w.heap.size, o, none⟩ = _ := fun o => Only.cell hou2 (b := w.heap.size) pSd pSd o; have hfu2_w_0 : ∀ o, u2.frozen? ⟨w.heap.size, o, none⟩ = _ := fun o => Only.frozen hou2 (b := w.heap.size) pSd pSd o; have hsu2_w_0 : w.heap.size < u2.heap.size := (by omega); have hcu2_w_1 : ∀ o, u2.cell? ⟨w.heap.size + 1, o, none⟩ = _ := fun o => Only.cell hou2 (b := w.heap.size + 1) pSd pSd o; have hfu2_w_1 : ∀ o, u2.frozen? ⟨w.heap.size + 1, o, none⟩ = _ := fun o => Only.frozen hou2 (b := w.heap.size + 1) pSd pSd o; have hsu2_w_1 : w.heap.size + 1 < u2.heap.size := (by omega); have hsu2_u1 : u1.heap.size ≤ u2.heap.size := (by omega); have hcu2_u1_0 : ∀ o, u2.cell? ⟨u1.heap.size, o, none⟩ = _ := fun o => Only.cell hou2 (b := u1.heap.size) pSd pSd o; have hfu2_u1_0 : ∀ o, u2.frozen? ⟨u1.heap.size, o, none⟩ = _ := fun o => Only.frozen hou2 (b := u1.heap.size) pSd pSd o; have hsu2_u1_0 : u1.heap.size < u2.heap.size := (by omega); have Hou2 := Lib.hid hou2; have Hgu2 := Lib.hid hgu2; clear hou2 hgu2)
  go_region
  all_goals go_wp2
  all_goals refine bodyPost_ret ?rr rfl ⟨rfl, ?bb⟩
  case rr => (simp (maxDischargeDepth := 9) [results, Try.results17, go_sem, *, hi_z, lo_z])
  case bb => exact pBr
end Go.Proofs.Ytdphhkbbphfjlaa
