/- slices.Clone. Pairs in memory; bodies in the middle of a row; what a step leaves. -/
import Derived.Test.YtdphhkbbphfjlaaCWldE
namespace Go.Proofs.Ytdphhkbbphfjlaa
set_option linter.unusedVariables false
set_option linter.unusedSimpArgs false
open Go.RowKit
attribute [local go_sem] uwrap_lo lo_lo hi_lo val_hl val_00 v4_q
attribute [local go_sem ↓] Go.wp_at_zero Go.wp_at_succ
attribute [local go_sem] nOf_ok nOf_err eOf_ok eOf_err xOf_ok yOf_ok xOf_err yOf_err vecX_ok vecX_err vecX_ok_err hi_z lo_z okB_ok okB_err hitV_some hitV_none hitV_err hitB_some hitB_none hitB_err
attribute [local go_sem ↓] loadRow_body
attribute [local go_sem] rowAt_at rowAt_past rowAt_drew rowAt_far run_load_body row_0_0 row_0_1 row_0_2 row_0_3 row_0_4 row_0_5 row_1_0 row_1_1 row_1_2 row_1_3 row_1_4 row_2_0 row_2_1 row_2_2 row_2_3
attribute [local go_sem ↓] storeRow_body loadVar_body
attribute [local go_sem] run_loadV_body rowAt_same run_store_body row0_at row0_past row0_drew row0_far row0_rowfar rowAt_rowfar setRow_a2 setRow_b2 setRow_alloc cell_setRow_far frozen_setRow_far allOne_nil allOne_int allOne_bool allOne_slice

theorem eqnil_body (w : World) : (binOp .eql 60 (.slice none 0 0) (.slice none 0 0)).run Try.prog w = .ok (.bool true) w := by kernel_rfl
theorem eqown_body (g n cap : Nat) (w : World) : (binOp .eql 60 (.slice (some ⟨g, 0, none⟩) n cap) (.slice none 0 0)).run Try.prog w = .ok (.bool false) w := by kernel_rfl
attribute [local go_sem ↓] eqnil_body eqown_body
set_option maxRecDepth 100000 in
set_option maxHeartbeats 8000000 in
theorem clone_body_nil (w : World) : Calls Try.prog 74 #[.slice none 0 0] w fun e w' => e = .returned (.slice none 0 0) ∧ Below w.heap.size w w' := by
  go_enter Try.func74, Try.ntmps74
  go_wp2_with fail
  refine bodyPost_ret ?r rfl ⟨rfl, ?b⟩
  case r => simp (maxDischargeDepth := 9) [results, Try.results74, go_sem]
  case b => exact Below.refl _ _

set_option maxRecDepth 100000 in
set_option maxHeartbeats 8000000 in
theorem clone_body {B n : Nat} {v : Value} {xs : List Value} (w : World) (hown : w.ownsRow B 28 20 v n xs) (h1 : ∀ x ∈ xs, x.oneCell' = true) (hn : n ≤ 1000) :
    Calls Try.prog 74 #[v] w fun e w' => ∃ v', e = .returned v' ∧ w'.ownsRow w.heap.size 28 20 v' n xs ∧ Below w.heap.size w w' ∧ Hid (v = .slice none 0 0 → v' = .slice none 0 0) := by
  rcases hown.2 with ⟨rfl, rfl⟩ | ⟨g, cap, cur, rfl, hg1, hg2, hg3⟩
  · refine (clone_body_nil w).mono ?_
    rintro e u ⟨rfl, hb⟩
    have hx : xs = [] := List.eq_nil_of_length_eq_zero (by simpa using hown.1)
    subst hx
    exact ⟨_, rfl, World.ownsRow_nil _ _ _ _, hb, Lib.hid fun _ => rfl⟩
  · obtain ⟨i0, hi0, hz0, hz1, hz2⟩ := info_parts infoBody
    have hs1 := hown.1
    have hnews : ∀ j u, xs[j]? = some u → (w.alloc (.cells #[] 28)).cell? ((⟨g, 0, none⟩ : Addr).add j) = some u := fun j u hj => by
      have hlt : j < n * 20 := by rw [← hs1]; exact (List.getElem?_eq_some_iff.1 hj).1
      rw [Addr.add_mid, Nat.zero_add, (hown.alloc _).cellAt j hlt, hj]
    clear hown hg2 hg3
    go_enter Try.func74, Try.ntmps74
    go_wp2_with (at_builtin; refine wpList_append_own_at _ rfl _ _ 60 rfl w.heap.size 28 i0 _ 20 160 Try.underlying60 hi0 hz0 hz1 hz2 rfl (by decide) _ 0 [] rfl (World.ownsRow_made w #[] 0 (Nat.le_refl _) (by decide) rfl) ⟨g, 0, none⟩ n cap xs rfl hs1 hnews h1 ?c3 ?c4 ?c5 ?_)
    case c3 => unfold maxLen; omega
    case c4 => omega
    case c5 => simp
    intro v' w1 hown' hgrow hnl hbk
    have hb1 : Below w.heap.size w w1 := Below.grown ((Below.refl _ _).alloc (Nat.le_refl _) _) hgrow (by show w.heap.size ≤ (w.heap.push _).size; simp) (fun k hk => by have hk2 : w.heap.size = k := (by simpa [Value.ownBlock] using hk); omega)
    (try simp only [List.nil_append, Nat.zero_add] at hown')
    have HO := Lib.hid hown'
    have HB := Lib.hid hb1
    clear hown' hb1 hgrow hnl hbk
    go_wp2_with fail
    refine bodyPost_ret ?r1 rfl ⟨_, rfl, HO.out, HB.out, Lib.hid fun x => by cases x⟩
    case r1 => simp (maxDischargeDepth := 9) [results, Try.results74, go_sem]

theorem eqnil_int (w : World) : (binOp .eql 63 (.slice none 0 0) (.slice none 0 0)).run Try.prog w = .ok (.bool true) w := by kernel_rfl
theorem eqown_int (g n cap : Nat) (w : World) : (binOp .eql 63 (.slice (some ⟨g, 0, none⟩) n cap) (.slice none 0 0)).run Try.prog w = .ok (.bool false) w := by kernel_rfl
attribute [local go_sem ↓] eqnil_int eqown_int
set_option maxRecDepth 100000 in
set_option maxHeartbeats 8000000 in
theorem clone_int_nil (w : World) : Calls Try.prog 77 #[.slice none 0 0] w fun e w' => e = .returned (.slice none 0 0) ∧ Below w.heap.size w w' := by
  go_enter Try.func77, Try.ntmps77
  go_wp2_with fail
  refine bodyPost_ret ?r rfl ⟨rfl, ?b⟩
  case r => simp (maxDischargeDepth := 9) [results, Try.results77, go_sem]
  case b => exact Below.refl _ _

set_option maxRecDepth 100000 in
set_option maxHeartbeats 8000000 in
theorem clone_int {B n : Nat} {v : Value} {xs : List Value} (w : World) (hown : w.ownsRow B 3 1 v n xs) (h1 : ∀ x ∈ xs, x.oneCell' = true) (hn : n ≤ 1000) :
    Calls Try.prog 77 #[v] w fun e w' => ∃ v', e = .returned v' ∧ w'.ownsRow w.heap.size 3 1 v' n xs ∧ Below w.heap.size w w' ∧ Hid (v = .slice none 0 0 → v' = .slice none 0 0) := by
  rcases hown.2 with ⟨rfl, rfl⟩ | ⟨g, cap, cur, rfl, hg1, hg2, hg3⟩
  · refine (clone_int_nil w).mono ?_
    rintro e u ⟨rfl, hb⟩
    have hx : xs = [] := List.eq_nil_of_length_eq_zero (by simpa using hown.1)
    subst hx
    exact ⟨_, rfl, World.ownsRow_nil _ _ _ _, hb, Lib.hid fun _ => rfl⟩
  · obtain ⟨i0, hi0, hz0, hz1, hz2⟩ := info_parts infoInt
    have hs1 := hown.1
    have hnews : ∀ j u, xs[j]? = some u → (w.alloc (.cells #[] 3)).cell? ((⟨g, 0, none⟩ : Addr).add j) = some u := fun j u hj => by
      have hlt : j < n * 1 := by rw [← hs1]; exact (List.getElem?_eq_some_iff.1 hj).1
      rw [Addr.add_mid, Nat.zero_add, (hown.alloc _).cellAt j hlt, hj]
    clear hown hg2 hg3
    go_enter Try.func77, Try.ntmps77
    go_wp2_with (at_builtin; refine wpList_append_own_at _ rfl _ _ 63 rfl w.heap.size 3 i0 _ 1 8 Try.underlying63 hi0 hz0 hz1 hz2 rfl (by decide) _ 0 [] rfl (World.ownsRow_made w #[] 0 (Nat.le_refl _) (by decide) rfl) ⟨g, 0, none⟩ n cap xs rfl hs1 hnews h1 ?c3 ?c4 ?c5 ?_)
    case c3 => unfold maxLen; omega
    case c4 => omega
    case c5 => simp
    intro v' w1 hown' hgrow hnl hbk
    have hb1 : Below w.heap.size w w1 := Below.grown ((Below.refl _ _).alloc (Nat.le_refl _) _) hgrow (by show w.heap.size ≤ (w.heap.push _).size; simp) (fun k hk => by have hk2 : w.heap.size = k := (by simpa [Value.ownBlock] using hk); omega)
    (try simp only [List.nil_append, Nat.zero_add] at hown')
    have HO := Lib.hid hown'
    have HB := Lib.hid hb1
    clear hown' hb1 hgrow hnl hbk
    go_wp2_with fail
    refine bodyPost_ret ?r1 rfl ⟨_, rfl, HO.out, HB.out, Lib.hid fun x => by cases x⟩
    case r1 => simp (maxDischargeDepth := 9) [results, Try.results77, go_sem]

theorem eqnil_tether (w : World) : (binOp .eql 61 (.slice none 0 0) (.slice none 0 0)).run Try.prog w = .ok (.bool true) w := by kernel_rfl
theorem eqown_tether (g n cap : Nat) (w : World) : (binOp .eql 61 (.slice (some ⟨g, 0, none⟩) n cap) (.slice none 0 0)).run Try.prog w = .ok (.bool false) w := by kernel_rfl
attribute [local go_sem ↓] eqnil_tether eqown_tether
set_option maxRecDepth 100000 in
set_option maxHeartbeats 8000000 in
theorem clone_tether_nil (w : World) : Calls Try.prog 75 #[.slice none 0 0] w fun e w' => e = .returned (.slice none 0 0) ∧ Below w.heap.size w w' := by
  go_enter Try.func75, Try.ntmps75
  go_wp2_with fail
  refine bodyPost_ret ?r rfl ⟨rfl, ?b⟩
  case r => simp (maxDischargeDepth := 9) [results, Try.results75, go_sem]
  case b => exact Below.refl _ _

theorem eqnil_rail (w : World) : (binOp .eql 62 (.slice none 0 0) (.slice none 0 0)).run Try.prog w = .ok (.bool true) w := by kernel_rfl
theorem eqown_rail (g n cap : Nat) (w : World) : (binOp .eql 62 (.slice (some ⟨g, 0, none⟩) n cap) (.slice none 0 0)).run Try.prog w = .ok (.bool false) w := by kernel_rfl
attribute [local go_sem ↓] eqnil_rail eqown_rail
set_option maxRecDepth 100000 in
set_option maxHeartbeats 8000000 in
theorem clone_rail_nil (w : World) : Calls Try.prog 76 #[.slice none 0 0] w fun e w' => e = .returned (.slice none 0 0) ∧ Below w.heap.size w w' := by
  go_enter Try.func76, Try.ntmps76
  go_wp2_with fail
  refine bodyPost_ret ?r rfl ⟨rfl, ?b⟩
  case r => simp (maxDischargeDepth := 9) [results, Try.results76, go_sem]
  case b => exact Below.refl _ _

theorem eqnil_event (w : World) : (binOp .eql 64 (.slice none 0 0) (.slice none 0 0)).run Try.prog w = .ok (.bool true) w := by kernel_rfl
theorem eqown_event (g n cap : Nat) (w : World) : (binOp .eql 64 (.slice (some ⟨g, 0, none⟩) n cap) (.slice none 0 0)).run Try.prog w = .ok (.bool false) w := by kernel_rfl
attribute [local go_sem ↓] eqnil_event eqown_event
set_option maxRecDepth 100000 in
set_option maxHeartbeats 8000000 in
theorem clone_event_nil (w : World) : Calls Try.prog 78 #[.slice none 0 0] w fun e w' => e = .returned (.slice none 0 0) ∧ Below w.heap.size w w' := by
  go_enter Try.func78, Try.ntmps78
  go_wp2_with fail
  refine bodyPost_ret ?r rfl ⟨rfl, ?b⟩
  case r => simp (maxDischargeDepth := 9) [results, Try.results78, go_sem]
  case b => exact Below.refl _ _
end Go.Proofs.Ytdphhkbbphfjlaa
namespace Go.Proofs.Ytdphhkbbphfjlaa
set_option linter.unusedVariables false
set_option linter.unusedSimpArgs false
open Go.RowKit
/-- who met, as cells -/
def pairL (p : Nat × Nat) : List Value := [.int .i64 p.1, .int .i64 p.2]
def pairsL (l : List (Nat × Nat)) : List Value := l.flatMap pairL
theorem pairsL_add (l : List (Nat × Nat)) (p : Nat × Nat) : pairsL (l ++ [p]) = pairsL l ++ pairL p := by unfold pairsL; simp
theorem infoPair : (Try.prog.info? 80).map (fun i => (i.zero, i.size, i.bytes)) = some (some (.agg #[.int .i64 0, .int .i64 0]), 2, 16) := by kernel_rfl
/-- one more pair behind those that the call owns -/
theorem run_append_pair {u : World} {B n : Nat} {v : Value} {l : List (Nat × Nat)} {c : Array Value} (p : Nat × Nat) (hc : c.toList = pairL p) (hown : u.ownsRow B 80 2 v n (pairsL l)) (hn : n ≤ 100000) (hB : B ≤ u.heap.size) :
    ∃ v' w', (Builtin.append_ #[68, 68] 68 #[v, .slice (some ⟨u.heap.size, 0, none⟩) 1 1]).run Try.prog (u.alloc (.cells c 80)) = .ok v' w' ∧ w'.ownsRow B 80 2 v' (n + 1) (pairsL (l ++ [p])) ∧ Below B u w' ∧ (u.alloc (.cells c 80)).grownBy w' v.ownBlock := by
  obtain ⟨i0, hi, hz0, hz1, hz2⟩ := info_parts infoPair
  obtain ⟨v', w', h1, h2, h3, h4, h5⟩ := run_append_own_at (P := Try.prog) (u.alloc (.cells c 80)) B 68 68 80 i0 _ 2 16 Try.underlying68 hi hz0 hz1 hz2 rfl (by decide) v n (pairsL l) (hown.alloc _) ⟨u.heap.size, 0, none⟩ 1 1 (pairL p) rfl
    (fun j x hx => by
      rw [Addr.add_mid, Nat.zero_add, blk_cell (blk_new _ rfl), ← Array.getElem?_toList, hc]; exact hx)
    (fun x hx => by
      unfold pairL at hx
      simp only [List.mem_cons, List.not_mem_nil, or_false] at hx
      rcases hx with h | h <;> subst h <;> rfl)
    (by unfold maxLen; omega) (by omega) (by show B ≤ (u.heap.push _).size; simp; omega)
  refine ⟨v', w', h1, by rw [pairsL_add]; exact h2, ?_, h3⟩
  have hb : Below B u (u.alloc (.cells c 80)) := (Below.refl _ _).alloc hB _
  exact Below.grown hb h3 (by show B ≤ (u.heap.push _).size; simp; omega) (fun k hk => (hown.lt k hk).1)
theorem range_below {u u' : World} {g o : Nat} {cs : List Value} (h : u.rangeAt g o cs) (hb : Below u.heap.size u u') (hg : g < u.heap.size) : u'.rangeAt g o cs :=
  fun j v hv => (hb.cell (p := ⟨g, o + j, none⟩) hg).trans (h j v hv)
theorem range_alloc {u : World} {g o : Nat} {cs : List Value} (h : u.rangeAt g o cs) (x : Obj) (hg : g < u.heap.size) : (u.alloc x).rangeAt g o cs :=
  fun j v hv => (((Below.refl u.heap.size u).alloc (Nat.le_refl _) x).cell (p := ⟨g, o + j, none⟩) hg).trans (h j v hv)
/-- a body out of the middle of a row -/
theorem run_load_mid {W : World} {g o : Nat} (b : BodyI) (h : W.rangeAt g o (bodyL b)) :
    (loadRow 28 (.pointer (some ⟨g, o, none⟩))).run Try.prog W = .ok (.agg #[.int .i64 (hi b.mass), .int .u64 (lo b.mass), .int .i64 (hi b.radius), .int .u64 (lo b.radius), .int .i64 (hi b.x), .int .u64 (lo b.x), .int .i64 (hi b.y), .int .u64 (lo b.y), .int .i64 (hi b.px), .int .u64 (lo b.px), .int .i64 (hi b.py), .int .u64 (lo b.py), .int .i64 (hi b.fuel), .int .u64 (lo b.fuel), .int .i64 (hi b.rate), .int .u64 (lo b.rate), .int .i64 (hi b.exh), .int .u64 (lo b.exh), .int .i64 b.thr, .int .i64 b.head]) W := by
  rw [← loadRow_eq]
  exact run_loadAt_mid W g o 28 (bodyL b) _ h Try.underlying28 rfl (by kernel_rfl)
/-- the momentum of one of a list, written anew -/
theorem bodiesL_mom : ∀ (l : List BodyI) (i : Nat) (p q : Int), i < l.length →
    ((((bodiesL l).set (i * 20 + 8) (.int .i64 (hi p))).set (i * 20 + 9) (.int .u64 (lo p))).set (i * 20 + 10) (.int .i64 (hi q))).set (i * 20 + 11) (.int .u64 (lo q)) = bodiesL (l.set i { l.getD i noB with px := p, py := q })
  | [], i, p, q, h => by simp at h
  | b :: l, 0, p, q, _ => by
    rw [bodiesL_cons, List.set_append_left _ _ (by rw [bodyL_length]; omega), List.set_append_left _ _ (by rw [List.length_set, bodyL_length]; omega), List.set_append_left _ _ (by rw [List.length_set, List.length_set, bodyL_length]; omega), List.set_append_left _ _ (by rw [List.length_set, List.length_set, List.length_set, bodyL_length]; omega)]
    show _ = bodiesL ({ b with px := p, py := q } :: l)
    rw [bodiesL_cons]; rfl
  | b :: l, i + 1, p, q, h => by
    rw [bodiesL_cons, List.set_append_right _ _ (by rw [bodyL_length]; omega), List.set_append_right _ _ (by rw [bodyL_length]; omega), List.set_append_right _ _ (by rw [bodyL_length]; omega), List.set_append_right _ _ (by rw [bodyL_length]; omega), bodyL_length,
      show (i + 1) * 20 + 8 - 20 = i * 20 + 8 by omega, show (i + 1) * 20 + 9 - 20 = i * 20 + 9 by omega, show (i + 1) * 20 + 10 - 20 = i * 20 + 10 by omega, show (i + 1) * 20 + 11 - 20 = i * 20 + 11 by omega, bodiesL_mom l i p q (by simpa using h)]
    show _ = bodiesL (b :: l.set i _)
    rw [bodiesL_cons]; rfl
theorem addV_R {a b c d : Int} {p : Int × Int} (h : addV a b c d = .ok p) : R p.1 ∧ R p.2 := by
  rcases GoodV.add a b c d with ⟨q, hq, h1, h2⟩ | hq | hq
  · rw [h] at hq; injection hq with hq; subst hq; exact ⟨h1, h2⟩
  · rw [h] at hq; cases hq
  · rw [h] at hq; cases hq
theorem subV_R {a b c d : Int} {p : Int × Int} (h : subV a b c d = .ok p) : R p.1 ∧ R p.2 := by
  rcases GoodV.sub a b c d with ⟨q, hq, h1, h2⟩ | hq | hq
  · rw [h] at hq; injection hq with hq; subst hq; exact ⟨h1, h2⟩
  · rw [h] at hq; cases hq
  · rw [h] at hq; cases hq
theorem may_move {b : BodyI} (h : MayN b) {p q : Int} (hp : R p) (hq : R q) : MayN { b with px := p, py := q } := ⟨h.mass, h.radius, h.x, h.y, hp, hq, h.fuel⟩
/-- a step that comes to no error, parted -/
theorem step_parts {k : Int} {st s : List BodyI × List (Nat × Nat)} {i j : Nat} (h : stepX k st i j = .ok s) :
    (blowX (st.1.getD i noB) (st.1.getD j noB) k = .ok none ∧ s = st) ∨ ∃ J p q, blowX (st.1.getD i noB) (st.1.getD j noB) k = .ok (some J) ∧ addV (st.1.getD j noB).px (st.1.getD j noB).py J.1 J.2 = .ok p ∧ subV (st.1.getD i noB).px (st.1.getD i noB).py J.1 J.2 = .ok q ∧
      s = ((st.1.set j { st.1.getD j noB with px := p.1, py := p.2 }).set i { st.1.getD i noB with px := q.1, py := q.2 }, st.2 ++ [(i, j)]) := by
  unfold stepX at h
  cases hb : blowX (st.1.getD i noB) (st.1.getD j noB) k with
  | error e => rw [hb, bind_err] at h; cases h
  | ok r =>
    rw [hb, bind_ok] at h
    cases r with
    | none => left; injection h with h; exact ⟨rfl, h.symm⟩
    | some J =>
      right
      cases hp : addV (st.1.getD j noB).px (st.1.getD j noB).py J.1 J.2 with
      | error e => simp only [hp, bind_err] at h; cases h
      | ok p =>
        simp only [hp, bind_ok] at h
        cases hq : subV (st.1.getD i noB).px (st.1.getD i noB).py J.1 J.2 with
        | error e => simp only [hq, bind_err] at h; cases h
        | ok q =>
          simp only [hq, bind_ok] at h
          injection h with h
          exact ⟨J, p, q, rfl, hp, hq, h.symm⟩
theorem cell_alloc_old {u : World} {g o : Nat} (x : Obj) (hg : g < u.heap.size) : (u.alloc x).cell? ⟨g, o, none⟩ = u.cell? ⟨g, o, none⟩ := ((Below.refl u.heap.size u).alloc (Nat.le_refl _) x).cell (p := ⟨g, o, none⟩) hg
theorem range_alloc_iff {u : World} {g o : Nat} {cs : List Value} (x : Obj) (hg : g < u.heap.size) : (u.alloc x).rangeAt g o cs ↔ u.rangeAt g o cs := by
  unfold World.rangeAt
  simp only [cell_alloc_old x hg]
theorem range_drew_iff {u : World} {g o : Nat} {cs : List Value} : u.drew.rangeAt g o cs ↔ u.rangeAt g o cs := Iff.rfl
theorem range_set_iff {u : World} {g o b i : Nat} {x : Value} {cs : List Value} (hg : g ≠ b) : (u.setCell ⟨b, i, none⟩ x).rangeAt g o cs ↔ u.rangeAt g o cs := by
  unfold World.rangeAt
  have h : ∀ j, (u.setCell ⟨b, i, none⟩ x).cell? ⟨g, o + j, none⟩ = u.cell? ⟨g, o + j, none⟩ := fun j => World.cell?_of_block (heap_setCell_other u ⟨b, i, none⟩ g x hg)
  simp only [h]
end Go.Proofs.Ytdphhkbbphfjlaa
