/- l17.pairs of two lists that are one; r10.With. -/
import Derived.Test.YtdphhkbbphfjlaaCWldI
namespace Go.Proofs.Ytdphhkbbphfjlaa
set_option linter.unusedVariables false
set_option linter.unusedSimpArgs false
open Go.RowKit
attribute [local go_sem] uwrap_lo lo_lo hi_lo val_hl val_00 v4_q
attribute [local go_sem ↓] Go.wp_at_zero Go.wp_at_succ
attribute [local go_sem] nOf_ok nOf_err eOf_ok eOf_err xOf_ok yOf_ok xOf_err yOf_err vecX_ok vecX_err vecX_ok_err hi_z lo_z okB_ok okB_err hitV_some hitV_none hitV_err hitB_some hitB_none hitB_err
attribute [local go_sem ↓] loadRow_body
attribute [local go_sem] rowAt_at rowAt_past rowAt_drew rowAt_far run_load_body row_0_0 row_0_1 row_0_2 row_0_3 row_0_4 row_0_5 row_1_0 row_1_1 row_1_2 row_1_3 row_1_4 row_2_0 row_2_1 row_2_2 row_2_3
attribute [local go_sem ↓] storeRow_body loadVar_body
attribute [local go_sem] run_loadV_body rowAt_same run_store_body row0_at row0_past row0_drew row0_far row0_rowfar rowAt_rowfar setRow_a2 setRow_b2 setRow_alloc cell_setRow_far frozen_setRow_far allOne_nil allOne_int allOne_bool allOne_slice
attribute [local go_sem ↓] loadRow_world storeRow_world loadVar_world
attribute [local go_sem] run_load_world run_store_world run_loadV_world range_alloc_iff range_drew_iff range_set_iff
theorem pairL_length (p : Nat × Nat) : (pairL p).length = 2 := rfl
theorem run_load_pair {W : World} {g o : Nat} (p : Nat × Nat) (h : W.rangeAt g o (pairL p)) : (Instr.loadAt 80 (.pointer (some ⟨g, o, none⟩))).run Try.prog W = .ok (.agg #[.int .i64 p.1, .int .i64 p.2]) W :=
  run_loadAt_mid W g o 80 (pairL p) _ h Try.underlying80 rfl (by kernel_rfl)
theorem run_eq_pair (w : World) (a b : Int) : (Op.equalIn 10000 80 (.agg #[.int .i64 a, .int .i64 b]) (.agg #[.int .i64 a, .int .i64 b])).run Try.prog w = .ok true w := by
  show (Op.equalIn (9998 + 1 + 1) 80 (.agg #[.int .i64 a, .int .i64 b]) (.agg #[.int .i64 a, .int .i64 b])).run Try.prog w = .ok true w
  have hi : Try.prog.underlying 3 = some (.int .i64) := Try.underlying3
  have e1 : ∀ x y : Int, (Op.equalIn (9998 + 1) 3 (.int .i64 x) (.int .i64 y)).run Try.prog w = .ok (x == y) w := fun x y => run_equalIn_int w _ _ _ _ _ _ hi
  rw [Op.equalIn]
  simp only [Sem.run_bind, run_underlying Try.underlying80, Result.andThen_ok]
  obtain ⟨i0, hi0, hz0, hz1, hz2⟩ := info_parts infoInt
  have hs : (sizeOf 3).run Try.prog w = .ok 1 w := by simp [sizeOf, typeInfo, hi0, hz1]
  simp only [hs, Result.andThen_ok, Std.Legacy.Range.forIn_eq_forIn_range', Std.Legacy.Range.size]
  have p0 : (part 3 #[Value.int .i64 a, .int .i64 b] 0).run Try.prog w = .ok (.int .i64 a) w := by simp [part, isAgg, run_underlying hi]
  have p1 : (part 3 #[Value.int .i64 a, .int .i64 b] 1).run Try.prog w = .ok (.int .i64 b) w := by simp [part, isAgg, run_underlying hi]
  simp [List.range', List.forIn_cons, p0, p1, e1]
attribute [local go_sem] run_eq_pair
set_option maxRecDepth 100000 in
set_option maxHeartbeats 8000000 in
theorem l17_pairs (va vb : Value) (n : Nat) (l : List (Nat × Nat)) (w : World) (ha : Reads w 2 va n (pairsL l)) (hb : Reads w 2 vb n (pairsL l)) (hl : l.length = n) (hn : n ≤ 100000) :
    Calls Try.prog 31 #[va, vb] w fun e w' => e = .returned (.bool true) ∧ Below w.heap.size w w' := by
  obtain ⟨aa, ca, rfl⟩ := ha.form
  obtain ⟨ab, cb, rfl⟩ := hb.form
  have Ha := Lib.hid ha
  have Hb := Lib.hid hb
  have Hl := Lib.hid hl
  clear ha hb hl
  go_enter Try.func31, Try.ntmps31
  go_wp2_with fail
  go_loopw [5] (fun i wr => ∃ k : Nat, k ≤ n ∧ i = .int .i64 (k : Int) ∧ Below w.heap.size w wr) (fun i _ => n - (intOf i).toNat)
  case atStart => exact ⟨0, Nat.zero_le _, rfl, Below.refl _ _⟩
  case round =>
    obtain ⟨k, hk, rfl, hbel⟩ := hrel
    have HB := Lib.hid hbel
    clear hbel
    by_cases h1 : k < n
    · have h1' : ((k : Int) < (n : Int)) := by omega
      have v0 : 0 ≤ (k : Int) ∧ (k : Int) < (n : Int) := by omega
      obtain ⟨g1, o1, c1, e1, r1⟩ := (Ha.out.below (by omega) HB.out).at pairL_length (0, 0) Hl.out k h1
      obtain ⟨g2, o2, c2, e2, r2⟩ := (Hb.out.below (by omega) HB.out).at pairL_length (0, 0) Hl.out k h1
      injection e1 with e1 _ e1'
      injection e2 with e2 _ e2'
      subst e1 e1' e2 e2'
      obtain ⟨p, hp⟩ : ∃ p, l.getD k (0, 0) = p := ⟨_, rfl⟩
      rw [hp] at r1 r2
      have Hp := Lib.hid hp
      clear hp
      have a10 := r1 0 _ rfl
      have a11 := r1 1 _ rfl
      have a20 := r2 0 _ rfl
      have a21 := r2 1 _ rfl
      simp only [Nat.add_zero] at a10 a20
      clear r1 r2
      go_upto_region 6 with fail
      go_region
      go_wp2_with fail
      exact ⟨⟨k + 1, by omega, by congr 1, HB.out.drew⟩, by simp only [intOf]; omega⟩
    · have h1' : ¬ ((k : Int) < (n : Int)) := by omega
      go_wp2_with fail
      refine bodyPost_ret ?rq rfl ⟨rfl, HB.out⟩
      case rq => simp (maxDischargeDepth := 9) [results, Try.results31, go_sem]
theorem run_append_reads {P : Program} (w : World) (base : Nat) (t ty e : TypeId) (i : TypeInfo) (z : Value) (size bytes : Nat) (ht : P.underlying t = some (.slice e)) (hi : P.info? e = some i) (hz : i.zero = some z)
    (hsize : i.size = size) (hby : i.bytes = bytes) (hzs : z.cells.size = size) (hsz : 0 < size)
    (v : Value) (n : Nat) (xs : List Value) (hown : w.ownsRow base e size v n xs)
    (u : Value) (m : Nat) (news : List Value) (hr : Reads w size u m news) (h1 : ∀ u ∈ news, u.oneCell' = true)
    (h63 : n + m ≤ maxLen) (hbytes : (n + m) * bytes ≤ 140737488355328) (hbase : base ≤ w.heap.size) :
    ∃ v' w', (Builtin.append_ #[t, t] ty #[v, u]).run P w = .ok v' w' ∧ w'.ownsRow base e size v' (n + m) (xs ++ news) ∧ w.grownBy w' v.ownBlock := by
  obtain ⟨hl, a, c, rfl, h2⟩ := hr
  rcases a with _ | ad
  · have hm : m = 0 := by
      rcases Nat.eq_zero_or_pos m with h0 | h0
      · exact h0
      · obtain ⟨g, o, h, _⟩ := h2 h0
        cases h
    subst hm
    have hn : news = [] := List.eq_nil_of_length_eq_zero (by simpa using hl)
    subst hn
    refine ⟨v, w, ?_, by simpa using hown, World.grownBy.refl w _⟩
    rcases hown.2 with ⟨rfl, rfl⟩ | ⟨g, cap, cur, rfl, _, _, hnc, _⟩
    · simp [Builtin.append_, run_underlying ht, sizeOf, typeInfo, hi, Builtin.lenOf, Builtin.firstCells]
    · simp [Builtin.append_, run_underlying ht, sizeOf, typeInfo, hi, Builtin.lenOf, Builtin.firstCells, hnc, storeCells]
  · have hcells : ∀ j u, news[j]? = some u → w.cell? (ad.add j) = some u := by
      intro j u hu
      rcases Nat.eq_zero_or_pos m with h0 | h0
      · subst h0
        have hn : news = [] := List.eq_nil_of_length_eq_zero (by simpa using hl)
        subst hn
        simp at hu
      · obtain ⟨g, o, h, hc⟩ := h2 h0
        injection h with h
        subst h
        rw [Addr.add_mid]
        exact hc j u hu
    obtain ⟨v', w', hrun, h3, h4, _, _⟩ := run_append_own_at (P := P) w base t ty e i z size bytes ht hi hz hsize hby hzs hsz v n xs hown ad m c news hl hcells h1 h63 hbytes hbase
    exact ⟨v', w', hrun, h3, h4⟩
theorem wpList_append_reads {P : Program} {w : World} {ops : Array Oper} {rest : List Oper} {o : Oper} {a : Act} {Q : Exit → Act → World → Prop} (hgd : o.guard = none) (s x : Operand) (t : TypeId)
    (ho : o.op = .call { callee := .builtin .append, args := #[s, x], argTypes := #[t, t] })
    (base : Nat) (e : TypeId) (i : TypeInfo) (z : Value) (size bytes : Nat) (ht : P.underlying t = some (.slice e)) (hi : P.info? e = some i) (hz : i.zero = some z)
    (hsize : i.size = size) (hby : i.bytes = bytes) (hzs : z.cells.size = size) (hsz : 0 < size)
    (v : Value) (n : Nat) (xs : List Value) (hs : a.eval s = v) (hown : w.ownsRow base e size v n xs)
    (u : Value) (m : Nat) (news : List Value) (hx : a.eval x = u) (hr : Reads w size u m news) (h1 : ∀ u ∈ news, u.oneCell' = true)
    (h63 : n + m ≤ maxLen) (hbytes : (n + m) * bytes ≤ 140737488355328) (hbase : base ≤ w.heap.size)
    (h : ∀ v' w', w'.ownsRow base e size v' (n + m) (xs ++ news) → w.grownBy w' v.ownBlock → wpList P ops Q rest (a.put o.dst v') w') :
    wpList P ops Q (o :: rest) a w := by
  refine wpList_plain hgd fun K hK => ?_
  obtain ⟨v', w', hr', h2, h3⟩ := run_append_reads (P := P) w base t o.type e i z size bytes ht hi hz hsize hby hzs hsz v n xs hown u m news hr h1 h63 hbytes hbase
  unfold Oper.wp execOp
  simp only [ho, resolve, invoke, builtin, Sem.run_bind, Sem.run_pure, Result.andThen_ok, List.map_toArray, List.map_cons, List.map_nil, hs, hx, hr']
  exact hK _ _ (h v' w' h2 h3)
set_option maxRecDepth 100000 in
set_option maxHeartbeats 8000000 in
theorem r10_With (q0 q1 q2 q3 q4 q5 q6 q7 q8 q9 q10 q11 q12 q13 q14 q15 q16 q17 q18 : Int) (vb v : Value) (aT ar aa ae : Option Addr) (nT cT nr cr na ca ne ce : Nat) (n : Nat) (xs : List Value) (w : World) (hr : Reads w 20 v n xs) (h1 : ∀ u ∈ xs, u.oneCell' = true) (hn : n ≤ 1000) :
    Calls Try.prog 37 #[.agg #[.int .i64 q0, .int .i64 q1, .int .u64 q2, .int .i64 q3, .int .u64 q4, .int .i64 q5, .int .u64 q6, .int .i64 q7, .int .u64 q8, .int .i64 q9, .int .u64 q10, .int .i64 q11, .int .i64 q12, vb, .slice aT nT cT, .slice ar nr cr, .slice aa na ca, .int .i64 q13, .int .u64 q14, .int .i64 q15, .int .u64 q16, .int .i64 q17, .int .u64 q18, .slice ae ne ce], v] w fun e w' => ∃ v', e = .returned (.agg #[.int .i64 q0, .int .i64 q1, .int .u64 q2, .int .i64 q3, .int .u64 q4, .int .i64 q5, .int .u64 q6, .int .i64 q7, .int .u64 q8, .int .i64 q9, .int .u64 q10, .int .i64 q11, .int .i64 q12, v', .slice aT nT cT, .slice ar nr cr, .slice aa na ca, .int .i64 q13, .int .u64 q14, .int .i64 q15, .int .u64 q16, .int .i64 q17, .int .u64 q18, .slice ae ne ce]) ∧ w'.ownsRow w.heap.size 28 20 v' n xs ∧ Below w.heap.size w w' := by
  obtain ⟨av, cv, rfl⟩ := hr.form
  have Hr := Lib.hid hr
  clear hr
  go_enter Try.func37, Try.ntmps37
  go_upto_region 1 with fail
  have e_x : blk ((w.alloc (.cells #[.int .i64 q0, .int .i64 q1, .int .u64 q2, .int .i64 q3, .int .u64 q4, .int .i64 q5, .int .u64 q6, .int .i64 q7, .int .u64 q8, .int .i64 q9, .int .u64 q10, .int .i64 q11, .int .i64 q12, vb, .slice aT nT cT, .slice ar nr cr, .slice aa na ca, .int .i64 q13, .int .u64 q14, .int .i64 q15, .int .u64 q16, .int .i64 q17, .int .u64 q18, .slice ae ne ce] 66)).alloc (.cells #[.int .i64 0, .int .i64 0, .int .u64 0, .int .i64 0, .int .u64 0, .int .i64 0, .int .u64 0, .int .i64 0, .int .u64 0, .int .i64 0, .int .u64 0, .int .i64 0, .int .i64 0, .slice none 0 0, .slice none 0 0, .slice none 0 0, .slice none 0 0, .int .i64 0, .int .u64 0, .int .i64 0, .int .u64 0, .int .i64 0, .int .u64 0, .slice none 0 0] 66)) (w.heap.size) = some (.cells #[.int .i64 q0, .int .i64 q1, .int .u64 q2, .int .i64 q3, .int .u64 q4, .int .i64 q5, .int .u64 q6, .int .i64 q7, .int .u64 q8, .int .i64 q9, .int .u64 q10, .int .i64 q11, .int .i64 q12, vb, .slice aT nT cT, .slice ar nr cr, .slice aa na ca, .int .i64 q13, .int .u64 q14, .int .i64 q15, .int .u64 q16, .int .i64 q17, .int .u64 q18, .slice ae ne ce] 66 (0, 0)) := by ((try simp (disch := first | omega | (simp; done) | (simp; omega)) only [pBk]); first | done | with_reducible rfl | with_reducible exact Hid.out (by assumption) | (with_reducible rw [Hid.out B_zz]; (try simp only [pBk]); first | done | with_reducible rfl))
  have e_z : blk ((w.alloc (.cells #[.int .i64 q0, .int .i64 q1, .int .u64 q2, .int .i64 q3, .int .u64 q4, .int .i64 q5, .int .u64 q6, .int .i64 q7, .int .u64 q8, .int .i64 q9, .int .u64 q10, .int .i64 q11, .int .i64 q12, vb, .slice aT nT cT, .slice ar nr cr, .slice aa na ca, .int .i64 q13, .int .u64 q14, .int .i64 q15, .int .u64 q16, .int .i64 q17, .int .u64 q18, .slice ae ne ce] 66)).alloc (.cells #[.int .i64 0, .int .i64 0, .int .u64 0, .int .i64 0, .int .u64 0, .int .i64 0, .int .u64 0, .int .i64 0, .int .u64 0, .int .i64 0, .int .u64 0, .int .i64 0, .int .i64 0, .slice none 0 0, .slice none 0 0, .slice none 0 0, .slice none 0 0, .int .i64 0, .int .u64 0, .int .i64 0, .int .u64 0, .int .i64 0, .int .u64 0, .slice none 0 0] 66)) (w.heap.size + 1) = some (.cells #[.int .i64 0, .int .i64 0, .int .u64 0, .int .i64 0, .int .u64 0, .int .i64 0, .int .u64 0, .int .i64 0, .int .u64 0, .int .i64 0, .int .u64 0, .int .i64 0, .int .i64 0, .slice none 0 0, .slice none 0 0, .slice none 0 0, .slice none 0 0, .int .i64 0, .int .u64 0, .int .i64 0, .int .u64 0, .int .i64 0, .int .u64 0, .slice none 0 0] 66 (0, 0)) := by ((try simp (disch := first | omega | (simp; done) | (simp; omega)) only [pBk]); first | done | with_reducible rfl | with_reducible exact Hid.out (by assumption) | (with_reducible rw [Hid.out B_zz]; (try simp only [pBk]); first | done | with_reducible rfl))
  have hb_ : Below w.heap.size w ((w.alloc (.cells #[.int .i64 q0, .int .i64 q1, .int .u64 q2, .int .i64 q3, .int .u64 q4, .int .i64 q5, .int .u64 q6, .int .i64 q7, .int .u64 q8, .int .i64 q9, .int .u64 q10, .int .i64 q11, .int .i64 q12, vb, .slice aT nT cT, .slice ar nr cr, .slice aa na ca, .int .i64 q13, .int .u64 q14, .int .i64 q15, .int .u64 q16, .int .i64 q17, .int .u64 q18, .slice ae ne ce] 66)).alloc (.cells #[.int .i64 0, .int .i64 0, .int .u64 0, .int .i64 0, .int .u64 0, .int .i64 0, .int .u64 0, .int .i64 0, .int .u64 0, .int .i64 0, .int .u64 0, .int .i64 0, .int .i64 0, .slice none 0 0, .slice none 0 0, .slice none 0 0, .slice none 0 0, .int .i64 0, .int .u64 0, .int .i64 0, .int .u64 0, .int .i64 0, .int .u64 0, .slice none 0 0] 66)) := by exact pBl
  have hLB : w.heap.size + 2 ≤ ((w.alloc (.cells #[.int .i64 q0, .int .i64 q1, .int .u64 q2, .int .i64 q3, .int .u64 q4, .int .i64 q5, .int .u64 q6, .int .i64 q7, .int .u64 q8, .int .i64 q9, .int .u64 q10, .int .i64 q11, .int .i64 q12, vb, .slice aT nT cT, .slice ar nr cr, .slice aa na ca, .int .i64 q13, .int .u64 q14, .int .i64 q15, .int .u64 q16, .int .i64 q17, .int .u64 q18, .slice ae ne ce] 66)).alloc (.cells #[.int .i64 0, .int .i64 0, .int .u64 0, .int .i64 0, .int .u64 0, .int .i64 0, .int .u64 0, .int .i64 0, .int .u64 0, .int .i64 0, .int .u64 0, .int .i64 0, .int .i64 0, .slice none 0 0, .slice none 0 0, .slice none 0 0, .slice none 0 0, .int .i64 0, .int .u64 0, .int .i64 0, .int .u64 0, .int .i64 0, .int .u64 0, .slice none 0 0] 66)).heap.size := by simp
  generalize ((w.alloc (.cells #[.int .i64 q0, .int .i64 q1, .int .u64 q2, .int .i64 q3, .int .u64 q4, .int .i64 q5, .int .u64 q6, .int .i64 q7, .int .u64 q8, .int .i64 q9, .int .u64 q10, .int .i64 q11, .int .i64 q12, vb, .slice aT nT cT, .slice ar nr cr, .slice aa na ca, .int .i64 q13, .int .u64 q14, .int .i64 q15, .int .u64 q16, .int .i64 q17, .int .u64 q18, .slice ae ne ce] 66)).alloc (.cells #[.int .i64 0, .int .i64 0, .int .u64 0, .int .i64 0, .int .u64 0, .int .i64 0, .int .u64 0, .int .i64 0, .int .u64 0, .int .i64 0, .int .u64 0, .int .i64 0, .int .i64 0, .slice none 0 0, .slice none 0 0, .slice none 0 0, .slice none 0 0, .int .i64 0, .int .u64 0, .int .i64 0, .int .u64 0, .int .i64 0, .int .u64 0, .slice none 0 0] 66)) = wx1 at *
  (try clear HB); have HB := Lib.hid hb_; clear hb_
  (try clear c_x); (try clear f_x r_x B_x); obtain ⟨c_x, f_x, l_x, r_x, B_x⟩ := blk_all e_x; clear e_x; (try clear c_z); (try clear f_z r_z B_z); obtain ⟨c_z, f_z, l_z, r_z, B_z⟩ := blk_all e_z; clear e_z
  have nxwx1 : ¬ (w.heap.size = wx1.heap.size) := by omega
  have nzwx1 : ¬ (w.heap.size + 1 = wx1.heap.size) := by omega
  have Hr1 := Lib.hid (Hr.out.below (by omega) HB.out)
  obtain ⟨i0, hi0, hz0, hz1, hz2⟩ := info_parts infoBody
  go_upto_region 2 with (at_builtin; refine wpList_append_reads rfl _ _ 60 rfl wx1.heap.size 28 i0 _ 20 160 Try.underlying60 hi0 hz0 hz1 hz2 rfl (by decide) _ 0 [] rfl (World.ownsRow_made wx1 #[] 0 (Nat.le_refl _) (by decide) rfl) _ n xs rfl (Hr1.out.below (by omega) ((Below.refl _ _).alloc (Nat.le_refl _) _)) h1 ?c3 ?c4 ?c5 ?_)
  case c3 => unfold maxLen; omega
  case c4 => omega
  case c5 => simp
  intro v' w4 hoo hgrow
  have far : ∀ x, x < wx1.heap.size → blk w4 x = blk wx1 x := fun x hx =>
    (hgrow.block x (by show x < (wx1.heap.push _).size; simp; omega) (fun e => by have e2 : x = wx1.heap.size := (by simpa [Value.ownBlock] using e); omega)).trans (blk_alloc _ hx)
  have e_x := (far w.heap.size (by omega)).trans B_x.out
  have e_z := (far (w.heap.size + 1) (by omega)).trans B_z.out
  have hb4 : Below w.heap.size w w4 := Below.grown (HB.out.alloc (by omega) _) hgrow (by show w.heap.size ≤ (wx1.heap.push _).size; simp; omega) (fun k hk => by have hk2 : wx1.heap.size = k := (by simpa [Value.ownBlock] using hk); omega)
  have hsz4 : wx1.heap.size ≤ w4.heap.size := by have := hgrow.size; simp at this; omega
  (try clear HB c_z f_z r_z B_z c_x f_x r_x B_x); have HB := Lib.hid hb4; clear hb4
  (try clear c_x); (try clear f_x r_x B_x); obtain ⟨c_x, f_x, l_x, r_x, B_x⟩ := blk_all e_x; clear e_x; (try clear c_z); (try clear f_z r_z B_z); obtain ⟨c_z, f_z, l_z, r_z, B_z⟩ := blk_all e_z; clear e_z
  obtain ⟨ao', cp', rfl⟩ := owns_form hoo
  have Ho := Lib.hid hoo
  clear far hgrow hoo
  go_upto_region 2 with fail
  have Ho5 := Lib.hid (owns_set_far (o := 13) (u := .slice ao' n cp') Ho.out (show w.heap.size < wx1.heap.size by omega))
  have e_x : blk (w4.setCell ⟨w.heap.size, 13, none⟩ (.slice ao' n cp')) (w.heap.size) = some (.cells #[.int .i64 q0, .int .i64 q1, .int .u64 q2, .int .i64 q3, .int .u64 q4, .int .i64 q5, .int .u64 q6, .int .i64 q7, .int .u64 q8, .int .i64 q9, .int .u64 q10, .int .i64 q11, .int .i64 q12, .slice ao' n cp', .slice aT nT cT, .slice ar nr cr, .slice aa na ca, .int .i64 q13, .int .u64 q14, .int .i64 q15, .int .u64 q16, .int .i64 q17, .int .u64 q18, .slice ae ne ce] 66 (0, 0)) := by ((try simp (disch := first | omega | (simp; done) | (simp; omega)) only [pBk]); first | done | with_reducible rfl | with_reducible exact Hid.out (by assumption) | (with_reducible rw [Hid.out B_x]; (try simp only [pBk]); first | done | with_reducible rfl) | (with_reducible rw [Hid.out B_z]; (try simp only [pBk]); first | done | with_reducible rfl))
  have e_z : blk (w4.setCell ⟨w.heap.size, 13, none⟩ (.slice ao' n cp')) (w.heap.size + 1) = some (.cells #[.int .i64 0, .int .i64 0, .int .u64 0, .int .i64 0, .int .u64 0, .int .i64 0, .int .u64 0, .int .i64 0, .int .u64 0, .int .i64 0, .int .u64 0, .int .i64 0, .int .i64 0, .slice none 0 0, .slice none 0 0, .slice none 0 0, .slice none 0 0, .int .i64 0, .int .u64 0, .int .i64 0, .int .u64 0, .int .i64 0, .int .u64 0, .slice none 0 0] 66 (0, 0)) := by ((try simp (disch := first | omega | (simp; done) | (simp; omega)) only [pBk]); first | done | with_reducible rfl | with_reducible exact Hid.out (by assumption) | (with_reducible rw [Hid.out B_x]; (try simp only [pBk]); first | done | with_reducible rfl) | (with_reducible rw [Hid.out B_z]; (try simp only [pBk]); first | done | with_reducible rfl))
  have hb_ : Below w.heap.size w (w4.setCell ⟨w.heap.size, 13, none⟩ (.slice ao' n cp')) := by exact pBl
  generalize (w4.setCell ⟨w.heap.size, 13, none⟩ (.slice ao' n cp')) = w5 at *
  (try clear HB); have HB := Lib.hid hb_; clear hb_
  (try clear c_x); (try clear f_x r_x B_x); obtain ⟨c_x, f_x, l_x, r_x, B_x⟩ := blk_all e_x; clear e_x; (try clear c_z); (try clear f_z r_z B_z); obtain ⟨c_z, f_z, l_z, r_z, B_z⟩ := blk_all e_z; clear e_z
  have nxw5 : ¬ (w.heap.size = w5.heap.size) := by omega
  have nzw5 : ¬ (w.heap.size + 1 = w5.heap.size) := by omega
  have r0_z := row0_blk (Hid.out B_z)
  go_wp2_with fail
  refine bodyPost_ret ?rq rfl ⟨_, rfl, owns_base (owns_row_far Ho5.out (by omega)) (by omega), Below.setRow HB.out (by omega) _⟩
  case rq => exact results_one_world Try.results37 _ _ _ _ rfl (by simp (maxDischargeDepth := 9) [go_sem, *]; done) rfl
end Go.Proofs.Ytdphhkbbphfjlaa
