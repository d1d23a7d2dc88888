/- contact.All of a close world. -/
import Derived.Test.YtdphhkbbphfjlaaCWaF
import Derived.Test.YtdphhkbbphfjlaaCRg
import Derived.Test.YtdphhkbbphfjlaaCBodyG
namespace Go.Proofs.Ytdphhkbbphfjlaa
set_option linter.unusedVariables false
set_option linter.unusedSimpArgs false
open Go.RowKit
attribute [local go_sem] uwrap_lo lo_lo hi_lo val_hl val_00 v4_q
attribute [local go_sem ↓] Go.wp_at_zero Go.wp_at_succ
attribute [local go_sem] nOf_ok nOf_err eOf_ok eOf_err xOf_ok yOf_ok xOf_err yOf_err vecX_ok vecX_err vecX_ok_err hi_z lo_z okB_ok okB_err hitV_some hitV_none hitV_err hitB_some hitB_none hitB_err
attribute [local go_sem ↓] loadRow_body
attribute [local go_sem] rowAt_at rowAt_past rowAt_drew rowAt_far run_load_body row_0_0 row_0_1 row_0_2 row_0_3 row_0_4 row_0_5 row_1_0 row_1_1 row_1_2 row_1_3 row_1_4 row_2_0 row_2_1 row_2_2 row_2_3
attribute [local go_sem ↓] storeRow_body loadVar_body
attribute [local go_sem] run_loadV_body rowAt_same run_store_body row0_at row0_past row0_drew row0_far row0_rowfar rowAt_rowfar setRow_a2 setRow_b2 setRow_alloc cell_setRow_far frozen_setRow_far allOne_nil allOne_int allOne_bool allOne_slice
attribute [local go_sem ↓] loadRow_world storeRow_world loadVar_world
attribute [local go_sem] run_load_world run_store_world run_loadV_world range_alloc_iff range_drew_iff range_set_iff
/-- a world, and two more, as results -/
theorem results_world3 {fn : Func} {p q r : Tmp} (h : fn.results = #[.cell p 66, .tmp q, .tmp r]) (tmps : Array Value) (w : World) (g1 : Nat) (c1 : Array Value) (x y : Value)
    (hp : tmps.getD p undef = .pointer (some ⟨g1, 0, none⟩)) (hq : tmps.getD q undef = x) (hr : tmps.getD r undef = y) (e1 : rowAt w g1 = c1) (s1 : c1.size = 24) :
    (results fn tmps).run Try.prog w = .ok (.tuple #[.agg c1, x, y]) w := by
  have hp' : tmps[p]?.getD undef = .pointer (some ⟨g1, 0, none⟩) := by simpa using hp
  have hq' : tmps[q]?.getD undef = x := by simpa using hq
  have hr' : tmps[r]?.getD undef = y := by simpa using hr
  have l1 := run_loadV_world (w := w) g1 (by rw [e1]; exact s1)
  rw [← loadVar_world, e1] at l1
  simp [results, h, hp', hq', hr', asAddr, l1]
structure AllAt (h : Int) (n cc cA : Nat) (bb ba : Option Addr) (w wr : World) (B1 B2 B3 : Nat) (st : List BodyI × List (Nat × Nat)) (vo : Value) (m : Nat) : Prop where
  ex : blk wr w.heap.size = some (.cells #[.int .i64 0, .int .i64 0, .int .u64 1152921504606846976, .int .i64 (1 + h % 3), .int .u64 0, .int .i64 0, .int .u64 4611686018427387904, .int .i64 0, .int .u64 (h * 72057594037927936), .int .i64 0, .int .u64 (h % 4 * 4611686018427387904), .int .i64 (h / 4 % 2), .int .i64 (h / 8 % 2), .slice bb n cc, .slice none 0 0, .slice none 0 0, .slice ba n cA, .int .i64 0, .int .u64 0, .int .i64 0, .int .u64 0, .int .i64 0, .int .u64 0, .slice none 0 0] 66 (0, 0))
  ez : blk wr (w.heap.size + 1) = some (.cells #[.int .i64 0, .int .i64 0, .int .u64 0, .int .i64 0, .int .u64 0, .int .i64 0, .int .u64 0, .int .i64 0, .int .u64 0, .int .i64 0, .int .u64 0, .int .i64 0, .int .i64 0, .slice none 0 0, .slice none 0 0, .slice none 0 0, .slice none 0 0, .int .i64 0, .int .u64 0, .int .i64 0, .int .u64 0, .int .i64 0, .int .u64 0, .slice none 0 0] 66 (0, 0))
  ob : wr.ownsRow B1 28 20 (.slice bb n cc) n (bodiesL st.1)
  oa : wr.ownsRow B2 3 1 (.slice ba n cA) n (List.replicate n (.int .i64 (-1)))
  oo : wr.ownsRow B3 80 2 vo st.2.length (pairsL st.2)
  below : Below w.heap.size w wr
  size : B3 ≤ wr.heap.size
  len : st.1.length = n
  may : ∀ b ∈ st.1, MayN b
  few : st.2.length ≤ m
theorem AllAt.on {h : Int} {n cc cA : Nat} {bb ba : Option Addr} {w wr u : World} {B1 B2 B3 : Nat} {st : List BodyI × List (Nat × Nat)} {vo : Value} {m : Nat} (x : AllAt h n cc cA bb ba w wr B1 B2 B3 st vo m) (hb : Below wr.heap.size wr u) : AllAt h n cc cA bb ba w u B1 B2 B3 st vo m :=
  ⟨(blk_below hb (blk_lt x.ex)).trans x.ex, (blk_below hb (blk_lt x.ez)).trans x.ez, owns_below x.ob hb, owns_below x.oa hb, owns_below x.oo hb, x.below.trans (Below.mono hb x.below.size), Nat.le_trans x.size hb.size, x.len, x.may, x.few⟩
theorem owns_not_blk {w : World} {B e z n b : Nat} {v : Value} {xs : List Value} {cs : Array Value} {t : TypeId} {fr : Nat × Nat} (h : w.ownsRow B e z v n xs) (hb : blk w b = some (.cells cs t fr)) (he : e ≠ t) : v.ownBlock ≠ some b := by
  rcases h.2 with ⟨rfl, _⟩ | ⟨g, cap, cur, rfl, _, hg, _⟩
  · exact fun x => by cases x
  · intro x
    injection x with x
    subst x
    rw [show w.heap[g]? = _ from hb] at hg
    injection hg with hg
    injection hg with _ h2 _
    exact he h2.symm
theorem owns_apart2 {w : World} {B e z n B' e' z' n' : Nat} {v v' : Value} {xs ys : List Value} (h : w.ownsRow B e z v n xs) (h' : w.ownsRow B' e' z' v' n' ys) (he : e ≠ e') : v.ownBlock = none ∨ v.ownBlock ≠ v'.ownBlock := by
  rcases h'.2 with ⟨rfl, _⟩ | ⟨g, cap, cur, rfl, _⟩
  · cases hv : v.ownBlock with
    | none => exact .inl rfl
    | some k => exact .inr (fun x => by cases x)
  · exact owns_apart h h' he
theorem owns_ne {w : World} {B e z n b : Nat} {v : Value} {xs : List Value} (h : w.ownsRow B e z v n xs) (hb : w.heap.size ≤ b) : v.ownBlock = none ∨ v.ownBlock ≠ some b := by
  cases hv : v.ownBlock with
  | none => exact .inl rfl
  | some k => exact .inr fun e => by injection e with e; have := (h.lt k hv).2; omega

theorem blow_R {a b : BodyI} {k : Int} {J : Int × Int} (h : blowX a b k = .ok (some J)) : R J.1 ∧ R J.2 := by
  rcases GoodX.over a b with ⟨o, ho⟩ | ⟨e, he, _⟩
  · cases o with
    | false => rw [blow_off ho] at h; cases h
    | true =>
      obtain ⟨dx, dy, l, hd, _, _, hl, _⟩ := over_ok ho
      by_cases h0 : l = 0
      · subst h0; rw [blow_at ho hd hl] at h; cases h
      · rw [blow_on ho hd hl h0] at h
        cases hc : closingX a b dx dy with
        | error e => rw [hc, bind_err] at h; cases h
        | ok v =>
          rw [hc, bind_ok] at h
          by_cases hv : 0 ≤ v
          · rw [if_pos hv] at h; cases h
          · rw [if_neg hv] at h
            rcases (GoodX.j (GoodX.tail (GoodX.reduced a b) k v) l dx dy).cases with ⟨p, hp, r1, r2⟩ | ⟨e, he, _⟩
            · rw [hp, bind_ok] at h
              injection h with h
              injection h with h
              subst h
              exact ⟨R_neg r1, R_neg r2⟩
            · rw [he, bind_err] at h; cases h
  · rw [blow_err he] at h; cases h
theorem ones_one (n : Nat) : ∀ x ∈ List.replicate n (Value.int .i64 (-1)), x.oneCell' = true := by
  intro x hx; rw [List.eq_of_mem_replicate hx]; rfl
theorem bodyL_one (b : BodyI) : ∀ x ∈ bodyL b, x.oneCell' = true := by
  intro x hx
  unfold bodyL at hx
  simp only [List.mem_cons, List.not_mem_nil, or_false] at hx
  rcases hx with h | h | h | h | h | h | h | h | h | h | h | h | h | h | h | h | h | h | h | h <;> subst h <;> rfl
theorem bodiesL_one (l : List BodyI) : ∀ x ∈ bodiesL l, x.oneCell' = true := by
  intro x hx
  obtain ⟨b, _, hb⟩ := List.mem_flatMap.1 hx
  exact bodyL_one b x hb
set_option maxRecDepth 100000 in
set_option maxHeartbeats 8000000 in
theorem contact_All {B : Nat} (l : List BodyI) (h : Int) (ab aa : Option Addr) (n cb ca : Nat) (w : World) (hl : l.length = n) (hn : n ≤ 10) (hh : 0 ≤ h ∧ h ≤ 255) (hmay : ∀ b ∈ l, MayN b) (Rf : List BodyI × List (Nat × Nat)) (hall : outerX (h % 4 * 4611686018427387904) n n 0 (l, []) = .ok Rf)
    (hb : w.ownsRow B 28 20 (.slice ab n cb) n (bodiesL l)) (ha : w.ownsRow B 3 1 (.slice aa n ca) n (List.replicate n (.int .i64 (-1)))) :
    Calls Try.prog 28 #[.agg #[.int .i64 0, .int .i64 0, .int .u64 1152921504606846976, .int .i64 (1 + h % 3), .int .u64 0, .int .i64 0, .int .u64 4611686018427387904, .int .i64 0, .int .u64 (h * 72057594037927936), .int .i64 0, .int .u64 (h % 4 * 4611686018427387904), .int .i64 (h / 4 % 2), .int .i64 (h / 8 % 2), .slice ab n cb, .slice none 0 0, .slice none 0 0, .slice aa n ca, .int .i64 0, .int .u64 0, .int .i64 0, .int .u64 0, .int .i64 0, .int .u64 0, .slice none 0 0]] w fun e w' => ∃ vb va vo : Value, e = .returned (.tuple #[.agg #[.int .i64 0, .int .i64 0, .int .u64 1152921504606846976, .int .i64 (1 + h % 3), .int .u64 0, .int .i64 0, .int .u64 4611686018427387904, .int .i64 0, .int .u64 (h * 72057594037927936), .int .i64 0, .int .u64 (h % 4 * 4611686018427387904), .int .i64 (h / 4 % 2), .int .i64 (h / 8 % 2), vb, .slice none 0 0, .slice none 0 0, va, .int .i64 0, .int .u64 0, .int .i64 0, .int .u64 0, .int .i64 0, .int .u64 0, .slice none 0 0], vo, .int .i64 0]) ∧ w'.ownsRow w.heap.size 28 20 vb n (bodiesL Rf.1) ∧ w'.ownsRow w.heap.size 3 1 va n (List.replicate n (.int .i64 (-1))) ∧ w'.ownsRow w.heap.size 80 2 vo Rf.2.length (pairsL Rf.2) ∧ Below w.heap.size w w' := by
  have Hb := Lib.hid hb
  have Ha := Lib.hid ha
  have Ha0 := Lib.hid ha
  clear hb ha
  go_enter Try.func28, Try.ntmps28
  go_upto_region 1 with fail
  have e_x : blk ((w.alloc (.cells #[.int .i64 0, .int .i64 0, .int .u64 1152921504606846976, .int .i64 (1 + h % 3), .int .u64 0, .int .i64 0, .int .u64 4611686018427387904, .int .i64 0, .int .u64 (h * 72057594037927936), .int .i64 0, .int .u64 (h % 4 * 4611686018427387904), .int .i64 (h / 4 % 2), .int .i64 (h / 8 % 2), .slice ab n cb, .slice none 0 0, .slice none 0 0, .slice aa n ca, .int .i64 0, .int .u64 0, .int .i64 0, .int .u64 0, .int .i64 0, .int .u64 0, .slice none 0 0] 66)).alloc (.cells #[.int .i64 0, .int .i64 0, .int .u64 0, .int .i64 0, .int .u64 0, .int .i64 0, .int .u64 0, .int .i64 0, .int .u64 0, .int .i64 0, .int .u64 0, .int .i64 0, .int .i64 0, .slice none 0 0, .slice none 0 0, .slice none 0 0, .slice none 0 0, .int .i64 0, .int .u64 0, .int .i64 0, .int .u64 0, .int .i64 0, .int .u64 0, .slice none 0 0] 66)) (w.heap.size) = some (.cells #[.int .i64 0, .int .i64 0, .int .u64 1152921504606846976, .int .i64 (1 + h % 3), .int .u64 0, .int .i64 0, .int .u64 4611686018427387904, .int .i64 0, .int .u64 (h * 72057594037927936), .int .i64 0, .int .u64 (h % 4 * 4611686018427387904), .int .i64 (h / 4 % 2), .int .i64 (h / 8 % 2), .slice ab n cb, .slice none 0 0, .slice none 0 0, .slice aa n ca, .int .i64 0, .int .u64 0, .int .i64 0, .int .u64 0, .int .i64 0, .int .u64 0, .slice none 0 0] 66 (0, 0)) := by ((try simp (disch := first | omega | (simp; done) | (simp; omega)) only [pBk]); first | done | with_reducible rfl | with_reducible exact Hid.out (by assumption) | (with_reducible rw [Hid.out B_zz]; (try simp only [pBk]); first | done | with_reducible rfl))
  have e_z : blk ((w.alloc (.cells #[.int .i64 0, .int .i64 0, .int .u64 1152921504606846976, .int .i64 (1 + h % 3), .int .u64 0, .int .i64 0, .int .u64 4611686018427387904, .int .i64 0, .int .u64 (h * 72057594037927936), .int .i64 0, .int .u64 (h % 4 * 4611686018427387904), .int .i64 (h / 4 % 2), .int .i64 (h / 8 % 2), .slice ab n cb, .slice none 0 0, .slice none 0 0, .slice aa n ca, .int .i64 0, .int .u64 0, .int .i64 0, .int .u64 0, .int .i64 0, .int .u64 0, .slice none 0 0] 66)).alloc (.cells #[.int .i64 0, .int .i64 0, .int .u64 0, .int .i64 0, .int .u64 0, .int .i64 0, .int .u64 0, .int .i64 0, .int .u64 0, .int .i64 0, .int .u64 0, .int .i64 0, .int .i64 0, .slice none 0 0, .slice none 0 0, .slice none 0 0, .slice none 0 0, .int .i64 0, .int .u64 0, .int .i64 0, .int .u64 0, .int .i64 0, .int .u64 0, .slice none 0 0] 66)) (w.heap.size + 1) = some (.cells #[.int .i64 0, .int .i64 0, .int .u64 0, .int .i64 0, .int .u64 0, .int .i64 0, .int .u64 0, .int .i64 0, .int .u64 0, .int .i64 0, .int .u64 0, .int .i64 0, .int .i64 0, .slice none 0 0, .slice none 0 0, .slice none 0 0, .slice none 0 0, .int .i64 0, .int .u64 0, .int .i64 0, .int .u64 0, .int .i64 0, .int .u64 0, .slice none 0 0] 66 (0, 0)) := by ((try simp (disch := first | omega | (simp; done) | (simp; omega)) only [pBk]); first | done | with_reducible rfl | with_reducible exact Hid.out (by assumption) | (with_reducible rw [Hid.out B_zz]; (try simp only [pBk]); first | done | with_reducible rfl))
  have hb_ : Below w.heap.size w ((w.alloc (.cells #[.int .i64 0, .int .i64 0, .int .u64 1152921504606846976, .int .i64 (1 + h % 3), .int .u64 0, .int .i64 0, .int .u64 4611686018427387904, .int .i64 0, .int .u64 (h * 72057594037927936), .int .i64 0, .int .u64 (h % 4 * 4611686018427387904), .int .i64 (h / 4 % 2), .int .i64 (h / 8 % 2), .slice ab n cb, .slice none 0 0, .slice none 0 0, .slice aa n ca, .int .i64 0, .int .u64 0, .int .i64 0, .int .u64 0, .int .i64 0, .int .u64 0, .slice none 0 0] 66)).alloc (.cells #[.int .i64 0, .int .i64 0, .int .u64 0, .int .i64 0, .int .u64 0, .int .i64 0, .int .u64 0, .int .i64 0, .int .u64 0, .int .i64 0, .int .u64 0, .int .i64 0, .int .i64 0, .slice none 0 0, .slice none 0 0, .slice none 0 0, .slice none 0 0, .int .i64 0, .int .u64 0, .int .i64 0, .int .u64 0, .int .i64 0, .int .u64 0, .slice none 0 0] 66)) := by exact pBl
  have hLB : w.heap.size + 2 ≤ ((w.alloc (.cells #[.int .i64 0, .int .i64 0, .int .u64 1152921504606846976, .int .i64 (1 + h % 3), .int .u64 0, .int .i64 0, .int .u64 4611686018427387904, .int .i64 0, .int .u64 (h * 72057594037927936), .int .i64 0, .int .u64 (h % 4 * 4611686018427387904), .int .i64 (h / 4 % 2), .int .i64 (h / 8 % 2), .slice ab n cb, .slice none 0 0, .slice none 0 0, .slice aa n ca, .int .i64 0, .int .u64 0, .int .i64 0, .int .u64 0, .int .i64 0, .int .u64 0, .slice none 0 0] 66)).alloc (.cells #[.int .i64 0, .int .i64 0, .int .u64 0, .int .i64 0, .int .u64 0, .int .i64 0, .int .u64 0, .int .i64 0, .int .u64 0, .int .i64 0, .int .u64 0, .int .i64 0, .int .i64 0, .slice none 0 0, .slice none 0 0, .slice none 0 0, .slice none 0 0, .int .i64 0, .int .u64 0, .int .i64 0, .int .u64 0, .int .i64 0, .int .u64 0, .slice none 0 0] 66)).heap.size := by simp
  have Hb1 := Lib.hid ((Hb.out.alloc (.cells #[.int .i64 0, .int .i64 0, .int .u64 1152921504606846976, .int .i64 (1 + h % 3), .int .u64 0, .int .i64 0, .int .u64 4611686018427387904, .int .i64 0, .int .u64 (h * 72057594037927936), .int .i64 0, .int .u64 (h % 4 * 4611686018427387904), .int .i64 (h / 4 % 2), .int .i64 (h / 8 % 2), .slice ab n cb, .slice none 0 0, .slice none 0 0, .slice aa n ca, .int .i64 0, .int .u64 0, .int .i64 0, .int .u64 0, .int .i64 0, .int .u64 0, .slice none 0 0] 66)).alloc (.cells #[.int .i64 0, .int .i64 0, .int .u64 0, .int .i64 0, .int .u64 0, .int .i64 0, .int .u64 0, .int .i64 0, .int .u64 0, .int .i64 0, .int .u64 0, .int .i64 0, .int .i64 0, .slice none 0 0, .slice none 0 0, .slice none 0 0, .slice none 0 0, .int .i64 0, .int .u64 0, .int .i64 0, .int .u64 0, .int .i64 0, .int .u64 0, .slice none 0 0] 66))
  have Ha1 := Lib.hid ((Ha.out.alloc (.cells #[.int .i64 0, .int .i64 0, .int .u64 1152921504606846976, .int .i64 (1 + h % 3), .int .u64 0, .int .i64 0, .int .u64 4611686018427387904, .int .i64 0, .int .u64 (h * 72057594037927936), .int .i64 0, .int .u64 (h % 4 * 4611686018427387904), .int .i64 (h / 4 % 2), .int .i64 (h / 8 % 2), .slice ab n cb, .slice none 0 0, .slice none 0 0, .slice aa n ca, .int .i64 0, .int .u64 0, .int .i64 0, .int .u64 0, .int .i64 0, .int .u64 0, .slice none 0 0] 66)).alloc (.cells #[.int .i64 0, .int .i64 0, .int .u64 0, .int .i64 0, .int .u64 0, .int .i64 0, .int .u64 0, .int .i64 0, .int .u64 0, .int .i64 0, .int .u64 0, .int .i64 0, .int .i64 0, .slice none 0 0, .slice none 0 0, .slice none 0 0, .slice none 0 0, .int .i64 0, .int .u64 0, .int .i64 0, .int .u64 0, .int .i64 0, .int .u64 0, .slice none 0 0] 66))
  generalize ((w.alloc (.cells #[.int .i64 0, .int .i64 0, .int .u64 1152921504606846976, .int .i64 (1 + h % 3), .int .u64 0, .int .i64 0, .int .u64 4611686018427387904, .int .i64 0, .int .u64 (h * 72057594037927936), .int .i64 0, .int .u64 (h % 4 * 4611686018427387904), .int .i64 (h / 4 % 2), .int .i64 (h / 8 % 2), .slice ab n cb, .slice none 0 0, .slice none 0 0, .slice aa n ca, .int .i64 0, .int .u64 0, .int .i64 0, .int .u64 0, .int .i64 0, .int .u64 0, .slice none 0 0] 66)).alloc (.cells #[.int .i64 0, .int .i64 0, .int .u64 0, .int .i64 0, .int .u64 0, .int .i64 0, .int .u64 0, .int .i64 0, .int .u64 0, .int .i64 0, .int .u64 0, .int .i64 0, .int .i64 0, .slice none 0 0, .slice none 0 0, .slice none 0 0, .slice none 0 0, .int .i64 0, .int .u64 0, .int .i64 0, .int .u64 0, .int .i64 0, .int .u64 0, .slice none 0 0] 66)) = wx1 at *
  (try clear HB); have HB := Lib.hid hb_; clear hb_
  (try clear c_x); (try clear f_x r_x B_x); obtain ⟨c_x, f_x, l_x, r_x, B_x⟩ := blk_all e_x; clear e_x; (try clear c_z); (try clear f_z r_z B_z); obtain ⟨c_z, f_z, l_z, r_z, B_z⟩ := blk_all e_z; clear e_z
  have nxwx1 : ¬ (w.heap.size = wx1.heap.size) := by omega
  have nzwx1 : ¬ (w.heap.size + 1 = wx1.heap.size) := by omega
  clear Hb Ha
  refine wp_region_G (fun w' => w'.cell? ⟨w.heap.size, 13, none⟩ = some (.slice ab n cb) ∧ w'.cell? ⟨w.heap.size, 14, none⟩ = some (.slice none 0 0) ∧ w'.cell? ⟨w.heap.size, 15, none⟩ = some (.slice none 0 0)) 10 (by kernel_rfl) ?_ (fun hHeld => ?_)
  · exact pKp
  refine Gw.tk 0 rfl ?_
  (try simp only [pLy])
  refine Gw.tk 1 rfl ?_
  (try simp only [pLy])
  refine Gw.tk 3 rfl ?_
  (try simp only [pLy])
  refine Gw.tk 4 rfl ?_
  (try simp only [pLy])
  refine Gw.tk 6 rfl ?_
  (try simp only [pLy])
  refine Gw.tk 7 rfl ?_
  (try simp only [pLy])
  refine Gw.one (i := 2) rfl (by kernel_rfl) (fun K hK => ?_)
  go_simp
  (go_at_call 74; refine (clone_body (B := B) wx1.drew Hb1.out (bodiesL_one l) (by omega)).mono ?_; rintro e u1 ⟨vb, rfl, hob, ho, hbn⟩; obtain ⟨bb, cc, rfl⟩ := owns_form hob; have Hob := Lib.hid hob; clear hob; have Ha2 := Lib.hid (owns_below (w := wx1.drew) Ha1.out ho); have hzu1 := Below.size ho; (try simp at hzu1); have HB2 : Hid (Below w.heap.size w u1) := Lib.hid (Below.trans (by exact pBl) (Below.mono ho pSd)); (try clear HB); have HB := HB2; clear HB2; have B2 := blk_below (g := w.heap.size) ho pSd; (try simp (disch := first | omega | (simp; done) | (simp; omega)) only [pBk] at B2); (try rw [Hid.out B_x] at B2); (try simp only [pBk] at B2); (try clear c_x f_x r_x B_x); obtain ⟨c_x, f_x, l_u1_x, r_x, B_x⟩ := blk_all B2; clear B2; have B2 := blk_below (g := w.heap.size + 1) ho pSd; (try simp (disch := first | omega | (simp; done) | (simp; omega)) only [pBk] at B2); (try rw [Hid.out B_z] at B2); (try simp only [pBk] at B2); (try clear c_z f_z r_z B_z); obtain ⟨c_z, f_z, l_u1_z, r_z, B_z⟩ := blk_all B2; clear B2; clear ho)
  (try go_wp2_with fail)
  refine hK.out _ _ ?_ (fun hHeld2 => ?_)
  · exact pKp
  (try clear hHeld); have hHeld := hHeld2; clear hHeld2
  clear hK K
  (try simp only [pLy])
  refine Gw.tk 9 rfl ?_
  (try simp only [pLy])
  refine Gw.one (i := 5) rfl (by kernel_rfl) (fun K hK => ?_)
  go_simp
  (go_at_call 75; refine (clone_tether_nil _).mono ?_; rintro e u2 ⟨rfl, ho⟩; have Hob2 := Lib.hid (owns_below Hob.out ho); have Ha3 := Lib.hid (owns_below Ha2.out ho); have hzu2 := Below.size ho; (try simp at hzu2); have HB2 : Hid (Below w.heap.size w u2) := Lib.hid (Below.trans (by exact pBl) (Below.mono ho pSd)); (try clear HB); have HB := HB2; clear HB2; have B2 := blk_below (g := w.heap.size) ho pSd; (try simp (disch := first | omega | (simp; done) | (simp; omega)) only [pBk] at B2); (try rw [Hid.out B_x] at B2); (try simp only [pBk] at B2); (try clear c_x f_x r_x B_x); obtain ⟨c_x, f_x, l_u2_x, r_x, B_x⟩ := blk_all B2; clear B2; have B2 := blk_below (g := w.heap.size + 1) ho pSd; (try simp (disch := first | omega | (simp; done) | (simp; omega)) only [pBk] at B2); (try rw [Hid.out B_z] at B2); (try simp only [pBk] at B2); (try clear c_z f_z r_z B_z); obtain ⟨c_z, f_z, l_u2_z, r_z, B_z⟩ := blk_all B2; clear B2; clear ho)
  (try go_wp2_with fail)
  refine hK.out _ _ ?_ (fun hHeld2 => ?_)
  · exact pKp
  (try clear hHeld); have hHeld := hHeld2; clear hHeld2
  clear hK K
  (try simp only [pLy])
  refine Gw.one (i := 8) rfl (by kernel_rfl) (fun K hK => ?_)
  go_simp
  (go_at_call 76; refine (clone_rail_nil _).mono ?_; rintro e u3 ⟨rfl, ho⟩; have Hob3 := Lib.hid (owns_below Hob2.out ho); have Ha4 := Lib.hid (owns_below Ha3.out ho); have hzu3 := Below.size ho; (try simp at hzu3); have HB2 : Hid (Below w.heap.size w u3) := Lib.hid (Below.trans (by exact pBl) (Below.mono ho pSd)); (try clear HB); have HB := HB2; clear HB2; have B2 := blk_below (g := w.heap.size) ho pSd; (try simp (disch := first | omega | (simp; done) | (simp; omega)) only [pBk] at B2); (try rw [Hid.out B_x] at B2); (try simp only [pBk] at B2); (try clear c_x f_x r_x B_x); obtain ⟨c_x, f_x, l_u3_x, r_x, B_x⟩ := blk_all B2; clear B2; have B2 := blk_below (g := w.heap.size + 1) ho pSd; (try simp (disch := first | omega | (simp; done) | (simp; omega)) only [pBk] at B2); (try rw [Hid.out B_z] at B2); (try simp only [pBk] at B2); (try clear c_z f_z r_z B_z); obtain ⟨c_z, f_z, l_u3_z, r_z, B_z⟩ := blk_all B2; clear B2; clear ho)
  (try go_wp2_with fail)
  refine hK.out _ _ ?_ (fun hHeld2 => ?_)
  · exact pKp
  (try clear hHeld); have hHeld := hHeld2; clear hHeld2
  clear hK K
  (try simp only [pLy])
  refine Gw.last (i := 10) rfl (by kernel_rfl) (by decide) (fun K hK => ?_)
  go_simp
  refine hK.out _ _ ?_
  clear hK K
  (try simp only [pLy])
  refine Gw.last (i := 11) rfl (by kernel_rfl) (by decide) (fun K hK => ?_)
  go_simp
  refine hK.out _ _ ?_
  clear hK K
  (try simp only [pLy])
  refine Gw.last (i := 12) rfl (by kernel_rfl) (by decide) (fun K hK => ?_)
  go_simp
  refine hK.out _ _ ?_
  clear hK K
  (try simp only [pLy])
  refine Gw.last (i := 13) rfl (by kernel_rfl) (by decide) (fun K hK => ?_)
  go_simp
  refine hK.out _ _ ?_
  clear hK K
  (try simp only [pLy])
  refine Gw.last (i := 14) rfl (by kernel_rfl) (by decide) (fun K hK => ?_)
  go_simp
  refine hK.out _ _ ?_
  clear hK K
  (try simp only [pLy])
  refine Gw.done (by kernel_rfl) ?_ _
  go_upto_region 2 with fail
  have hna : (Value.slice aa n ca).ownBlock = none ∨ (Value.slice aa n ca).ownBlock ≠ some w.heap.size := owns_ne Ha0.out (Nat.le_refl _)
  have Hob4 := Lib.hid (owns_set_far (o := 15) (u := .slice none 0 0) (owns_set_far (o := 14) (u := .slice none 0 0) (owns_set_far (o := 13) (u := .slice bb n cc) Hob3.out (show w.heap.size < wx1.drew.heap.size by show w.heap.size < wx1.heap.size; omega)) (show w.heap.size < wx1.drew.heap.size by show w.heap.size < wx1.heap.size; omega)) (show w.heap.size < wx1.drew.heap.size by show w.heap.size < wx1.heap.size; omega))
  have Ha5 := Lib.hid (owns_set_ne (o := 15) (u := .slice none 0 0) (owns_set_ne (o := 14) (u := .slice none 0 0) (owns_set_ne (o := 13) (u := .slice bb n cc) Ha4.out hna) hna) hna)
  have hsu3 : u3.heap.size ≤ (((u3.setCell ⟨w.heap.size, 13, none⟩ (.slice bb n cc)).setCell ⟨w.heap.size, 14, none⟩ (.slice none 0 0)).setCell ⟨w.heap.size, 15, none⟩ (.slice none 0 0)).heap.size := by simp
  have e_x : blk (((u3.setCell ⟨w.heap.size, 13, none⟩ (.slice bb n cc)).setCell ⟨w.heap.size, 14, none⟩ (.slice none 0 0)).setCell ⟨w.heap.size, 15, none⟩ (.slice none 0 0)) (w.heap.size) = some (.cells #[.int .i64 0, .int .i64 0, .int .u64 1152921504606846976, .int .i64 (1 + h % 3), .int .u64 0, .int .i64 0, .int .u64 4611686018427387904, .int .i64 0, .int .u64 (h * 72057594037927936), .int .i64 0, .int .u64 (h % 4 * 4611686018427387904), .int .i64 (h / 4 % 2), .int .i64 (h / 8 % 2), .slice bb n cc, .slice none 0 0, .slice none 0 0, .slice aa n ca, .int .i64 0, .int .u64 0, .int .i64 0, .int .u64 0, .int .i64 0, .int .u64 0, .slice none 0 0] 66 (0, 0)) := by ((try simp (disch := first | omega | (simp; done) | (simp; omega)) only [pBk]); first | done | with_reducible rfl | with_reducible exact Hid.out (by assumption) | (with_reducible rw [Hid.out B_x]; (try simp only [pBk]); first | done | with_reducible rfl) | (with_reducible rw [Hid.out B_z]; (try simp only [pBk]); first | done | with_reducible rfl))
  have e_z : blk (((u3.setCell ⟨w.heap.size, 13, none⟩ (.slice bb n cc)).setCell ⟨w.heap.size, 14, none⟩ (.slice none 0 0)).setCell ⟨w.heap.size, 15, none⟩ (.slice none 0 0)) (w.heap.size + 1) = some (.cells #[.int .i64 0, .int .i64 0, .int .u64 0, .int .i64 0, .int .u64 0, .int .i64 0, .int .u64 0, .int .i64 0, .int .u64 0, .int .i64 0, .int .u64 0, .int .i64 0, .int .i64 0, .slice none 0 0, .slice none 0 0, .slice none 0 0, .slice none 0 0, .int .i64 0, .int .u64 0, .int .i64 0, .int .u64 0, .int .i64 0, .int .u64 0, .slice none 0 0] 66 (0, 0)) := by ((try simp (disch := first | omega | (simp; done) | (simp; omega)) only [pBk]); first | done | with_reducible rfl | with_reducible exact Hid.out (by assumption) | (with_reducible rw [Hid.out B_x]; (try simp only [pBk]); first | done | with_reducible rfl) | (with_reducible rw [Hid.out B_z]; (try simp only [pBk]); first | done | with_reducible rfl))
  have hb_ : Below w.heap.size w (((u3.setCell ⟨w.heap.size, 13, none⟩ (.slice bb n cc)).setCell ⟨w.heap.size, 14, none⟩ (.slice none 0 0)).setCell ⟨w.heap.size, 15, none⟩ (.slice none 0 0)) := by exact pBl
  generalize (((u3.setCell ⟨w.heap.size, 13, none⟩ (.slice bb n cc)).setCell ⟨w.heap.size, 14, none⟩ (.slice none 0 0)).setCell ⟨w.heap.size, 15, none⟩ (.slice none 0 0)) = wx2 at *
  (try clear HB); have HB := Lib.hid hb_; clear hb_
  (try clear c_x); (try clear f_x r_x B_x); obtain ⟨c_x, f_x, l_x, r_x, B_x⟩ := blk_all e_x; clear e_x; (try clear c_z); (try clear f_z r_z B_z); obtain ⟨c_z, f_z, l_z, r_z, B_z⟩ := blk_all e_z; clear e_z
  have nxwx2 : ¬ (w.heap.size = wx2.heap.size) := by omega
  have nzwx2 : ¬ (w.heap.size + 1 = wx2.heap.size) := by omega
  (try clear hHeld)
  clear Hob Hob2 Hob3 Ha1 Ha2 Ha3 Ha4 Hb1
  refine wp_region_G (fun w' => w'.cell? ⟨w.heap.size, 16, none⟩ = some (.slice aa n ca) ∧ w'.cell? ⟨w.heap.size, 23, none⟩ = some (.slice none 0 0)) 7 (by kernel_rfl) ?_ (fun hHeld => ?_)
  · exact pKp
  refine Gw.tk 0 rfl ?_
  (try simp only [pLy])
  refine Gw.tk 1 rfl ?_
  (try simp only [pLy])
  refine Gw.tk 3 rfl ?_
  (try simp only [pLy])
  refine Gw.tk 4 rfl ?_
  (try simp only [pLy])
  refine Gw.one (i := 2) rfl (by kernel_rfl) (fun K hK => ?_)
  go_simp
  (go_at_call 77; refine (clone_int (B := B) wx2.drew Ha5.out (ones_one n) (by omega)).mono ?_; rintro e u4 ⟨va, rfl, hoa, ho, han⟩; obtain ⟨ba, cA, rfl⟩ := owns_form hoa; have Hoa := Lib.hid hoa; clear hoa; have Hob5 := Lib.hid (owns_below (w := wx2.drew) Hob4.out ho); have hzu4 := Below.size ho; (try simp at hzu4); have HB2 : Hid (Below w.heap.size w u4) := Lib.hid (Below.trans (by exact pBl) (Below.mono ho pSd)); (try clear HB); have HB := HB2; clear HB2; have B2 := blk_below (g := w.heap.size) ho pSd; (try simp (disch := first | omega | (simp; done) | (simp; omega)) only [pBk] at B2); (try rw [Hid.out B_x] at B2); (try simp only [pBk] at B2); (try clear c_x f_x r_x B_x); obtain ⟨c_x, f_x, l_u4_x, r_x, B_x⟩ := blk_all B2; clear B2; have B2 := blk_below (g := w.heap.size + 1) ho pSd; (try simp (disch := first | omega | (simp; done) | (simp; omega)) only [pBk] at B2); (try rw [Hid.out B_z] at B2); (try simp only [pBk] at B2); (try clear c_z f_z r_z B_z); obtain ⟨c_z, f_z, l_u4_z, r_z, B_z⟩ := blk_all B2; clear B2; clear ho)
  (try go_wp2_with fail)
  refine hK.out _ _ ?_ (fun hHeld2 => ?_)
  · exact pKp
  (try clear hHeld); have hHeld := hHeld2; clear hHeld2
  clear hK K
  (try simp only [pLy])
  refine Gw.tk 6 rfl ?_
  (try simp only [pLy])
  refine Gw.one (i := 5) rfl (by kernel_rfl) (fun K hK => ?_)
  go_simp
  (go_at_call 78; refine (clone_event_nil _).mono ?_; rintro e u5 ⟨rfl, ho⟩; have Hoa2 := Lib.hid (owns_below Hoa.out ho); have Hob6 := Lib.hid (owns_below Hob5.out ho); have hzu5 := Below.size ho; (try simp at hzu5); have HB2 : Hid (Below w.heap.size w u5) := Lib.hid (Below.trans (by exact pBl) (Below.mono ho pSd)); (try clear HB); have HB := HB2; clear HB2; have B2 := blk_below (g := w.heap.size) ho pSd; (try simp (disch := first | omega | (simp; done) | (simp; omega)) only [pBk] at B2); (try rw [Hid.out B_x] at B2); (try simp only [pBk] at B2); (try clear c_x f_x r_x B_x); obtain ⟨c_x, f_x, l_u5_x, r_x, B_x⟩ := blk_all B2; clear B2; have B2 := blk_below (g := w.heap.size + 1) ho pSd; (try simp (disch := first | omega | (simp; done) | (simp; omega)) only [pBk] at B2); (try rw [Hid.out B_z] at B2); (try simp only [pBk] at B2); (try clear c_z f_z r_z B_z); obtain ⟨c_z, f_z, l_u5_z, r_z, B_z⟩ := blk_all B2; clear B2; clear ho)
  (try go_wp2_with fail)
  refine hK.out _ _ ?_ (fun hHeld2 => ?_)
  · exact pKp
  (try clear hHeld); have hHeld := hHeld2; clear hHeld2
  clear hK K
  (try simp only [pLy])
  refine Gw.last (i := 7) rfl (by kernel_rfl) (by decide) (fun K hK => ?_)
  go_simp
  refine hK.out _ _ ?_
  clear hK K
  (try simp only [pLy])
  refine Gw.last (i := 8) rfl (by kernel_rfl) (by decide) (fun K hK => ?_)
  go_simp
  refine hK.out _ _ ?_
  clear hK K
  (try simp only [pLy])
  refine Gw.last (i := 9) rfl (by kernel_rfl) (by decide) (fun K hK => ?_)
  go_simp
  refine hK.out _ _ ?_
  clear hK K
  (try simp only [pLy])
  refine Gw.done (by kernel_rfl) ?_ _
  go_upto_region 3 with fail
  have hlt2 : w.heap.size < wx2.drew.heap.size := by show w.heap.size < wx2.heap.size; omega
  have hlt1 : w.heap.size < wx1.drew.heap.size := by show w.heap.size < wx1.heap.size; omega
  have Hob7 := Lib.hid (owns_set_far (o := 23) (u := .slice none 0 0) (owns_set_far (o := 16) (u := .slice ba n cA) Hob6.out hlt1) hlt1)
  have Hoa3 := Lib.hid (owns_set_far (o := 23) (u := .slice none 0 0) (owns_set_far (o := 16) (u := .slice ba n cA) Hoa2.out hlt2) hlt2)
  have hsu5 : u5.heap.size ≤ ((u5.setCell ⟨w.heap.size, 16, none⟩ (.slice ba n cA)).setCell ⟨w.heap.size, 23, none⟩ (.slice none 0 0)).heap.size := by simp
  have e_x : blk ((u5.setCell ⟨w.heap.size, 16, none⟩ (.slice ba n cA)).setCell ⟨w.heap.size, 23, none⟩ (.slice none 0 0)) (w.heap.size) = some (.cells #[.int .i64 0, .int .i64 0, .int .u64 1152921504606846976, .int .i64 (1 + h % 3), .int .u64 0, .int .i64 0, .int .u64 4611686018427387904, .int .i64 0, .int .u64 (h * 72057594037927936), .int .i64 0, .int .u64 (h % 4 * 4611686018427387904), .int .i64 (h / 4 % 2), .int .i64 (h / 8 % 2), .slice bb n cc, .slice none 0 0, .slice none 0 0, .slice ba n cA, .int .i64 0, .int .u64 0, .int .i64 0, .int .u64 0, .int .i64 0, .int .u64 0, .slice none 0 0] 66 (0, 0)) := by ((try simp (disch := first | omega | (simp; done) | (simp; omega)) only [pBk]); first | done | with_reducible rfl | with_reducible exact Hid.out (by assumption) | (with_reducible rw [Hid.out B_x]; (try simp only [pBk]); first | done | with_reducible rfl) | (with_reducible rw [Hid.out B_z]; (try simp only [pBk]); first | done | with_reducible rfl))
  have e_z : blk ((u5.setCell ⟨w.heap.size, 16, none⟩ (.slice ba n cA)).setCell ⟨w.heap.size, 23, none⟩ (.slice none 0 0)) (w.heap.size + 1) = some (.cells #[.int .i64 0, .int .i64 0, .int .u64 0, .int .i64 0, .int .u64 0, .int .i64 0, .int .u64 0, .int .i64 0, .int .u64 0, .int .i64 0, .int .u64 0, .int .i64 0, .int .i64 0, .slice none 0 0, .slice none 0 0, .slice none 0 0, .slice none 0 0, .int .i64 0, .int .u64 0, .int .i64 0, .int .u64 0, .int .i64 0, .int .u64 0, .slice none 0 0] 66 (0, 0)) := by ((try simp (disch := first | omega | (simp; done) | (simp; omega)) only [pBk]); first | done | with_reducible rfl | with_reducible exact Hid.out (by assumption) | (with_reducible rw [Hid.out B_x]; (try simp only [pBk]); first | done | with_reducible rfl) | (with_reducible rw [Hid.out B_z]; (try simp only [pBk]); first | done | with_reducible rfl))
  have hb_ : Below w.heap.size w ((u5.setCell ⟨w.heap.size, 16, none⟩ (.slice ba n cA)).setCell ⟨w.heap.size, 23, none⟩ (.slice none 0 0)) := by exact pBl
  generalize ((u5.setCell ⟨w.heap.size, 16, none⟩ (.slice ba n cA)).setCell ⟨w.heap.size, 23, none⟩ (.slice none 0 0)) = wx3 at *
  (try clear HB); have HB := Lib.hid hb_; clear hb_
  (try clear c_x); (try clear f_x r_x B_x); obtain ⟨c_x, f_x, l_x, r_x, B_x⟩ := blk_all e_x; clear e_x; (try clear c_z); (try clear f_z r_z B_z); obtain ⟨c_z, f_z, l_z, r_z, B_z⟩ := blk_all e_z; clear e_z
  have nxwx3 : ¬ (w.heap.size = wx3.heap.size) := by omega
  have nzwx3 : ¬ (w.heap.size + 1 = wx3.heap.size) := by omega
  (try clear hHeld)
  clear Hob4 Hob5 Hob6 Hoa Hoa2 Ha5
  have Hall := Lib.hid hall
  have Hmay := Lib.hid hmay
  clear hall hmay
  go_wp2_with fail
  go_loopw [5, 36] (fun vo i wr => ∃ (k : Nat) (st : List BodyI × List (Nat × Nat)), k ≤ n ∧ i = .int .i64 (k : Int) ∧ AllAt h n cc cA bb ba w wr wx1.heap.size wx2.heap.size wx3.heap.size st vo (k * 10) ∧ outerX (h % 4 * 4611686018427387904) n (n - k) k st = .ok Rf) (fun _ i _ => n - (intOf i).toNat)
  case atStart => exact ⟨0, (l, []), Nat.zero_le _, rfl, ⟨B_x.out, B_z.out, Hob7.out, Hoa3.out, World.ownsRow_nil _ _ _ _, HB.out, Nat.le_refl _, hl, Hmay.out, Nat.zero_le _⟩, Hall.out⟩
  case round =>
    obtain ⟨k, st, hk, rfl, hat, hrest⟩ := hrel
    have Hat := Lib.hid hat
    have Hrest := Lib.hid hrest
    clear hat hrest Hall Hmay Hob7 Hoa3 c_x f_x r_x B_x c_z f_z r_z B_z
    by_cases h1 : k < n
    · have h1' : ((k : Int) < (n : Int)) := by omega
      have e_x := Hat.out.ex
      have e_z := Hat.out.ez
      (try clear c_x); (try clear f_x r_x B_x); obtain ⟨c_x, f_x, l_x, r_x, B_x⟩ := blk_all e_x; clear e_x; (try clear c_z); (try clear f_z r_z B_z); obtain ⟨c_z, f_z, l_z, r_z, B_z⟩ := blk_all e_z; clear e_z
      go_wp2_with fail
      go_loopw [5, 7] (fun vo j wr => ∃ (q : Nat) (st : List BodyI × List (Nat × Nat)), k + 1 ≤ q ∧ q ≤ n ∧ j = .int .i64 (q : Int) ∧ AllAt h n cc cA bb ba w wr wx1.heap.size wx2.heap.size wx3.heap.size st vo (k * 10 + (q - (k + 1))) ∧ (innerX (h % 4 * 4611686018427387904) k (n - q) q st >>= fun s => outerX (h % 4 * 4611686018427387904) n (n - (k + 1)) (k + 1) s) = .ok Rf) (fun _ j _ => n - (intOf j).toNat)
      case atStart =>
        refine ⟨k + 1, st, Nat.le_refl _, h1, by congr 1, ?at1, ?at2⟩
        case at1 => exact ⟨Hat.out.ex, Hat.out.ez, Hat.out.ob, Hat.out.oa, Hat.out.oo, Hat.out.below, Hat.out.size, Hat.out.len, Hat.out.may, by have := Hat.out.few; omega⟩
        case at2 =>
          have hr := Hrest.out
          rw [show n - k = (n - (k + 1)) + 1 by omega] at hr
          unfold outerX at hr
          rw [show n - 1 - k = n - (k + 1) by omega] at hr
          exact hr
      case round =>
        obtain ⟨q, st2, hq1, hq2, rfl, hat2, hrest2⟩ := hrel
        have Hat2 := Lib.hid hat2
        have Hrest2 := Lib.hid hrest2
        clear hat2 hrest2 Hat Hrest c_x f_x r_x B_x c_z f_z r_z B_z
        have e_x := Hat2.out.ex
        have e_z := Hat2.out.ez
        (try clear c_x); (try clear f_x r_x B_x); obtain ⟨c_x, f_x, l_x, r_x, B_x⟩ := blk_all e_x; clear e_x; (try clear c_z); (try clear f_z r_z B_z); obtain ⟨c_z, f_z, l_z, r_z, B_z⟩ := blk_all e_z; clear e_z
        by_cases h2 : q < n
        · have h2' : ((q : Int) < (n : Int)) := by omega
          obtain ⟨g, cp2, hv, hg1, hg2⟩ := owns_ptr Hat2.out.ob (by omega)
          injection hv with hv1 hv2 hv3
          subst hv1 hv3
          clear hv2
          have hstep : ∃ s, stepX (h % 4 * 4611686018427387904) st2 k q = .ok s ∧ (innerX (h % 4 * 4611686018427387904) k (n - (q + 1)) (q + 1) s >>= fun s => outerX (h % 4 * 4611686018427387904) n (n - (k + 1)) (k + 1) s) = .ok Rf := by
            have hr := Hrest2.out
            rw [show n - q = (n - (q + 1)) + 1 by omega] at hr
            unfold innerX at hr
            cases hs : stepX (h % 4 * 4611686018427387904) st2 k q with
            | error e => rw [hs, bind_err, bind_err] at hr; cases hr
            | ok s => rw [hs, bind_ok] at hr; exact ⟨s, rfl, hr⟩
          obtain ⟨s, hs1, hs2⟩ := hstep
          have ra := owns_range Hat2.out.ob Hat2.out.len (show k < n by omega)
          have rb := owns_range Hat2.out.ob Hat2.out.len (show q < n by omega)
          have ma := Hat2.out.may _ (getD_mem (i := k) (by rw [Hat2.out.len]; omega))
          have mb := Hat2.out.may _ (getD_mem (i := q) (by rw [Hat2.out.len]; omega))
          have hp := step_parts hs1
          obtain ⟨a, hae⟩ : ∃ a, st2.1.getD k noB = a := ⟨_, rfl⟩
          obtain ⟨b, hbe⟩ : ∃ b, st2.1.getD q noB = b := ⟨_, rfl⟩
          rw [hae] at ra ma
          rw [hbe] at rb mb
          rw [hae, hbe] at hp
          have Hae := Lib.hid hae
          have Hbe := Lib.hid hbe
          have Hs2 := Lib.hid hs2
          have Hp := Lib.hid hp
          clear hae hbe hs1 hs2 hp Hrest2
          have vk : 0 ≤ (k : Int) ∧ (k : Int) < (n : Int) := by omega
          have vq : 0 ≤ (q : Int) ∧ (q : Int) < (n : Int) := by omega
          go_upto_region 10 with fail
          go_region
          have La : ∀ W : World, W.rangeAt g (k * 20) (bodyL a) → (loadRow 28 (.pointer (some ⟨g, k * 20, none⟩))).run Try.prog W = .ok (.agg #[.int .i64 (hi a.mass), .int .u64 (lo a.mass), .int .i64 (hi a.radius), .int .u64 (lo a.radius), .int .i64 (hi a.x), .int .u64 (lo a.x), .int .i64 (hi a.y), .int .u64 (lo a.y), .int .i64 (hi a.px), .int .u64 (lo a.px), .int .i64 (hi a.py), .int .u64 (lo a.py), .int .i64 (hi a.fuel), .int .u64 (lo a.fuel), .int .i64 (hi a.rate), .int .u64 (lo a.rate), .int .i64 (hi a.exh), .int .u64 (lo a.exh), .int .i64 a.thr, .int .i64 a.head]) W := fun W hW => run_load_mid a hW
          have Lb : ∀ W : World, W.rangeAt g (q * 20) (bodyL b) → (loadRow 28 (.pointer (some ⟨g, q * 20, none⟩))).run Try.prog W = .ok (.agg #[.int .i64 (hi b.mass), .int .u64 (lo b.mass), .int .i64 (hi b.radius), .int .u64 (lo b.radius), .int .i64 (hi b.x), .int .u64 (lo b.x), .int .i64 (hi b.y), .int .u64 (lo b.y), .int .i64 (hi b.px), .int .u64 (lo b.px), .int .i64 (hi b.py), .int .u64 (lo b.py), .int .i64 (hi b.fuel), .int .u64 (lo b.fuel), .int .i64 (hi b.rate), .int .u64 (lo b.rate), .int .i64 (hi b.exh), .int .u64 (lo b.exh), .int .i64 b.thr, .int .i64 b.head]) W := fun W hW => run_load_mid b hW
          have hKhi : hi (h % 4 * 4611686018427387904) = 0 := by unfold hi; omega
          have hKlo : lo (h % 4 * 4611686018427387904) = h % 4 * 4611686018427387904 := by unfold lo; omega
          have cBl := fun w => contact_Blow a b (h % 4 * 4611686018427387904) w ma mb (by unfold R; omega)
          simp only [hKhi, hKlo] at cBl
          clear hKhi hKlo
          have HB := Lib.hid Hat2.out.below
          have hg3 : ¬ (g = w.heap.size) := by omega
          have hg4 : ¬ (g = wr.heap.size) := by omega
          have hxw : ¬ (w.heap.size = wr.heap.size) := by omega
          rcases Hp.out with ⟨hbl, hs⟩ | ⟨J, p, qq, hbl, hp1, hp2, hs⟩
          · simp only [hbl, hitV_none, hitB_none, eOf_ok, hi_z, lo_z] at cBl
            have Hs := Lib.hid hs
            clear hbl hs Hp
            go_upto_region 11 with fail
            go_cut [10, 11, 12] (fun s10 s11 s12 wx => ∃ g_j : Nat, s10 = .pointer (some ⟨g_j, 0, none⟩) ∧ s11 = .bool false ∧ s12 = .int .i64 0 ∧ Below wr.heap.size wr wx)
            case first =>
              go_region_held3 (fun w' => w'.rangeAt g (k * 20) (bodyL a) ∧ w'.rangeAt g (q * 20) (bodyL b) ∧ w'.cell? ⟨w.heap.size, 9, none⟩ = some (.int .i64 0) ∧ w'.cell? ⟨w.heap.size, 10, none⟩ = some (.int .u64 (h % 4 * 4611686018427387904))) (refine ⟨?_, ?_, ?_, ?_⟩ <;> (simp (maxDischargeDepth := 9) [go_sem, *]; done))
                ((go_at_call 19; refine (cBl _).mono ?_; rintro e u6 ⟨rfl, ho⟩; have HBr : Hid (Below wr.heap.size wr u6) := Lib.hid (Below.trans (by exact pBl) (Below.mono ho pSd)); have ra6 := range_below ra HBr.out hg2; have rb6 := range_below rb HBr.out hg2; have hzu6 := Below.size ho; (try simp at hzu6); have HB2 : Hid (Below w.heap.size w u6) := Lib.hid (Below.trans (by exact pBl) (Below.mono ho pSd)); (try clear HB); have HB := HB2; clear HB2; have B2 := blk_below (g := w.heap.size) ho pSd; (try simp (disch := first | omega | (simp; done) | (simp; omega)) only [pBk] at B2); (try rw [Hid.out B_x] at B2); (try simp only [pBk] at B2); (try clear c_x f_x r_x B_x); obtain ⟨c_x, f_x, l_u6_x, r_x, B_x⟩ := blk_all B2; clear B2; have B2 := blk_below (g := w.heap.size + 1) ho pSd; (try simp (disch := first | omega | (simp; done) | (simp; omega)) only [pBk] at B2); (try rw [Hid.out B_z] at B2); (try simp only [pBk] at B2); (try clear c_z f_z r_z B_z); obtain ⟨c_z, f_z, l_u6_z, r_z, B_z⟩ := blk_all B2; clear B2; (try (have B2 := blk_below (g := wr.heap.size) ho (by first  | omega | (simp; done) | (simp; omega)); (try simp (disch := first | omega | (simp; done) | (simp; omega)) only [pBk] at B2); (try rw [Hid.out B_o0] at B2); (try simp only [pBk] at B2); (try clear c_o0 f_o0 r_o0 B_o0); obtain ⟨c_o0, f_o0, l_u6_o0, r_o0, B_o0⟩ := blk_all B2; clear B2)); clear ho; have lg6 : g < u6.heap.size := (by omega); have hx6 : ¬ (g = u6.heap.size) := (by omega); have hy6 : ¬ (w.heap.size = u6.heap.size) := (by omega)))
              all_goals (go_wp2_with fail; go_meet; refine ⟨_, rfl, rfl, rfl, ?_⟩)
              all_goals exact pBl
            case rest =>
              obtain ⟨g_j, rfl, rfl, rfl, hbw⟩ := hcut
              have Hn := Lib.hid (AllAt.on Hat2.out hbw)
              clear c_x f_x r_x B_x c_z f_z r_z B_z HB La Lb cBl ra rb hbw
              have e_x := Hn.out.ex
              have e_z := Hn.out.ez
              (try clear c_x); (try clear f_x r_x B_x); obtain ⟨c_x, f_x, l_x, r_x, B_x⟩ := blk_all e_x; clear e_x; (try clear c_z); (try clear f_z r_z B_z); obtain ⟨c_z, f_z, l_z, r_z, B_z⟩ := blk_all e_z; clear e_z
              go_wp2_with fail
              refine ⟨⟨q + 1, st2, by omega, by omega, by congr 1, ⟨Hn.out.ex, Hn.out.ez, Hn.out.ob, Hn.out.oa, Hn.out.oo, Hn.out.below, Hn.out.size, Hn.out.len, Hn.out.may, by have := Hn.out.few; omega⟩, ?nx⟩, by simp only [intOf]; omega⟩
              case nx =>
                have hr := Hs2.out
                rw [Hs.out] at hr
                exact hr
          · simp only [hbl, hitV_some, hitB_some, eOf_ok] at cBl
            have hJR := blow_R hbl
            have Hs := Lib.hid hs
            have Hp1 := Lib.hid hp1
            have Hp2 := Lib.hid hp2
            clear hbl hs Hp hp1 hp2
            go_upto_region 11 with fail
            go_cut [10, 11, 12] (fun s10 s11 s12 wx => ∃ g_j : Nat, s10 = .pointer (some ⟨g_j, 0, none⟩) ∧ s11 = .bool true ∧ s12 = .int .i64 0 ∧ Below wr.heap.size wr wx ∧ wr.heap.size ≤ g_j ∧ blk wx g_j = some (.cells #[.int .i64 (hi J.1), .int .u64 (lo J.1), .int .i64 (hi J.2), .int .u64 (lo J.2)] 26 (0, 0)))
            case first =>
              go_region_held3 (fun w' => w'.rangeAt g (k * 20) (bodyL a) ∧ w'.rangeAt g (q * 20) (bodyL b) ∧ w'.cell? ⟨w.heap.size, 9, none⟩ = some (.int .i64 0) ∧ w'.cell? ⟨w.heap.size, 10, none⟩ = some (.int .u64 (h % 4 * 4611686018427387904))) (refine ⟨?_, ?_, ?_, ?_⟩ <;> (simp (maxDischargeDepth := 9) [go_sem, *]; done))
                ((go_at_call 19; refine (cBl _).mono ?_; rintro e u6 ⟨rfl, ho⟩; have HBr : Hid (Below wr.heap.size wr u6) := Lib.hid (Below.trans (by exact pBl) (Below.mono ho pSd)); have ra6 := range_below ra HBr.out hg2; have rb6 := range_below rb HBr.out hg2; have hzu6 := Below.size ho; (try simp at hzu6); have HB2 : Hid (Below w.heap.size w u6) := Lib.hid (Below.trans (by exact pBl) (Below.mono ho pSd)); (try clear HB); have HB := HB2; clear HB2; have B2 := blk_below (g := w.heap.size) ho pSd; (try simp (disch := first | omega | (simp; done) | (simp; omega)) only [pBk] at B2); (try rw [Hid.out B_x] at B2); (try simp only [pBk] at B2); (try clear c_x f_x r_x B_x); obtain ⟨c_x, f_x, l_u6_x, r_x, B_x⟩ := blk_all B2; clear B2; have B2 := blk_below (g := w.heap.size + 1) ho pSd; (try simp (disch := first | omega | (simp; done) | (simp; omega)) only [pBk] at B2); (try rw [Hid.out B_z] at B2); (try simp only [pBk] at B2); (try clear c_z f_z r_z B_z); obtain ⟨c_z, f_z, l_u6_z, r_z, B_z⟩ := blk_all B2; clear B2; (try (have B2 := blk_below (g := wr.heap.size) ho (by first  | omega | (simp; done) | (simp; omega)); (try simp (disch := first | omega | (simp; done) | (simp; omega)) only [pBk] at B2); (try rw [Hid.out B_o0] at B2); (try simp only [pBk] at B2); (try clear c_o0 f_o0 r_o0 B_o0); obtain ⟨c_o0, f_o0, l_u6_o0, r_o0, B_o0⟩ := blk_all B2; clear B2)); clear ho; have lg6 : g < u6.heap.size := (by omega); have hx6 : ¬ (g = u6.heap.size) := (by omega); have hy6 : ¬ (w.heap.size = u6.heap.size) := (by omega)))
              all_goals (go_wp2_with fail; go_meet; refine ⟨_, rfl, rfl, rfl, ?_, ?_, ?_⟩)
              all_goals first | omega | (simp; done) | (simp; omega) | ((try simp (disch := first | omega | (simp; done) | (simp; omega)) only [pBk]); first | done | with_reducible rfl | with_reducible exact Hid.out (by assumption) | (with_reducible rw [Hid.out B_o0]; (try simp only [pBk]); first | done | with_reducible rfl) | (with_reducible rw [Hid.out B_x]; (try simp only [pBk]); first | done | with_reducible rfl) | (with_reducible rw [Hid.out B_z]; (try simp only [pBk]); first | done | with_reducible rfl)) | skip
              all_goals (exact pBl)
            case rest =>
              obtain ⟨g_j, rfl, rfl, rfl, hbw, hgj, e_j⟩ := hcut
              have Hn := Lib.hid (AllAt.on Hat2.out hbw)
              have hws := hbw.size
              clear c_x f_x r_x B_x c_z f_z r_z B_z HB La Lb cBl ra rb hbw
              have e_x := Hn.out.ex
              have e_z := Hn.out.ez
              (try clear c_x); (try clear f_x r_x B_x); obtain ⟨c_x, f_x, l_x, r_x, B_x⟩ := blk_all e_x; clear e_x; (try clear c_z); (try clear f_z r_z B_z); obtain ⟨c_z, f_z, l_z, r_z, B_z⟩ := blk_all e_z; clear e_z; (try clear c_j); (try clear f_j r_j B_j); obtain ⟨c_j, f_j, l_j, r_j, B_j⟩ := blk_all e_j; clear e_j
              go_upto_region 13 with fail
              obtain ⟨i0, hi0, hz0, hz1, hz2⟩ := info_parts infoPair
              have hfew := Hn.out.few
              go_upto_region 14 with (at_builtin; refine wpList_append_own_at _ rfl _ _ 68 rfl wx3.heap.size 80 i0 _ 2 16 Try.underlying68 hi0 hz0 hz1 hz2 rfl (by decide) _ _ _ rfl (Hn.out.oo.alloc _) ⟨wc.heap.size, 0, none⟩ 1 1 (pairL (k, q)) rfl rfl ?c1 ?c2 ?c3 ?c4 ?c5 ?_)
              case c1 => intro j u hu; exact hu
              case c2 =>
                intro u hu
                unfold pairL at hu
                simp only [List.mem_cons, List.not_mem_nil, or_false] at hu
                rcases hu with e | e <;> subst e <;> rfl
              case c3 => unfold maxLen; omega
              case c4 => omega
              case c5 => have := Hn.out.size; omega
              intro v' w4 hoo hgrow hnl hbk
              have far : ∀ x, x < wx3.heap.size → blk w4 x = blk wc x := fun x hx =>
                (hgrow.block x (by have := Hn.out.size; show x < (wc.heap.push _).size; simp; omega) (fun e => by have := (Hn.out.oo.lt x e.symm).1; omega)).trans (blk_alloc _ (by have := Hn.out.size; omega))
              have e_x4 := (far w.heap.size (by omega)).trans Hn.out.ex
              have e_z4 := (far (w.heap.size + 1) (by omega)).trans Hn.out.ez
              have hapb := owns_apart Hn.out.oo Hn.out.ob (by decide)
              have hb4 := (Hn.out.ob.alloc (.cells #[.int .i64 (k : Int), .int .i64 (q : Int)] 80)).kept hgrow (.inr (apart_symm hapb))
              have ha4 := (Hn.out.oa.alloc (.cells #[.int .i64 (k : Int), .int .i64 (q : Int)] 80)).kept hgrow (owns_apart2 Hn.out.oa Hn.out.oo (by decide))
              have e_j4 : blk w4 g_j = blk wc g_j := by
                refine (hgrow.block g_j (by show g_j < (wc.heap.push _).size; simp; omega) (fun x => ?_)).trans (blk_alloc _ (by omega))
                exact absurd x.symm (owns_not_blk Hn.out.oo B_j.out (by decide))
              obtain ⟨ao', cp', rfl⟩ := owns_form hoo
              have hsz4 : wc.heap.size ≤ w4.heap.size := by have := hgrow.size; simp at this; omega
              have hb4w : Below w.heap.size w w4 := Below.grown (Hn.out.below.alloc (by omega) _) hgrow (by simp; omega) (fun x hx => by have := (Hn.out.oo.lt x hx).1; omega)
              have e_x := e_x4
              have e_z := e_z4
              have e_j := e_j4.trans B_j.out
              clear e_x4 e_z4 e_j4 far hbk hnl hgrow
              (try clear c_x); (try clear f_x r_x B_x); obtain ⟨c_x, f_x, l_x, r_x, B_x⟩ := blk_all e_x; clear e_x; (try clear c_z); (try clear f_z r_z B_z); obtain ⟨c_z, f_z, l_z, r_z, B_z⟩ := blk_all e_z; clear e_z; (try clear c_j); (try clear f_j r_j B_j); obtain ⟨c_j, f_j, l_j, r_j, B_j⟩ := blk_all e_j; clear e_j
              have Hb4 := Lib.hid hb4
              have Ha4 := Lib.hid ha4
              have Ho4 := Lib.hid hoo
              have HB4 := Lib.hid hb4w
              clear hb4 ha4 hoo hb4w
              have HB := HB4
              have cAd := fun W => vec_Add (hi b.px) (lo b.px) (hi b.py) (lo b.py) (hi J.1) (lo J.1) (hi J.2) (lo J.2) W (MayF.of mb.px) (MayF.of mb.py) (MayF.of hJR.1) (MayF.of hJR.2)
              simp only [val_hl, Hp1.out, xOf_ok, yOf_ok, eOf_ok] at cAd
              have rb4 := owns_range Hb4.out Hn.out.len (show q < n by omega)
              rw [Hbe.out] at rb4
              have cb0 := rb4 8 _ rfl
              have cb1 := rb4 9 _ rfl
              have cb2 := rb4 10 _ rfl
              have cb3 := rb4 11 _ rfl
              clear rb4
              have hx4 : ¬ (w.heap.size = w4.heap.size) := by omega
              have hj4 : ¬ (g_j = w4.heap.size) := by omega
              have hg4' : ¬ (g = w4.heap.size) := by omega
              go_upto_region 14 with fail
              refine wp_region_L (fun w' => w'.cell? ⟨g, q * 20 + 8, none⟩ = some (.int .i64 (hi b.px)) ∧ w'.cell? ⟨g, q * 20 + 9, none⟩ = some (.int .u64 (lo b.px)) ∧ w'.cell? ⟨g, q * 20 + 10, none⟩ = some (.int .i64 (hi b.py)) ∧ w'.cell? ⟨g, q * 20 + 11, none⟩ = some (.int .u64 (lo b.py)) ∧ w'.cell? ⟨g_j, 0, none⟩ = some (.int .i64 (hi J.1)) ∧ w'.cell? ⟨g_j, 1, none⟩ = some (.int .u64 (lo J.1)) ∧ w'.cell? ⟨g_j, 2, none⟩ = some (.int .i64 (hi J.2)) ∧ w'.cell? ⟨g_j, 3, none⟩ = some (.int .u64 (lo J.2))) [12] (by kernel_rfl) ?_ (fun hHeld => ?_)
              · exact pKp
              refine Gl.tp 0 rfl ?_
              (try simp only [pLy])
              refine Gl.tp 1 rfl ?_
              (try simp only [pLy])
              refine Gl.tp 2 rfl ?_
              (try simp only [pLy])
              refine Gl.tp 3 rfl ?_
              (try simp only [pLy])
              refine Gl.tk 4 rfl ?_
              (try simp only [pLy])
              refine Gl.tk 5 rfl ?_
              (try simp only [pLy])
              refine Gl.one (i := 6) rfl (by kernel_rfl) (fun K hK => ?_)
              go_simp
              (go_at_call 79; refine (cAd _).mono ?_; rintro e u7 ⟨rfl, ho⟩; have Hb7 := Lib.hid (owns_below (w := w4.drew) Hb4.out ho); have Ha7 := Lib.hid (owns_below (w := w4.drew) Ha4.out ho); have Ho7 := Lib.hid (owns_below (w := w4.drew) Ho4.out ho); have rb7 := owns_range Hb7.out Hn.out.len (show q < n by omega); rw [Hbe.out] at rb7; have cc0 := rb7 8 _ rfl; have cc1 := rb7 9 _ rfl; have cc2 := rb7 10 _ rfl; have cc3 := rb7 11 _ rfl; clear rb7; have fb0 := Hb7.out.frozenAt (q * 20 + 8); have fb1 := Hb7.out.frozenAt (q * 20 + 9); have fb2 := Hb7.out.frozenAt (q * 20 + 10); have fb3 := Hb7.out.frozenAt (q * 20 + 11); have hzu7 := Below.size ho; (try simp at hzu7); have HB2 : Hid (Below w.heap.size w u7) := Lib.hid (Below.trans (by exact pBl) (Below.mono ho pSd)); (try clear HB); have HB := HB2; clear HB2; have B2 := blk_below (g := w.heap.size) ho pSd; (try simp (disch := first | omega | (simp; done) | (simp; omega)) only [pBk] at B2); (try rw [Hid.out B_x] at B2); (try simp only [pBk] at B2); (try clear c_x f_x r_x B_x); obtain ⟨c_x, f_x, l_u7_x, r_x, B_x⟩ := blk_all B2; clear B2; have B2 := blk_below (g := w.heap.size + 1) ho pSd; (try simp (disch := first | omega | (simp; done) | (simp; omega)) only [pBk] at B2); (try rw [Hid.out B_z] at B2); (try simp only [pBk] at B2); (try clear c_z f_z r_z B_z); obtain ⟨c_z, f_z, l_u7_z, r_z, B_z⟩ := blk_all B2; clear B2; have B2 := blk_below (g := g_j) ho pSd; (try simp (disch := first | omega | (simp; done) | (simp; omega)) only [pBk] at B2); (try rw [Hid.out B_j] at B2); (try simp only [pBk] at B2); (try clear c_j f_j r_j B_j); obtain ⟨c_j, f_j, l_u7_j, r_j, B_j⟩ := blk_all B2; clear B2; clear ho)
              (try go_wp2_with fail)
              refine hK.out _ _ ?_ (fun hHeld2 => ?_)
              · exact pKp
              (try clear hHeld); have hHeld := hHeld2; clear hHeld2
              clear hK K
              (try simp only [pLy])
              refine Gl.tp 7 rfl ?_
              (try simp only [pLy])
              refine Gl.tp 8 rfl ?_
              (try simp only [pLy])
              refine Gl.tp 9 rfl ?_
              (try simp only [pLy])
              refine Gl.tp 10 rfl ?_
              (try simp only [pLy])
              refine Gl.tp 11 rfl ?_
              (try simp only [pLy])
              refine Gl.last (i := 12) rfl (by kernel_rfl) (by decide) (fun K hK => ?_)
              go_simp
              refine hK.out _ _ ?_
              clear hK K
              (try simp only [pLy])
              refine Gl.tp 13 rfl ?_
              (try simp only [pLy])
              refine Gl.done (by kernel_rfl) ?_ _
              go_upto_region 16 with fail
              have hapa := owns_apart Ha7.out Hb7.out (by decide)
              have hapo := owns_apart Ho7.out Hb7.out (by decide)
              have Hb8 : Hid (((((u7.setCell ⟨g, q * 20 + 8, none⟩ (.int .i64 (hi p.1))).setCell ⟨g, q * 20 + 8 + 1, none⟩ (.int .u64 (lo p.1))).setCell ⟨g, q * 20 + 8 + 2, none⟩ (.int .i64 (hi p.2))).setCell ⟨g, q * 20 + 8 + 3, none⟩ (.int .u64 (lo p.2))).ownsRow wx1.heap.size 28 20 (.slice (some ⟨g, 0, none⟩) n cc) n (bodiesL (st2.1.set q { b with px := p.1, py := p.2 }))) := by
                have s4 := ((((Hb7.out.stored (q * 20 + 8) (.int .i64 (hi p.1))).1.stored (q * 20 + 8 + 1) (.int .u64 (lo p.1))).1.stored (q * 20 + 8 + 2) (.int .i64 (hi p.2))).1.stored (q * 20 + 8 + 3) (.int .u64 (lo p.2))).1
                have e := bodiesL_mom st2.1 q p.1 p.2 (by rw [Hn.out.len]; omega)
                rw [Hbe.out] at e
                rw [← e]
                exact Lib.hid s4
              have Ha8 := Lib.hid (owns_set_ne (o := q * 20 + 8 + 3) (u := .int .u64 (lo p.2)) (owns_set_ne (o := q * 20 + 8 + 2) (u := .int .i64 (hi p.2)) (owns_set_ne (o := q * 20 + 8 + 1) (u := .int .u64 (lo p.1)) (owns_set_ne (o := q * 20 + 8) (u := .int .i64 (hi p.1)) Ha7.out hapa) hapa) hapa) hapa)
              have Ho8 := Lib.hid (owns_set_ne (o := q * 20 + 8 + 3) (u := .int .u64 (lo p.2)) (owns_set_ne (o := q * 20 + 8 + 2) (u := .int .i64 (hi p.2)) (owns_set_ne (o := q * 20 + 8 + 1) (u := .int .u64 (lo p.1)) (owns_set_ne (o := q * 20 + 8) (u := .int .i64 (hi p.1)) Ho7.out hapo) hapo) hapo) hapo)
              have hz7 : u7.heap.size ≤ (((((u7.setCell ⟨g, q * 20 + 8, none⟩ (.int .i64 (hi p.1))).setCell ⟨g, q * 20 + 8 + 1, none⟩ (.int .u64 (lo p.1))).setCell ⟨g, q * 20 + 8 + 2, none⟩ (.int .i64 (hi p.2))).setCell ⟨g, q * 20 + 8 + 3, none⟩ (.int .u64 (lo p.2)))).heap.size := by simp
              have hn1 : ¬ (w.heap.size = g) := by omega
              have hn2 : ¬ (w.heap.size + 1 = g) := by omega
              have hn3 : ¬ (g_j = g) := by omega
              have e_x : blk ((((u7.setCell ⟨g, q * 20 + 8, none⟩ (.int .i64 (hi p.1))).setCell ⟨g, q * 20 + 8 + 1, none⟩ (.int .u64 (lo p.1))).setCell ⟨g, q * 20 + 8 + 2, none⟩ (.int .i64 (hi p.2))).setCell ⟨g, q * 20 + 8 + 3, none⟩ (.int .u64 (lo p.2))) (w.heap.size) = some (.cells #[.int .i64 0, .int .i64 0, .int .u64 1152921504606846976, .int .i64 (1 + h % 3), .int .u64 0, .int .i64 0, .int .u64 4611686018427387904, .int .i64 0, .int .u64 (h * 72057594037927936), .int .i64 0, .int .u64 (h % 4 * 4611686018427387904), .int .i64 (h / 4 % 2), .int .i64 (h / 8 % 2), .slice (some ⟨g, 0, none⟩) n cc, .slice none 0 0, .slice none 0 0, .slice ba n cA, .int .i64 0, .int .u64 0, .int .i64 0, .int .u64 0, .int .i64 0, .int .u64 0, .slice none 0 0] 66 (0, 0)) := by ((try simp (disch := first | omega | (simp; done) | (simp; omega)) only [pBk]); first | done | with_reducible rfl | with_reducible exact Hid.out (by assumption) | (with_reducible rw [Hid.out B_x]; (try simp only [pBk]); first | done | with_reducible rfl) | (with_reducible rw [Hid.out B_z]; (try simp only [pBk]); first | done | with_reducible rfl) | (with_reducible rw [Hid.out B_j]; (try simp only [pBk]); first | done | with_reducible rfl))
              have e_z : blk ((((u7.setCell ⟨g, q * 20 + 8, none⟩ (.int .i64 (hi p.1))).setCell ⟨g, q * 20 + 8 + 1, none⟩ (.int .u64 (lo p.1))).setCell ⟨g, q * 20 + 8 + 2, none⟩ (.int .i64 (hi p.2))).setCell ⟨g, q * 20 + 8 + 3, none⟩ (.int .u64 (lo p.2))) (w.heap.size + 1) = some (.cells #[.int .i64 0, .int .i64 0, .int .u64 0, .int .i64 0, .int .u64 0, .int .i64 0, .int .u64 0, .int .i64 0, .int .u64 0, .int .i64 0, .int .u64 0, .int .i64 0, .int .i64 0, .slice none 0 0, .slice none 0 0, .slice none 0 0, .slice none 0 0, .int .i64 0, .int .u64 0, .int .i64 0, .int .u64 0, .int .i64 0, .int .u64 0, .slice none 0 0] 66 (0, 0)) := by ((try simp (disch := first | omega | (simp; done) | (simp; omega)) only [pBk]); first | done | with_reducible rfl | with_reducible exact Hid.out (by assumption) | (with_reducible rw [Hid.out B_x]; (try simp only [pBk]); first | done | with_reducible rfl) | (with_reducible rw [Hid.out B_z]; (try simp only [pBk]); first | done | with_reducible rfl) | (with_reducible rw [Hid.out B_j]; (try simp only [pBk]); first | done | with_reducible rfl))
              have e_j : blk ((((u7.setCell ⟨g, q * 20 + 8, none⟩ (.int .i64 (hi p.1))).setCell ⟨g, q * 20 + 8 + 1, none⟩ (.int .u64 (lo p.1))).setCell ⟨g, q * 20 + 8 + 2, none⟩ (.int .i64 (hi p.2))).setCell ⟨g, q * 20 + 8 + 3, none⟩ (.int .u64 (lo p.2))) (g_j) = some (.cells #[.int .i64 (hi J.1), .int .u64 (lo J.1), .int .i64 (hi J.2), .int .u64 (lo J.2)] 26 (0, 0)) := by ((try simp (disch := first | omega | (simp; done) | (simp; omega)) only [pBk]); first | done | with_reducible rfl | with_reducible exact Hid.out (by assumption) | (with_reducible rw [Hid.out B_x]; (try simp only [pBk]); first | done | with_reducible rfl) | (with_reducible rw [Hid.out B_z]; (try simp only [pBk]); first | done | with_reducible rfl) | (with_reducible rw [Hid.out B_j]; (try simp only [pBk]); first | done | with_reducible rfl))
              have hb_ : Below w.heap.size w ((((u7.setCell ⟨g, q * 20 + 8, none⟩ (.int .i64 (hi p.1))).setCell ⟨g, q * 20 + 8 + 1, none⟩ (.int .u64 (lo p.1))).setCell ⟨g, q * 20 + 8 + 2, none⟩ (.int .i64 (hi p.2))).setCell ⟨g, q * 20 + 8 + 3, none⟩ (.int .u64 (lo p.2))) := by exact pBl
              generalize ((((u7.setCell ⟨g, q * 20 + 8, none⟩ (.int .i64 (hi p.1))).setCell ⟨g, q * 20 + 8 + 1, none⟩ (.int .u64 (lo p.1))).setCell ⟨g, q * 20 + 8 + 2, none⟩ (.int .i64 (hi p.2))).setCell ⟨g, q * 20 + 8 + 3, none⟩ (.int .u64 (lo p.2))) = w5 at *
              (try clear HB); have HB := Lib.hid hb_; clear hb_
              (try clear c_x); (try clear f_x r_x B_x); obtain ⟨c_x, f_x, l_x, r_x, B_x⟩ := blk_all e_x; clear e_x; (try clear c_z); (try clear f_z r_z B_z); obtain ⟨c_z, f_z, l_z, r_z, B_z⟩ := blk_all e_z; clear e_z; (try clear c_j); (try clear f_j r_j B_j); obtain ⟨c_j, f_j, l_j, r_j, B_j⟩ := blk_all e_j; clear e_j
              have nxw5 : ¬ (w.heap.size = w5.heap.size) := by omega
              have nzw5 : ¬ (w.heap.size + 1 = w5.heap.size) := by omega
              clear Hb7 Ha7 Ho7 Hb4 Ha4 Ho4 cAd fb0 fb1 fb2 fb3 cc0 cc1 cc2 cc3 cb0 cb1 cb2 cb3
              (try clear hHeld)
              have cSb := fun W => vec_Sub (hi a.px) (lo a.px) (hi a.py) (lo a.py) (hi J.1) (lo J.1) (hi J.2) (lo J.2) W (MayF.of ma.px) (MayF.of ma.py) (MayF.of hJR.1) (MayF.of hJR.2)
              simp only [val_hl, Hp2.out, xOf_ok, yOf_ok, eOf_ok] at cSb
              have hlen8 : (st2.1.set q { b with px := p.1, py := p.2 }).length = n := by rw [List.length_set]; exact Hn.out.len
              have hlen9 := Lib.hid hlen8
              have hga : (st2.1.set q { b with px := p.1, py := p.2 }).getD k noB = a := by rw [getD_set_ne _ (by omega), Hae.out]
              have Hga := Lib.hid hga
              clear hlen8 hga
              have rb8 := owns_range Hb8.out hlen9.out (show k < n by omega)
              rw [Hga.out] at rb8
              have cb0 := rb8 8 _ rfl
              have cb1 := rb8 9 _ rfl
              have cb2 := rb8 10 _ rfl
              have cb3 := rb8 11 _ rfl
              clear rb8
              have hg5 : ¬ (g = w5.heap.size) := by omega
              refine wp_region_L (fun w' => w'.cell? ⟨g, k * 20 + 8, none⟩ = some (.int .i64 (hi a.px)) ∧ w'.cell? ⟨g, k * 20 + 9, none⟩ = some (.int .u64 (lo a.px)) ∧ w'.cell? ⟨g, k * 20 + 10, none⟩ = some (.int .i64 (hi a.py)) ∧ w'.cell? ⟨g, k * 20 + 11, none⟩ = some (.int .u64 (lo a.py)) ∧ w'.cell? ⟨g_j, 0, none⟩ = some (.int .i64 (hi J.1)) ∧ w'.cell? ⟨g_j, 1, none⟩ = some (.int .u64 (lo J.1)) ∧ w'.cell? ⟨g_j, 2, none⟩ = some (.int .i64 (hi J.2)) ∧ w'.cell? ⟨g_j, 3, none⟩ = some (.int .u64 (lo J.2))) [12] (by kernel_rfl) ?_ (fun hHeld => ?_)
              · exact pKp
              refine Gl.tp 0 rfl ?_
              (try simp only [pLy])
              refine Gl.tp 1 rfl ?_
              (try simp only [pLy])
              refine Gl.tp 2 rfl ?_
              (try simp only [pLy])
              refine Gl.tp 3 rfl ?_
              (try simp only [pLy])
              refine Gl.tk 4 rfl ?_
              (try simp only [pLy])
              refine Gl.tk 5 rfl ?_
              (try simp only [pLy])
              refine Gl.one (i := 6) rfl (by kernel_rfl) (fun K hK => ?_)
              go_simp
              (go_at_call 48; refine (cSb _).mono ?_; rintro e u8 ⟨rfl, ho⟩; have Hb7 := Lib.hid (owns_below (w := w5.drew) Hb8.out ho); have Ha7 := Lib.hid (owns_below (w := w5.drew) Ha8.out ho); have Ho7 := Lib.hid (owns_below (w := w5.drew) Ho8.out ho); have rb7 := owns_range Hb7.out hlen9.out (show k < n by omega); rw [Hga.out] at rb7; have cc0 := rb7 8 _ rfl; have cc1 := rb7 9 _ rfl; have cc2 := rb7 10 _ rfl; have cc3 := rb7 11 _ rfl; clear rb7; have fb0 := Hb7.out.frozenAt (k * 20 + 8); have fb1 := Hb7.out.frozenAt (k * 20 + 9); have fb2 := Hb7.out.frozenAt (k * 20 + 10); have fb3 := Hb7.out.frozenAt (k * 20 + 11); have hzu8 := Below.size ho; (try simp at hzu8); have HB2 : Hid (Below w.heap.size w u8) := Lib.hid (Below.trans (by exact pBl) (Below.mono ho pSd)); (try clear HB); have HB := HB2; clear HB2; have B2 := blk_below (g := w.heap.size) ho pSd; (try simp (disch := first | omega | (simp; done) | (simp; omega)) only [pBk] at B2); (try rw [Hid.out B_x] at B2); (try simp only [pBk] at B2); (try clear c_x f_x r_x B_x); obtain ⟨c_x, f_x, l_u8_x, r_x, B_x⟩ := blk_all B2; clear B2; have B2 := blk_below (g := w.heap.size + 1) ho pSd; (try simp (disch := first | omega | (simp; done) | (simp; omega)) only [pBk] at B2); (try rw [Hid.out B_z] at B2); (try simp only [pBk] at B2); (try clear c_z f_z r_z B_z); obtain ⟨c_z, f_z, l_u8_z, r_z, B_z⟩ := blk_all B2; clear B2; have B2 := blk_below (g := g_j) ho pSd; (try simp (disch := first | omega | (simp; done) | (simp; omega)) only [pBk] at B2); (try rw [Hid.out B_j] at B2); (try simp only [pBk] at B2); (try clear c_j f_j r_j B_j); obtain ⟨c_j, f_j, l_u8_j, r_j, B_j⟩ := blk_all B2; clear B2; clear ho)
              (try go_wp2_with fail)
              refine hK.out _ _ ?_ (fun hHeld2 => ?_)
              · exact pKp
              (try clear hHeld); have hHeld := hHeld2; clear hHeld2
              clear hK K
              (try simp only [pLy])
              refine Gl.tp 7 rfl ?_
              (try simp only [pLy])
              refine Gl.tp 8 rfl ?_
              (try simp only [pLy])
              refine Gl.tp 9 rfl ?_
              (try simp only [pLy])
              refine Gl.tp 10 rfl ?_
              (try simp only [pLy])
              refine Gl.tp 11 rfl ?_
              (try simp only [pLy])
              refine Gl.last (i := 12) rfl (by kernel_rfl) (by decide) (fun K hK => ?_)
              go_simp
              refine hK.out _ _ ?_
              clear hK K
              (try simp only [pLy])
              refine Gl.tp 13 rfl ?_
              (try simp only [pLy])
              refine Gl.done (by kernel_rfl) ?_ _
              go_upto_region 17 with fail
              have hapa := owns_apart Ha7.out Hb7.out (by decide)
              have hapo := owns_apart Ho7.out Hb7.out (by decide)
              have Hb10 : Hid (((((u8.setCell ⟨g, k * 20 + 8, none⟩ (.int .i64 (hi qq.1))).setCell ⟨g, k * 20 + 8 + 1, none⟩ (.int .u64 (lo qq.1))).setCell ⟨g, k * 20 + 8 + 2, none⟩ (.int .i64 (hi qq.2))).setCell ⟨g, k * 20 + 8 + 3, none⟩ (.int .u64 (lo qq.2))).ownsRow wx1.heap.size 28 20 (.slice (some ⟨g, 0, none⟩) n cc) n (bodiesL ((st2.1.set q { b with px := p.1, py := p.2 }).set k { a with px := qq.1, py := qq.2 }))) := by
                have s4 := ((((Hb7.out.stored (k * 20 + 8) (.int .i64 (hi qq.1))).1.stored (k * 20 + 8 + 1) (.int .u64 (lo qq.1))).1.stored (k * 20 + 8 + 2) (.int .i64 (hi qq.2))).1.stored (k * 20 + 8 + 3) (.int .u64 (lo qq.2))).1
                have e := bodiesL_mom (st2.1.set q { b with px := p.1, py := p.2 }) k qq.1 qq.2 (by rw [hlen9.out]; omega)
                rw [Hga.out] at e
                rw [← e]
                exact Lib.hid s4
              have Ha10 := Lib.hid (owns_set_ne (o := k * 20 + 8 + 3) (u := .int .u64 (lo qq.2)) (owns_set_ne (o := k * 20 + 8 + 2) (u := .int .i64 (hi qq.2)) (owns_set_ne (o := k * 20 + 8 + 1) (u := .int .u64 (lo qq.1)) (owns_set_ne (o := k * 20 + 8) (u := .int .i64 (hi qq.1)) Ha7.out hapa) hapa) hapa) hapa)
              have Ho10 := Lib.hid (owns_set_ne (o := k * 20 + 8 + 3) (u := .int .u64 (lo qq.2)) (owns_set_ne (o := k * 20 + 8 + 2) (u := .int .i64 (hi qq.2)) (owns_set_ne (o := k * 20 + 8 + 1) (u := .int .u64 (lo qq.1)) (owns_set_ne (o := k * 20 + 8) (u := .int .i64 (hi qq.1)) Ho7.out hapo) hapo) hapo) hapo)
              have hz8 : u8.heap.size ≤ (((((u8.setCell ⟨g, k * 20 + 8, none⟩ (.int .i64 (hi qq.1))).setCell ⟨g, k * 20 + 8 + 1, none⟩ (.int .u64 (lo qq.1))).setCell ⟨g, k * 20 + 8 + 2, none⟩ (.int .i64 (hi qq.2))).setCell ⟨g, k * 20 + 8 + 3, none⟩ (.int .u64 (lo qq.2)))).heap.size := by simp
              have e_x : blk ((((u8.setCell ⟨g, k * 20 + 8, none⟩ (.int .i64 (hi qq.1))).setCell ⟨g, k * 20 + 8 + 1, none⟩ (.int .u64 (lo qq.1))).setCell ⟨g, k * 20 + 8 + 2, none⟩ (.int .i64 (hi qq.2))).setCell ⟨g, k * 20 + 8 + 3, none⟩ (.int .u64 (lo qq.2))) (w.heap.size) = some (.cells #[.int .i64 0, .int .i64 0, .int .u64 1152921504606846976, .int .i64 (1 + h % 3), .int .u64 0, .int .i64 0, .int .u64 4611686018427387904, .int .i64 0, .int .u64 (h * 72057594037927936), .int .i64 0, .int .u64 (h % 4 * 4611686018427387904), .int .i64 (h / 4 % 2), .int .i64 (h / 8 % 2), .slice (some ⟨g, 0, none⟩) n cc, .slice none 0 0, .slice none 0 0, .slice ba n cA, .int .i64 0, .int .u64 0, .int .i64 0, .int .u64 0, .int .i64 0, .int .u64 0, .slice none 0 0] 66 (0, 0)) := by ((try simp (disch := first | omega | (simp; done) | (simp; omega)) only [pBk]); first | done | with_reducible rfl | with_reducible exact Hid.out (by assumption) | (with_reducible rw [Hid.out B_x]; (try simp only [pBk]); first | done | with_reducible rfl) | (with_reducible rw [Hid.out B_z]; (try simp only [pBk]); first | done | with_reducible rfl) | (with_reducible rw [Hid.out B_j]; (try simp only [pBk]); first | done | with_reducible rfl))
              have e_z : blk ((((u8.setCell ⟨g, k * 20 + 8, none⟩ (.int .i64 (hi qq.1))).setCell ⟨g, k * 20 + 8 + 1, none⟩ (.int .u64 (lo qq.1))).setCell ⟨g, k * 20 + 8 + 2, none⟩ (.int .i64 (hi qq.2))).setCell ⟨g, k * 20 + 8 + 3, none⟩ (.int .u64 (lo qq.2))) (w.heap.size + 1) = some (.cells #[.int .i64 0, .int .i64 0, .int .u64 0, .int .i64 0, .int .u64 0, .int .i64 0, .int .u64 0, .int .i64 0, .int .u64 0, .int .i64 0, .int .u64 0, .int .i64 0, .int .i64 0, .slice none 0 0, .slice none 0 0, .slice none 0 0, .slice none 0 0, .int .i64 0, .int .u64 0, .int .i64 0, .int .u64 0, .int .i64 0, .int .u64 0, .slice none 0 0] 66 (0, 0)) := by ((try simp (disch := first | omega | (simp; done) | (simp; omega)) only [pBk]); first | done | with_reducible rfl | with_reducible exact Hid.out (by assumption) | (with_reducible rw [Hid.out B_x]; (try simp only [pBk]); first | done | with_reducible rfl) | (with_reducible rw [Hid.out B_z]; (try simp only [pBk]); first | done | with_reducible rfl) | (with_reducible rw [Hid.out B_j]; (try simp only [pBk]); first | done | with_reducible rfl))
              have e_j : blk ((((u8.setCell ⟨g, k * 20 + 8, none⟩ (.int .i64 (hi qq.1))).setCell ⟨g, k * 20 + 8 + 1, none⟩ (.int .u64 (lo qq.1))).setCell ⟨g, k * 20 + 8 + 2, none⟩ (.int .i64 (hi qq.2))).setCell ⟨g, k * 20 + 8 + 3, none⟩ (.int .u64 (lo qq.2))) (g_j) = some (.cells #[.int .i64 (hi J.1), .int .u64 (lo J.1), .int .i64 (hi J.2), .int .u64 (lo J.2)] 26 (0, 0)) := by ((try simp (disch := first | omega | (simp; done) | (simp; omega)) only [pBk]); first | done | with_reducible rfl | with_reducible exact Hid.out (by assumption) | (with_reducible rw [Hid.out B_x]; (try simp only [pBk]); first | done | with_reducible rfl) | (with_reducible rw [Hid.out B_z]; (try simp only [pBk]); first | done | with_reducible rfl) | (with_reducible rw [Hid.out B_j]; (try simp only [pBk]); first | done | with_reducible rfl))
              have hb_ : Below w.heap.size w ((((u8.setCell ⟨g, k * 20 + 8, none⟩ (.int .i64 (hi qq.1))).setCell ⟨g, k * 20 + 8 + 1, none⟩ (.int .u64 (lo qq.1))).setCell ⟨g, k * 20 + 8 + 2, none⟩ (.int .i64 (hi qq.2))).setCell ⟨g, k * 20 + 8 + 3, none⟩ (.int .u64 (lo qq.2))) := by exact pBl
              generalize ((((u8.setCell ⟨g, k * 20 + 8, none⟩ (.int .i64 (hi qq.1))).setCell ⟨g, k * 20 + 8 + 1, none⟩ (.int .u64 (lo qq.1))).setCell ⟨g, k * 20 + 8 + 2, none⟩ (.int .i64 (hi qq.2))).setCell ⟨g, k * 20 + 8 + 3, none⟩ (.int .u64 (lo qq.2))) = w6 at *
              (try clear HB); have HB := Lib.hid hb_; clear hb_
              (try clear c_x); (try clear f_x r_x B_x); obtain ⟨c_x, f_x, l_x, r_x, B_x⟩ := blk_all e_x; clear e_x; (try clear c_z); (try clear f_z r_z B_z); obtain ⟨c_z, f_z, l_z, r_z, B_z⟩ := blk_all e_z; clear e_z; (try clear c_j); (try clear f_j r_j B_j); obtain ⟨c_j, f_j, l_j, r_j, B_j⟩ := blk_all e_j; clear e_j
              have nxw6 : ¬ (w.heap.size = w6.heap.size) := by omega
              have nzw6 : ¬ (w.heap.size + 1 = w6.heap.size) := by omega
              clear Hb7 Ha7 Ho7 Hb8 Ha8 Ho8 cSb fb0 fb1 fb2 fb3 cc0 cc1 cc2 cc3 cb0 cb1 cb2 cb3 c_j f_j r_j B_j
              (try clear hHeld)
              have hRp : R p.1 ∧ R p.2 := addV_R Hp1.out
              have hRq : R qq.1 ∧ R qq.2 := subV_R Hp2.out
              have hsz : wx3.heap.size ≤ w6.heap.size := by have := Hn.out.size; omega
              go_wp2_with fail
              have hs' := Hs.out
              subst hs'
              refine ⟨⟨q + 1, _, by omega, by omega, by congr 1, ⟨B_x.out, B_z.out, Hb10.out, Ha10.out, ?oo, HB.out, hsz, ?ln, ?my, ?fw⟩, Hs2.out⟩, by simp only [intOf]; omega⟩
              case oo =>
                show w6.ownsRow wx3.heap.size 80 2 _ (st2.2 ++ [(k, q)]).length (pairsL (st2.2 ++ [(k, q)]))
                rw [pairsL_add, List.length_append]
                exact Ho10.out
              case ln => show ((st2.1.set q _).set k _).length = n; rw [List.length_set, List.length_set]; exact Hn.out.len
              case my =>
                intro c hc
                rcases List.mem_or_eq_of_mem_set hc with h | rfl
                · rcases List.mem_or_eq_of_mem_set h with h | rfl
                  · exact Hn.out.may c h
                  · exact may_move mb hRp.1 hRp.2
                · exact may_move ma hRq.1 hRq.2
              case fw => show (st2.2 ++ [(k, q)]).length ≤ _; rw [List.length_append]; simp only [List.length_singleton]; have := Hn.out.few; omega
        · have h2' : ¬ ((q : Int) < (n : Int)) := by omega
          obtain rfl : n = q := by omega
          go_wp2_with fail
          refine ⟨⟨k + 1, st2, h1, by congr 1, ⟨Hat2.out.ex, Hat2.out.ez, Hat2.out.ob, Hat2.out.oa, Hat2.out.oo, Hat2.out.below, Hat2.out.size, Hat2.out.len, Hat2.out.may, by have := Hat2.out.few; omega⟩, ?ex2⟩, by simp only [intOf]; omega⟩
          case ex2 =>
            have hr := Hrest2.out
            rw [Nat.sub_self] at hr
            exact hr
    · have h1' : ¬ ((k : Int) < (n : Int)) := by omega
      have e_x := Hat.out.ex
      have e_z := Hat.out.ez
      (try clear c_x); (try clear f_x r_x B_x); obtain ⟨c_x, f_x, l_x, r_x, B_x⟩ := blk_all e_x; clear e_x; (try clear c_z); (try clear f_z r_z B_z); obtain ⟨c_z, f_z, l_z, r_z, B_z⟩ := blk_all e_z; clear e_z
      have r0_z := row0_blk (Hid.out B_z)
      go_wp2_with fail
      obtain rfl : n = k := by omega
      have hr := Hrest.out
      rw [Nat.sub_self] at hr
      have hst : st = Rf := by injection hr
      subst hst
      refine bodyPost_ret ?rq rfl ⟨_, _, _, rfl, owns_base (owns_row_far Hat.out.ob (by omega)) (by omega), owns_base (owns_row_far Hat.out.oa (by omega)) (by omega), owns_base (owns_row_far Hat.out.oo (by omega)) (by omega), Below.setRow Hat.out.below (by omega) _⟩
      case rq => exact results_world3 Try.results28 _ _ _ _ _ _ rfl rfl rfl (by simp (maxDischargeDepth := 9) [go_sem, *]; done) rfl
end Go.Proofs.Ytdphhkbbphfjlaa
