/- A close world by numbers. -/
import Derived.Test.YtdphhkbbphfjlaaCWaC
namespace Go.Proofs.Ytdphhkbbphfjlaa
set_option linter.unusedVariables false
set_option linter.unusedSimpArgs false
open Go.RowKit
attribute [local go_sem] uwrap_lo lo_lo hi_lo val_hl val_00 v4_q
attribute [local go_sem ↓] Go.wp_at_zero Go.wp_at_succ
attribute [local go_sem] nOf_ok nOf_err eOf_ok eOf_err xOf_ok yOf_ok xOf_err yOf_err vecX_ok vecX_err vecX_ok_err hi_z lo_z okB_ok okB_err hitV_some hitV_none hitV_err hitB_some hitB_none hitB_err
attribute [local go_sem ↓] loadRow_body
attribute [local go_sem] rowAt_at rowAt_past rowAt_drew rowAt_far run_load_body row_0_0 row_0_1 row_0_2 row_0_3 row_0_4 row_0_5 row_1_0 row_1_1 row_1_2 row_1_3 row_1_4 row_2_0 row_2_1 row_2_2 row_2_3
attribute [local go_sem ↓] storeRow_body loadVar_body
attribute [local go_sem] run_loadV_body rowAt_same run_store_body row0_at row0_past row0_drew row0_far row0_rowfar rowAt_rowfar setRow_a2 setRow_b2 setRow_alloc cell_setRow_far frozen_setRow_far allOne_nil allOne_int allOne_bool allOne_slice
attribute [local go_sem ↓] loadRow_world storeRow_world loadVar_world
attribute [local go_sem] run_load_world run_store_world run_loadV_world
/-- nearer: its place, the upper word's rest by 4 -/
def closeB (b : BodyI) : BodyI := { b with x := val (Int.tmod (hi b.x) 4) (lo b.x), y := val (Int.tmod (hi b.y) 4) (lo b.y) }
/-- the first k of a list, nearer -/
def closeTo (l : List BodyI) (k : Nat) : List BodyI := (l.take k).map closeB ++ l.drop k
theorem owns_ptr {w : World} {B e z n : Nat} {v : Value} {xs : List Value} (h : w.ownsRow B e z v n xs) (hn : 0 < n) : ∃ g cap, v = .slice (some ⟨g, 0, none⟩) n cap ∧ B ≤ g ∧ g < w.heap.size := by
  rcases h.2 with ⟨rfl, h0⟩ | ⟨g, cap, cur, rfl, hb, hg, _⟩
  · omega
  · exact ⟨g, cap, rfl, hb, lt_of_block hg⟩
theorem closeTo_length (l : List BodyI) (k : Nat) : (closeTo l k).length = l.length := by unfold closeTo; simp; omega
theorem closeTo_get (l : List BodyI) (k i : Nat) (hi : i < l.length) : (closeTo l k).getD i noB = if i < k then closeB (l.getD i noB) else l.getD i noB := by
  unfold closeTo
  rw [List.getD_eq_getElem?_getD, List.getD_eq_getElem?_getD]
  by_cases h : i < k
  · rw [if_pos h, List.getElem?_append_left (by simp; omega)]
    simp [h, List.getElem?_eq_getElem hi]
  · rw [if_neg h, List.getElem?_append_right (by simp; omega)]
    simp [List.getElem?_drop, show k + (i - min k l.length) = i by omega]
theorem owns_set_ne {w : World} {B e z n b o : Nat} {v u : Value} {xs : List Value} (h : w.ownsRow B e z v n xs) (hb : v.ownBlock = none ∨ v.ownBlock ≠ some b) : (w.setCell ⟨b, o, none⟩ u).ownsRow B e z v n xs :=
  h.kept (Only.setg (Only.refl b w) o u) hb
theorem owns_apart {w : World} {B e z n B' e' z' n' g cap : Nat} {v : Value} {xs ys : List Value} (h : w.ownsRow B e z v n xs) (h' : w.ownsRow B' e' z' (.slice (some ⟨g, 0, none⟩) n' cap) n' ys) (he : e ≠ e') : v.ownBlock = none ∨ v.ownBlock ≠ some g := by
  rcases h.2 with ⟨rfl, _⟩ | ⟨g1, c1, cur, rfl, _, hg, _⟩
  · exact .inl rfl
  · refine .inr fun hk => ?_
    injection hk with hk
    subst hk
    rcases h'.2 with ⟨hv, _⟩ | ⟨g2, c2, cur2, hv, _, hg2, _⟩
    · cases hv
    · injection hv with hv _ _
      injection hv with hv
      injection hv with hv _ _
      subst hv
      rw [hg] at hg2
      injection hg2 with hg2
      injection hg2 with _ h2 _
      exact he h2
theorem bodyL_close (b : BodyI) : ((bodyL b).set 4 (.int .i64 (Int.tmod (hi b.x) 4))).set 6 (.int .i64 (Int.tmod (hi b.y) 4)) = bodyL (closeB b) := by
  have h1 : hi (val (Int.tmod (hi b.x) 4) (lo b.x)) = Int.tmod (hi b.x) 4 := hi_val (W64_lo _)
  have h2 : lo (val (Int.tmod (hi b.x) 4) (lo b.x)) = lo b.x := lo_val (W64_lo _)
  have h3 : hi (val (Int.tmod (hi b.y) 4) (lo b.y)) = Int.tmod (hi b.y) 4 := hi_val (W64_lo _)
  have h4 : lo (val (Int.tmod (hi b.y) 4) (lo b.y)) = lo b.y := lo_val (W64_lo _)
  unfold bodyL closeB
  simp only [h1, h2, h3, h4]
  rfl
theorem bodiesL_set2 : ∀ (l : List BodyI) (i : Nat) (u u' : Value) (b' : BodyI), i < l.length → ((bodyL (l.getD i noB)).set 4 u).set 6 u' = bodyL b' → ((bodiesL l).set (i * 20 + 4) u).set (i * 20 + 6) u' = bodiesL (l.set i b')
  | [], i, u, u', b', h, _ => by simp at h
  | b :: l, 0, u, u', b', _, h => by
    rw [bodiesL_cons, List.set_append_left _ _ (by rw [bodyL_length]; omega), List.set_append_left _ _ (by rw [List.length_set, bodyL_length]; omega)]
    show _ = bodiesL (b' :: l)
    rw [bodiesL_cons, ← h]; rfl
  | b :: l, i + 1, u, u', b', h, he => by
    rw [bodiesL_cons, List.set_append_right _ _ (by rw [bodyL_length]; omega), List.set_append_right _ _ (by rw [bodyL_length]; omega), bodyL_length, show (i + 1) * 20 + 4 - 20 = i * 20 + 4 by omega, show (i + 1) * 20 + 6 - 20 = i * 20 + 6 by omega, bodiesL_set2 l i u u' b' (by simpa using h) he]
    show _ = bodiesL (b :: l.set i b')
    rw [bodiesL_cons]
theorem closeTo_set (l : List BodyI) (k : Nat) (h : k < l.length) : (closeTo l k).set k (closeB (l.getD k noB)) = closeTo l (k + 1) := by
  apply List.ext_getElem?
  intro i
  unfold closeTo
  rw [List.getElem?_set]
  by_cases hi : k = i
  · subst hi
    rw [if_pos rfl, if_pos (by simp; omega), List.getElem?_append_left (by simp; omega)]
    simp [List.getElem?_take, h]
  · rw [if_neg hi]
    by_cases hlt : i < k
    · rw [List.getElem?_append_left (by simp; omega), List.getElem?_append_left (by simp; omega)]
      simp [List.getElem?_take, hlt, show i < k + 1 by omega]
    · rw [List.getElem?_append_right (by simp; omega), List.getElem?_append_right (by simp; omega)]
      simp only [List.length_map, List.length_take, List.getElem?_drop]
      congr 1
      omega
theorem close_step (l : List BodyI) (k : Nat) (h : k < l.length) : ((bodiesL (closeTo l k)).set (k * 20 + 4) (.int .i64 (Int.tmod (hi (l.getD k noB).x) 4))).set (k * 20 + 6) (.int .i64 (Int.tmod (hi (l.getD k noB).y) 4)) = bodiesL (closeTo l (k + 1)) := by
  rw [← closeTo_set l k h]
  refine bodiesL_set2 _ _ _ _ _ (by rw [closeTo_length]; exact h) ?_
  rw [closeTo_get l k k h, if_neg (by omega)]
  exact bodyL_close _
theorem infoInt : (Try.prog.info? 3).map (fun i => (i.zero, i.size, i.bytes)) = some (some (.int .i64 0), 1, 8) := by kernel_rfl
theorem apart_symm {v : Value} {g n cp : Nat} (h : v.ownBlock = none ∨ v.ownBlock ≠ some g) : (Value.slice (some ⟨g, 0, none⟩) n cp).ownBlock ≠ v.ownBlock := by
  rcases h with e | e
  · rw [e]; exact fun x => by cases x
  · exact fun x => e x.symm
theorem owns_base {w : World} {B B' e z n : Nat} {v : Value} {xs : List Value} (h : w.ownsRow B e z v n xs) (hB : B' ≤ B) : w.ownsRow B' e z v n xs := by
  refine ⟨h.1, ?_⟩
  rcases h.2 with hn | ⟨g, cap, cur, h1, h2, h3⟩
  · exact .inl hn
  · exact .inr ⟨g, cap, cur, h1, by omega, h3⟩
theorem owns_row_far {w : World} {B e z n b : Nat} {v : Value} {xs : List Value} {c : Array Value} (h : w.ownsRow B e z v n xs) (hb : b < B) : (w.setRow b c).ownsRow B e z v n xs := by
  refine ⟨h.1, ?_⟩
  rcases h.2 with hn | ⟨g, cap, cur, h1, h2, h3, h4⟩
  · exact .inl hn
  · exact .inr ⟨g, cap, cur, h1, h2, (setRow_other w b g c (by omega)).trans h3, h4⟩
theorem owns_set_far {w : World} {B e z n b o : Nat} {v u : Value} {xs : List Value} (h : w.ownsRow B e z v n xs) (hb : b < B) : (w.setCell ⟨b, o, none⟩ u).ownsRow B e z v n xs := by
  have hg : w.grownBy (w.setCell ⟨b, o, none⟩ u) (some b) := Only.setg (Only.refl b w) o u
  cases hv : v.ownBlock with
  | none => exact h.kept hg (.inl hv)
  | some g => exact h.kept hg (.inr (by rw [hv]; intro e; injection e with e; have := (h.lt g hv).1; omega))
set_option maxRecDepth 100000 in
set_option maxHeartbeats 8000000 in
theorem l17_Close (ad : Option Addr) (b off len cap : Nat) (zs : List Int) (m : Nat) (h : Int) (w : World) (had : 4 ≤ len → ad = some ⟨b, off, none⟩ ∧ b < w.heap.size ∧ ∀ i, i < len → w.cell? ⟨b, off + i, none⟩ = some (.int .u8 (zs.getD i 0))) (hr : ∀ i, 0 ≤ zs.getD i 0 ∧ zs.getD i 0 ≤ 255)
    (hlen : len ≤ 9223372036854775807) (hm : m ≤ 32) (hh : 0 ≤ h ∧ h ≤ 255) (n : Nat) (hn1 : n ≤ m) (hn2 : 4 * n ≤ len) (hn3 : n = m ∨ len < 4 * n + 4) :
    Calls Try.prog 27 #[.slice ad len cap, .int .i64 m, .int .u8 h] w fun e w' => ∃ vb va : Value, e = .returned (.agg #[.int .i64 0, .int .i64 0, .int .u64 1152921504606846976, .int .i64 (1 + h % 3), .int .u64 0, .int .i64 0, .int .u64 4611686018427387904, .int .i64 0, .int .u64 (h * 72057594037927936), .int .i64 0, .int .u64 (h % 4 * 4611686018427387904), .int .i64 (h / 4 % 2), .int .i64 (h / 8 % 2), vb, .slice none 0 0, .slice none 0 0, va, .int .i64 0, .int .u64 0, .int .i64 0, .int .u64 0, .int .i64 0, .int .u64 0, .slice none 0 0]) ∧ w'.ownsRow w.heap.size 28 20 vb n (bodiesL (closeTo (bodiesN zs n) n)) ∧ w'.ownsRow w.heap.size 3 1 va n (List.replicate n (.int .i64 (-1))) ∧ Below w.heap.size w w' ∧ Hid (n = 0 → vb = .slice none 0 0) ∧ Hid (n = 0 → va = .slice none 0 0) := by
  have Had := Lib.hid had
  clear had
  go_enter Try.func27, Try.ntmps27
  go_upto_region 2 with (go_at_call 72; refine (l11_World_nil h _ hh).mono ?_; rintro e u1 ⟨rfl, ho⟩; have hzu1 := Below.size ho; (try simp at hzu1); have HB2 : Hid (Below w.heap.size w u1) := Lib.hid (Below.trans (by exact pBl) (Below.mono ho pSd)); (try clear HB); have HB := HB2; clear HB2; have B2 := blk_below (g := w.heap.size) ho pSd; (try simp (disch := first | omega | (simp; done) | (simp; omega)) only [pBk] at B2); (try rw [Hid.out B_z] at B2); (try simp only [pBk] at B2); (try clear c_z f_z r_z B_z); obtain ⟨c_z, f_z, l_u1_z, r_z, B_z⟩ := blk_all B2; clear B2; clear ho)
  have e_z : blk (u1.alloc (.cells #[.int .i64 0, .int .i64 0, .int .u64 1152921504606846976, .int .i64 (1 + h % 3), .int .u64 0, .int .i64 0, .int .u64 4611686018427387904, .int .i64 0, .int .u64 (h * 72057594037927936), .int .i64 0, .int .u64 (h % 4 * 4611686018427387904), .int .i64 (h / 4 % 2), .int .i64 (h / 8 % 2), .slice none 0 0, .slice none 0 0, .slice none 0 0, .slice none 0 0, .int .i64 0, .int .u64 0, .int .i64 0, .int .u64 0, .int .i64 0, .int .u64 0, .slice none 0 0] 66)) (w.heap.size) = some (.cells #[.int .i64 0, .int .i64 0, .int .u64 0, .int .i64 0, .int .u64 0, .int .i64 0, .int .u64 0, .int .i64 0, .int .u64 0, .int .i64 0, .int .u64 0, .int .i64 0, .int .i64 0, .slice none 0 0, .slice none 0 0, .slice none 0 0, .slice none 0 0, .int .i64 0, .int .u64 0, .int .i64 0, .int .u64 0, .int .i64 0, .int .u64 0, .slice none 0 0] 66 (0, 0)) := by ((try simp (disch := first | omega | (simp; done) | (simp; omega)) only [pBk]); first | done | with_reducible rfl | with_reducible exact Hid.out (by assumption) | (with_reducible rw [Hid.out B_z]; (try simp only [pBk]); first | done | with_reducible rfl))
  have e_y : blk (u1.alloc (.cells #[.int .i64 0, .int .i64 0, .int .u64 1152921504606846976, .int .i64 (1 + h % 3), .int .u64 0, .int .i64 0, .int .u64 4611686018427387904, .int .i64 0, .int .u64 (h * 72057594037927936), .int .i64 0, .int .u64 (h % 4 * 4611686018427387904), .int .i64 (h / 4 % 2), .int .i64 (h / 8 % 2), .slice none 0 0, .slice none 0 0, .slice none 0 0, .slice none 0 0, .int .i64 0, .int .u64 0, .int .i64 0, .int .u64 0, .int .i64 0, .int .u64 0, .slice none 0 0] 66)) (u1.heap.size) = some (.cells #[.int .i64 0, .int .i64 0, .int .u64 1152921504606846976, .int .i64 (1 + h % 3), .int .u64 0, .int .i64 0, .int .u64 4611686018427387904, .int .i64 0, .int .u64 (h * 72057594037927936), .int .i64 0, .int .u64 (h % 4 * 4611686018427387904), .int .i64 (h / 4 % 2), .int .i64 (h / 8 % 2), .slice none 0 0, .slice none 0 0, .slice none 0 0, .slice none 0 0, .int .i64 0, .int .u64 0, .int .i64 0, .int .u64 0, .int .i64 0, .int .u64 0, .slice none 0 0] 66 (0, 0)) := by ((try simp (disch := first | omega | (simp; done) | (simp; omega)) only [pBk]); first | done | with_reducible rfl | with_reducible exact Hid.out (by assumption) | (with_reducible rw [Hid.out B_z]; (try simp only [pBk]); first | done | with_reducible rfl))
  have hb_ : Below w.heap.size w (u1.alloc (.cells #[.int .i64 0, .int .i64 0, .int .u64 1152921504606846976, .int .i64 (1 + h % 3), .int .u64 0, .int .i64 0, .int .u64 4611686018427387904, .int .i64 0, .int .u64 (h * 72057594037927936), .int .i64 0, .int .u64 (h % 4 * 4611686018427387904), .int .i64 (h / 4 % 2), .int .i64 (h / 8 % 2), .slice none 0 0, .slice none 0 0, .slice none 0 0, .slice none 0 0, .int .i64 0, .int .u64 0, .int .i64 0, .int .u64 0, .int .i64 0, .int .u64 0, .slice none 0 0] 66)) := by exact pBl
  have hLB : u1.heap.size + 1 ≤ (u1.alloc (.cells #[.int .i64 0, .int .i64 0, .int .u64 1152921504606846976, .int .i64 (1 + h % 3), .int .u64 0, .int .i64 0, .int .u64 4611686018427387904, .int .i64 0, .int .u64 (h * 72057594037927936), .int .i64 0, .int .u64 (h % 4 * 4611686018427387904), .int .i64 (h / 4 % 2), .int .i64 (h / 8 % 2), .slice none 0 0, .slice none 0 0, .slice none 0 0, .slice none 0 0, .int .i64 0, .int .u64 0, .int .i64 0, .int .u64 0, .int .i64 0, .int .u64 0, .slice none 0 0] 66)).heap.size := by simp
  generalize (u1.alloc (.cells #[.int .i64 0, .int .i64 0, .int .u64 1152921504606846976, .int .i64 (1 + h % 3), .int .u64 0, .int .i64 0, .int .u64 4611686018427387904, .int .i64 0, .int .u64 (h * 72057594037927936), .int .i64 0, .int .u64 (h % 4 * 4611686018427387904), .int .i64 (h / 4 % 2), .int .i64 (h / 8 % 2), .slice none 0 0, .slice none 0 0, .slice none 0 0, .slice none 0 0, .int .i64 0, .int .u64 0, .int .i64 0, .int .u64 0, .int .i64 0, .int .u64 0, .slice none 0 0] 66)) = wx1 at *
  (try clear HB); have HB := Lib.hid hb_; clear hb_
  (try clear c_z); (try clear f_z r_z B_z); obtain ⟨c_z, f_z, l_z, r_z, B_z⟩ := blk_all e_z; clear e_z; (try clear c_y); (try clear f_y r_y B_y); obtain ⟨c_y, f_y, l_y, r_y, B_y⟩ := blk_all e_y; clear e_y
  have nzwx1 : ¬ (w.heap.size = wx1.heap.size) := by omega
  have nywx1 : ¬ (u1.heap.size = wx1.heap.size) := by omega
  have hs1 := HB.out.size
  have Had2 : Hid (4 ≤ len → ad = some ⟨b, off, none⟩ ∧ b < wx1.heap.size ∧ ∀ i, i < len → wx1.cell? ⟨b, off + i, none⟩ = some (.int .u8 (zs.getD i 0))) := Lib.hid fun h4 =>
    ⟨(Had.out h4).1, by have := (Had.out h4).2.1; omega, fun i hi => (HB.out.cell (by exact (Had.out h4).2.1)).trans ((Had.out h4).2.2 i hi)⟩
  go_upto_region 3 with (go_at_call 73; refine (l9_Bodies ad b off len cap zs m _ Had2.out hr hlen hm n hn1 hn2 hn3).mono ?_; rintro e u2 ⟨v, rfl, hown, ho, hnil⟩; have ho2 := ho; obtain ⟨ao, cp, rfl⟩ := owns_form hown; have Hown := Lib.hid hown; clear hown; have hzu2 := Below.size ho; (try simp at hzu2); have HB2 : Hid (Below w.heap.size w u2) := Lib.hid (Below.trans (by exact pBl) (Below.mono ho pSd)); (try clear HB); have HB := HB2; clear HB2; have B2 := blk_below (g := w.heap.size) ho pSd; (try simp (disch := first | omega | (simp; done) | (simp; omega)) only [pBk] at B2); (try rw [Hid.out B_z] at B2); (try simp only [pBk] at B2); (try clear c_z f_z r_z B_z); obtain ⟨c_z, f_z, l_u2_z, r_z, B_z⟩ := blk_all B2; clear B2; have B2 := blk_below (g := u1.heap.size) ho pSd; (try simp (disch := first | omega | (simp; done) | (simp; omega)) only [pBk] at B2); (try rw [Hid.out B_y] at B2); (try simp only [pBk] at B2); (try clear c_y f_y r_y B_y); obtain ⟨c_y, f_y, l_u2_y, r_y, B_y⟩ := blk_all B2; clear B2; clear ho)
  have e_z : blk (u2.setCell ⟨u1.heap.size, 13, none⟩ (.slice ao n cp)) (w.heap.size) = some (.cells #[.int .i64 0, .int .i64 0, .int .u64 0, .int .i64 0, .int .u64 0, .int .i64 0, .int .u64 0, .int .i64 0, .int .u64 0, .int .i64 0, .int .u64 0, .int .i64 0, .int .i64 0, .slice none 0 0, .slice none 0 0, .slice none 0 0, .slice none 0 0, .int .i64 0, .int .u64 0, .int .i64 0, .int .u64 0, .int .i64 0, .int .u64 0, .slice none 0 0] 66 (0, 0)) := by ((try simp (disch := first | omega | (simp; done) | (simp; omega)) only [pBk]); first | done | with_reducible rfl | with_reducible exact Hid.out (by assumption) | (with_reducible rw [Hid.out B_z]; (try simp only [pBk]); first | done | with_reducible rfl) | (with_reducible rw [Hid.out B_y]; (try simp only [pBk]); first | done | with_reducible rfl))
  have e_y : blk (u2.setCell ⟨u1.heap.size, 13, none⟩ (.slice ao n cp)) (u1.heap.size) = some (.cells #[.int .i64 0, .int .i64 0, .int .u64 1152921504606846976, .int .i64 (1 + h % 3), .int .u64 0, .int .i64 0, .int .u64 4611686018427387904, .int .i64 0, .int .u64 (h * 72057594037927936), .int .i64 0, .int .u64 (h % 4 * 4611686018427387904), .int .i64 (h / 4 % 2), .int .i64 (h / 8 % 2), .slice ao n cp, .slice none 0 0, .slice none 0 0, .slice none 0 0, .int .i64 0, .int .u64 0, .int .i64 0, .int .u64 0, .int .i64 0, .int .u64 0, .slice none 0 0] 66 (0, 0)) := by ((try simp (disch := first | omega | (simp; done) | (simp; omega)) only [pBk]); first | done | with_reducible rfl | with_reducible exact Hid.out (by assumption) | (with_reducible rw [Hid.out B_z]; (try simp only [pBk]); first | done | with_reducible rfl) | (with_reducible rw [Hid.out B_y]; (try simp only [pBk]); first | done | with_reducible rfl))
  have hb_ : Below w.heap.size w (u2.setCell ⟨u1.heap.size, 13, none⟩ (.slice ao n cp)) := by exact pBl
  have Hown2 := Lib.hid (owns_set_far (o := 13) (u := .slice ao n cp) Hown.out (show u1.heap.size < wx1.heap.size by omega))
  have hz22 : u2.heap.size ≤ (u2.setCell ⟨u1.heap.size, 13, none⟩ (.slice ao n cp)).heap.size := by simp
  generalize (u2.setCell ⟨u1.heap.size, 13, none⟩ (.slice ao n cp)) = wx2 at *
  (try clear HB); have HB := Lib.hid hb_; clear hb_
  (try clear c_z); (try clear f_z r_z B_z); obtain ⟨c_z, f_z, l_z, r_z, B_z⟩ := blk_all e_z; clear e_z; (try clear c_y); (try clear f_y r_y B_y); obtain ⟨c_y, f_y, l_y, r_y, B_y⟩ := blk_all e_y; clear e_y
  have nzwx2 : ¬ (w.heap.size = wx2.heap.size) := by omega
  have nywx2 : ¬ (u1.heap.size = wx2.heap.size) := by omega
  clear Hown Had Had2 hr
  go_wp2_with fail
  go_loopw [8] (fun i wr => ∃ (k : Nat) (va : Value), k ≤ n ∧ i = .int .i64 (k : Int) ∧ blk wr w.heap.size = some (.cells #[.int .i64 0, .int .i64 0, .int .u64 0, .int .i64 0, .int .u64 0, .int .i64 0, .int .u64 0, .int .i64 0, .int .u64 0, .int .i64 0, .int .u64 0, .int .i64 0, .int .i64 0, .slice none 0 0, .slice none 0 0, .slice none 0 0, .slice none 0 0, .int .i64 0, .int .u64 0, .int .i64 0, .int .u64 0, .int .i64 0, .int .u64 0, .slice none 0 0] 66 (0, 0)) ∧ blk wr u1.heap.size = some (.cells #[.int .i64 0, .int .i64 0, .int .u64 1152921504606846976, .int .i64 (1 + h % 3), .int .u64 0, .int .i64 0, .int .u64 4611686018427387904, .int .i64 0, .int .u64 (h * 72057594037927936), .int .i64 0, .int .u64 (h % 4 * 4611686018427387904), .int .i64 (h / 4 % 2), .int .i64 (h / 8 % 2), .slice ao n cp, .slice none 0 0, .slice none 0 0, va, .int .i64 0, .int .u64 0, .int .i64 0, .int .u64 0, .int .i64 0, .int .u64 0, .slice none 0 0] 66 (0, 0)) ∧ wr.ownsRow wx1.heap.size 28 20 (.slice ao n cp) n (bodiesL (closeTo (bodiesN zs n) k)) ∧ wr.ownsRow wx1.heap.size 3 1 va k (List.replicate k (.int .i64 (-1))) ∧ Below w.heap.size w wr ∧ wx1.heap.size ≤ wr.heap.size ∧ Hid (k = 0 → va = .slice none 0 0)) (fun i _ => n - (intOf i).toNat)
  case atStart => exact ⟨0, _, Nat.zero_le _, rfl, B_z.out, B_y.out, by rw [show closeTo (bodiesN zs n) 0 = bodiesN zs n by unfold closeTo; simp]; exact Hown2.out, World.ownsRow_nil _ _ _ _, HB.out, by omega, Lib.hid fun _ => rfl⟩
  case round =>
    obtain ⟨k, va, hk, rfl, e_z, e_y, hown, hva, hbel, hsz, hvn⟩ := hrel
    obtain ⟨aa, ca, rfl⟩ := owns_form hva
    (try clear HB c_z f_z r_z B_z c_y f_y r_y B_y); have HB := Lib.hid hbel; clear hbel
    (try clear c_z); (try clear f_z r_z B_z); obtain ⟨c_z, f_z, l_z, r_z, B_z⟩ := blk_all e_z; clear e_z; (try clear c_y); (try clear f_y r_y B_y); obtain ⟨c_y, f_y, l_y, r_y, B_y⟩ := blk_all e_y; clear e_y
    have Hown := Lib.hid hown
    have Hva := Lib.hid hva
    clear hown hva Hown2
    by_cases h1 : k < n
    · have h1' : ((k : Int) < (n : Int)) := by omega
      obtain ⟨g, cp2, hv, hg1, hg2⟩ := owns_ptr Hown.out (by omega)
      injection hv with hv1 hv2 hv3
      subst hv1 hv3
      have hf := closeTo_get (bodiesN zs n) k k (by rw [bodiesN_length]; exact h1)
      rw [if_neg (by omega)] at hf
      obtain ⟨be, hbe⟩ : ∃ be, be = (bodiesN zs n).getD k noB := ⟨_, rfl⟩
      rw [← hbe] at hf
      have hrg := owns_range Hown.out (by unfold closeTo; simp [bodiesN_length]; omega) h1
      rw [hf] at hrg
      have cx := hrg 4 _ rfl
      have cy := hrg 6 _ rfl
      have fx := Hown.out.frozenAt (k * 20 + 4)
      have fy := Hown.out.frozenAt (k * 20 + 6)
      have hbe2 := Lib.hid hbe
      clear hbe hf hrg
      have v0 : 0 ≤ (k : Int) ∧ (k : Int) < (n : Int) := by omega
      have ng : ¬ (g = u1.heap.size) := by omega
      have ng' : ¬ (u1.heap.size = g) := by omega
      go_upto_region 6 with fail
      go_region
      go_upto_region 7 with fail
      go_region
      go_upto_region 8 with fail
      have Hown3 : Hid ((((wr.setCell ⟨g, k * 20 + 4, none⟩ (.int .i64 (Int.tmod (hi be.x) 4))).setCell ⟨g, k * 20 + 6, none⟩ (.int .i64 (Int.tmod (hi be.y) 4))).drew.drew).ownsRow wx1.heap.size 28 20 (.slice (some ⟨g, 0, none⟩) n cp) n (bodiesL (closeTo (bodiesN zs n) (k + 1)))) := by
        have s1 := (Hown.out.stored (k * 20 + 4) (.int .i64 (Int.tmod (hi be.x) 4))).1
        have s2 := (s1.stored (k * 20 + 6) (.int .i64 (Int.tmod (hi be.y) 4))).1
        rw [hbe2.out, close_step _ _ (by rw [bodiesN_length]; exact h1)] at s2
        rw [hbe2.out]
        exact Lib.hid s2
      have hap := owns_apart Hva.out Hown.out (by decide)
      have Hva3 : Hid ((((wr.setCell ⟨g, k * 20 + 4, none⟩ (.int .i64 (Int.tmod (hi be.x) 4))).setCell ⟨g, k * 20 + 6, none⟩ (.int .i64 (Int.tmod (hi be.y) 4))).drew.drew).ownsRow wx1.heap.size 3 1 (.slice aa k ca) k (List.replicate k (.int .i64 (-1)))) :=
        Lib.hid (owns_set_ne (owns_set_ne Hva.out hap) hap)
      have e_z : blk ((wr.setCell ⟨g, k * 20 + 4, none⟩ (.int .i64 (Int.tmod (hi be.x) 4))).setCell ⟨g, k * 20 + 6, none⟩ (.int .i64 (Int.tmod (hi be.y) 4))).drew.drew (w.heap.size) = some (.cells #[.int .i64 0, .int .i64 0, .int .u64 0, .int .i64 0, .int .u64 0, .int .i64 0, .int .u64 0, .int .i64 0, .int .u64 0, .int .i64 0, .int .u64 0, .int .i64 0, .int .i64 0, .slice none 0 0, .slice none 0 0, .slice none 0 0, .slice none 0 0, .int .i64 0, .int .u64 0, .int .i64 0, .int .u64 0, .int .i64 0, .int .u64 0, .slice none 0 0] 66 (0, 0)) := by ((try simp (disch := first | omega | (simp; done) | (simp; omega)) only [pBk]); first | done | with_reducible rfl | with_reducible exact Hid.out (by assumption) | (with_reducible rw [Hid.out B_z]; (try simp only [pBk]); first | done | with_reducible rfl) | (with_reducible rw [Hid.out B_y]; (try simp only [pBk]); first | done | with_reducible rfl))
      have e_y : blk ((wr.setCell ⟨g, k * 20 + 4, none⟩ (.int .i64 (Int.tmod (hi be.x) 4))).setCell ⟨g, k * 20 + 6, none⟩ (.int .i64 (Int.tmod (hi be.y) 4))).drew.drew (u1.heap.size) = some (.cells #[.int .i64 0, .int .i64 0, .int .u64 1152921504606846976, .int .i64 (1 + h % 3), .int .u64 0, .int .i64 0, .int .u64 4611686018427387904, .int .i64 0, .int .u64 (h * 72057594037927936), .int .i64 0, .int .u64 (h % 4 * 4611686018427387904), .int .i64 (h / 4 % 2), .int .i64 (h / 8 % 2), .slice (some ⟨g, 0, none⟩) n cp, .slice none 0 0, .slice none 0 0, .slice aa k ca, .int .i64 0, .int .u64 0, .int .i64 0, .int .u64 0, .int .i64 0, .int .u64 0, .slice none 0 0] 66 (0, 0)) := by ((try simp (disch := first | omega | (simp; done) | (simp; omega)) only [pBk]); first | done | with_reducible rfl | with_reducible exact Hid.out (by assumption) | (with_reducible rw [Hid.out B_z]; (try simp only [pBk]); first | done | with_reducible rfl) | (with_reducible rw [Hid.out B_y]; (try simp only [pBk]); first | done | with_reducible rfl))
      have hb_ : Below w.heap.size w ((wr.setCell ⟨g, k * 20 + 4, none⟩ (.int .i64 (Int.tmod (hi be.x) 4))).setCell ⟨g, k * 20 + 6, none⟩ (.int .i64 (Int.tmod (hi be.y) 4))).drew.drew := by exact pBl
      have hsz3 : wr.heap.size ≤ (((wr.setCell ⟨g, k * 20 + 4, none⟩ (.int .i64 (Int.tmod (hi be.x) 4))).setCell ⟨g, k * 20 + 6, none⟩ (.int .i64 (Int.tmod (hi be.y) 4))).drew.drew).heap.size := by simp
      generalize ((wr.setCell ⟨g, k * 20 + 4, none⟩ (.int .i64 (Int.tmod (hi be.x) 4))).setCell ⟨g, k * 20 + 6, none⟩ (.int .i64 (Int.tmod (hi be.y) 4))).drew.drew = wx3 at *
      (try clear HB); have HB := Lib.hid hb_; clear hb_
      (try clear c_z); (try clear f_z r_z B_z); obtain ⟨c_z, f_z, l_z, r_z, B_z⟩ := blk_all e_z; clear e_z; (try clear c_y); (try clear f_y r_y B_y); obtain ⟨c_y, f_y, l_y, r_y, B_y⟩ := blk_all e_y; clear e_y
      have nzwx3 : ¬ (w.heap.size = wx3.heap.size) := by omega
      have nywx3 : ¬ (u1.heap.size = wx3.heap.size) := by omega
      have HO := Hown3
      have HV := Hva3
      clear Hown3 Hva3 Hown Hva cx cy fx fy v0
      obtain ⟨i0, hi0, hz0, hz1, hz2⟩ := info_parts infoInt
      go_wp2_with (at_builtin; refine wpList_append_own_at _ rfl _ _ 63 rfl wx1.heap.size 3 i0 (.int .i64 0) 1 8 Try.underlying63 hi0 hz0 hz1 hz2 rfl (by decide) _ _ _ rfl (HV.out.alloc _) ⟨wx3.heap.size, 0, none⟩ 1 1 [.int .i64 (-1)] rfl rfl (cell_one_new _ _ _) ?c2 ?c3 ?c4 ?c5 ?_)
      case c2 => rfl
      case c3 => unfold maxLen; omega
      case c4 => omega
      case c5 => omega
      intro v' w4 hva4 hgrow hnl hbk
      have hap3 := owns_apart HV.out HO.out (by decide)
      have far : ∀ q, q < wx1.heap.size → blk w4 q = blk wx3 q := fun q hq =>
        (hgrow.block q (by show q < (wx3.heap.push _).size; simp; omega) (fun e => by have := (HV.out.lt q e.symm).1; omega)).trans (blk_alloc _ (by omega))
      have e_z := (far w.heap.size (by omega)).trans B_z.out
      have e_y := (far u1.heap.size (by omega)).trans B_y.out
      have hb4 : Below w.heap.size w w4 := Below.grown (HB.out.alloc (by omega) _) hgrow (by show w.heap.size ≤ (wx3.heap.push _).size; simp; omega) (fun q hq => by have := (HV.out.lt q hq).1; omega)
      have hz4 : wx3.heap.size + 1 ≤ w4.heap.size := by have := hgrow.size; simpa using this
      have HO4 := Lib.hid ((HO.out.alloc (.cells #[.int .i64 (-1)] 3)).kept hgrow (.inr (apart_symm hap3)))
      rw [show ([.int .i64 (-1)] : List Value) = List.replicate 1 (.int .i64 (-1)) from rfl, List.replicate_append_replicate] at hva4
      obtain ⟨ao', cp', rfl⟩ := owns_form hva4
      have HV4 := Lib.hid hva4
      clear hva4 hgrow hnl hbk hap3 far HO HV
      (try clear HB c_z f_z r_z B_z c_y f_y r_y B_y); have HB := Lib.hid hb4; clear hb4
      (try clear c_z); (try clear f_z r_z B_z); obtain ⟨c_z, f_z, l_z, r_z, B_z⟩ := blk_all e_z; clear e_z; (try clear c_y); (try clear f_y r_y B_y); obtain ⟨c_y, f_y, l_y, r_y, B_y⟩ := blk_all e_y; clear e_y
      clear hvn
      go_wp2_with fail
      have e16 : (#[.int .i64 0, .int .i64 0, .int .u64 1152921504606846976, .int .i64 (1 + h % 3), .int .u64 0, .int .i64 0, .int .u64 4611686018427387904, .int .i64 0, .int .u64 (h * 72057594037927936), .int .i64 0, .int .u64 (h % 4 * 4611686018427387904), .int .i64 (h / 4 % 2), .int .i64 (h / 8 % 2), .slice (some ⟨g, 0, none⟩) n cp, .slice none 0 0, .slice none 0 0, .slice aa k ca, .int .i64 0, .int .u64 0, .int .i64 0, .int .u64 0, .int .i64 0, .int .u64 0, .slice none 0 0] : Array Value).setIfInBounds 16 (.slice ao' (k + 1) cp') = #[.int .i64 0, .int .i64 0, .int .u64 1152921504606846976, .int .i64 (1 + h % 3), .int .u64 0, .int .i64 0, .int .u64 4611686018427387904, .int .i64 0, .int .u64 (h * 72057594037927936), .int .i64 0, .int .u64 (h % 4 * 4611686018427387904), .int .i64 (h / 4 % 2), .int .i64 (h / 8 % 2), .slice (some ⟨g, 0, none⟩) n cp, .slice none 0 0, .slice none 0 0, .slice ao' (k + 1) cp', .int .i64 0, .int .u64 0, .int .i64 0, .int .u64 0, .int .i64 0, .int .u64 0, .slice none 0 0] := rfl
      refine ⟨⟨k + 1, .slice ao' (k + 1) cp', by omega, by congr 1, ?ez, ?ey, owns_set_far HO4.out (by omega), owns_set_far HV4.out (by omega), HB.out.setCell (by show w.heap.size ≤ u1.heap.size; omega) _, ?es, Lib.hid fun x => by omega⟩, ?em⟩
      case ez => rw [blk_far _ _ _ (by omega)]; exact B_z.out
      case ey => rw [blk_set, B_y.out, putB_cells, e16]
      case es => simp; omega
      case em => simp only [intOf]; omega
    · have h1' : ¬ ((k : Int) < (n : Int)) := by omega
      have r0_z := row0_blk (Hid.out B_z)
      go_wp2_with fail
      obtain rfl : n = k := by omega
      refine bodyPost_ret ?rq rfl ⟨_, _, rfl, owns_base (owns_row_far Hown.out (by omega)) (by omega), owns_base (owns_row_far Hva.out (by omega)) (by omega), Below.setRow HB.out (Nat.le_refl _) _, hnil, hvn⟩
      case rq => exact results_one_world Try.results27 _ _ _ _ rfl (by simp (maxDischargeDepth := 9) [go_sem, *]; done) rfl
end Go.Proofs.Ytdphhkbbphfjlaa
