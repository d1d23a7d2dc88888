/- Rows that are read; r22.Same of two worlds that are the same. -/
import Derived.Test.YtdphhkbbphfjlaaCWaF
namespace Go.Proofs.Ytdphhkbbphfjlaa
set_option linter.unusedVariables false
set_option linter.unusedSimpArgs false
open Go.RowKit
attribute [local go_sem] uwrap_lo lo_lo hi_lo val_hl val_00 v4_q
attribute [local go_sem ↓] Go.wp_at_zero Go.wp_at_succ
attribute [local go_sem] nOf_ok nOf_err eOf_ok eOf_err xOf_ok yOf_ok xOf_err yOf_err vecX_ok vecX_err vecX_ok_err hi_z lo_z okB_ok okB_err hitV_some hitV_none hitV_err hitB_some hitB_none hitB_err
attribute [local go_sem ↓] loadRow_body
attribute [local go_sem] rowAt_at rowAt_past rowAt_drew rowAt_far run_load_body row_0_0 row_0_1 row_0_2 row_0_3 row_0_4 row_0_5 row_1_0 row_1_1 row_1_2 row_1_3 row_1_4 row_2_0 row_2_1 row_2_2 row_2_3
attribute [local go_sem ↓] storeRow_body loadVar_body
attribute [local go_sem] run_loadV_body rowAt_same run_store_body row0_at row0_past row0_drew row0_far row0_rowfar rowAt_rowfar setRow_a2 setRow_b2 setRow_alloc cell_setRow_far frozen_setRow_far allOne_nil allOne_int allOne_bool allOne_slice
attribute [local go_sem ↓] loadRow_world storeRow_world loadVar_world
attribute [local go_sem] run_load_world run_store_world run_loadV_world range_alloc_iff range_drew_iff range_set_iff
/-- a slice value that reads as a row of cells, z an element -/
def Reads (w : World) (z : Nat) (v : Value) (n : Nat) (xs : List Value) : Prop := xs.length = n * z ∧ ∃ a c, v = .slice a n c ∧ (0 < n → ∃ g o, a = some ⟨g, o, none⟩ ∧ w.rangeAt g o xs)
theorem cell_lt {w : World} {g o : Nat} {x : Value} (h : w.cell? ⟨g, o, none⟩ = some x) : g < w.heap.size := by
  rcases Nat.lt_or_ge g w.heap.size with h1 | h1
  · exact h1
  · unfold World.cell? at h
    simp [Array.getElem?_eq_none h1] at h
theorem Reads.below {w w' : World} {z n : Nat} {v : Value} {xs : List Value} (h : Reads w z v n xs) (hz : 0 < z) (hb : Below w.heap.size w w') : Reads w' z v n xs := by
  obtain ⟨h1, a, c, rfl, h2⟩ := h
  refine ⟨h1, a, c, rfl, fun hn => ?_⟩
  obtain ⟨g, o, rfl, h3⟩ := h2 hn
  refine ⟨g, o, rfl, fun j v hv => ?_⟩
  have := h3 j v hv
  exact (hb.cell (p := ⟨g, o + j, none⟩) (cell_lt this)).trans this
theorem Reads.of_owns {w : World} {B e z n : Nat} {v : Value} {xs : List Value} (h : w.ownsRow B e z v n xs) : Reads w z v n xs := by
  refine ⟨h.1, ?_⟩
  rcases h.2 with ⟨rfl, rfl⟩ | ⟨g, cap, cur, rfl, hB, hg, hcap, hmax, hsz, htake⟩
  · exact ⟨none, 0, rfl, fun h => by omega⟩
  · refine ⟨_, _, rfl, fun hn => ⟨g, 0, rfl, fun j x hx => ?_⟩⟩
    rw [cell_of_row w g (0 + j) cur e (0, 0) hg, ← Array.getElem?_toList, Nat.zero_add]
    rw [← htake, List.getElem?_take] at hx
    split at hx
    · exact hx
    · cases hx
theorem Reads.nil (w : World) (z : Nat) : Reads w z (.slice none 0 0) 0 [] := ⟨by simp, none, 0, rfl, fun h => by omega⟩
theorem flatMap_len {α : Type} (f : α → List Value) (z : Nat) (hf : ∀ x, (f x).length = z) : ∀ l : List α, (l.flatMap f).length = l.length * z
  | [] => by simp
  | x :: l => by rw [List.flatMap_cons, List.length_append, hf, flatMap_len f z hf l, List.length_cons, Nat.succ_mul]; omega
theorem flatMap_get {α : Type} (f : α → List Value) (z : Nat) (hf : ∀ x, (f x).length = z) (d : α) : ∀ (l : List α) (i j : Nat), i < l.length → j < z → (l.flatMap f)[i * z + j]? = (f (l.getD i d))[j]?
  | [], i, j, h, _ => by simp at h
  | x :: l, 0, j, _, hj => by
    rw [List.flatMap_cons, List.getElem?_append_left (by rw [hf]; omega)]
    simp
  | x :: l, i + 1, j, h, hj => by
    rw [List.flatMap_cons, List.getElem?_append_right (by rw [hf, Nat.succ_mul]; omega), hf, show (i + 1) * z + j - z = i * z + j by rw [Nat.succ_mul]; omega, flatMap_get f z hf d l i j (by simpa using h) hj]
    simp
/-- one element of a row that is read -/
theorem Reads.at {α : Type} {f : α → List Value} {z : Nat} (hf : ∀ x, (f x).length = z) (d : α) {w : World} {v : Value} {n : Nat} {l : List α} (h : Reads w z v n (l.flatMap f)) (hl : l.length = n) (i : Nat) (hi : i < n) :
    ∃ g o c, v = .slice (some ⟨g, o, none⟩) n c ∧ w.rangeAt g (o + i * z) (f (l.getD i d)) := by
  obtain ⟨h1, a, c, rfl, h2⟩ := h
  obtain ⟨g, o, rfl, h3⟩ := h2 (by omega)
  refine ⟨g, o, c, rfl, fun j x hx => ?_⟩
  have hj : j < z := by have := (List.getElem?_eq_some_iff.1 hx).1; rwa [hf] at this
  have := h3 (i * z + j) x (by rw [flatMap_get f z hf d l i j (by omega) hj]; exact hx)
  rwa [← Nat.add_assoc] at this
theorem Reads.form {w : World} {z n : Nat} {v : Value} {xs : List Value} (h : Reads w z v n xs) : ∃ a c, v = .slice a n c := by
  obtain ⟨_, a, c, rfl, _⟩ := h
  exact ⟨a, c, rfl⟩
/-- tethers, rails, events -/
structure TethI where
  a : Int
  b : Int
  len : Int
  lim : Int
structure RailI where
  par : Int
  long : Int
  ecc : Int
  turn : Int
  phase : Int
  period : Int
  sph : Int
structure EvI where
  tick : Int
  kind : Int
  a : Int
  b : Int
def tethL (t : TethI) : List Value := [.int .i64 t.a, .int .i64 t.b, .int .i64 (hi t.len), .int .u64 (lo t.len), .int .i64 (hi t.lim), .int .u64 (lo t.lim)]
def railL (t : RailI) : List Value := [.int .i64 t.par, .int .i64 (hi t.long), .int .u64 (lo t.long), .int .i64 (hi t.ecc), .int .u64 (lo t.ecc), .int .i64 t.turn, .int .i64 t.phase, .int .i64 t.period, .int .i64 (hi t.sph), .int .u64 (lo t.sph)]
def evL (t : EvI) : List Value := [.int .i64 t.tick, .int .i64 t.kind, .int .i64 t.a, .int .i64 t.b]
def intL (n : Int) : List Value := [.int .i64 n]
theorem tethL_length (t : TethI) : (tethL t).length = 6 := rfl
theorem railL_length (t : RailI) : (railL t).length = 10 := rfl
theorem evL_length (t : EvI) : (evL t).length = 4 := rfl
theorem intL_length (t : Int) : (intL t).length = 1 := rfl
def noT : TethI := ⟨0, 0, 0, 0⟩
def noR : RailI := ⟨0, 0, 0, 0, 0, 0, 0⟩
def noE : EvI := ⟨0, 0, 0, 0⟩
theorem loadRow_teth (v : Value) : Instr.loadAt 89 v = loadRow 89 v := loadRow_eq _ _
theorem loadRow_rail (v : Value) : Instr.loadAt 133 v = loadRow 133 v := loadRow_eq _ _
theorem loadRow_ev (v : Value) : Instr.loadAt 137 v = loadRow 137 v := loadRow_eq _ _
theorem run_load_teth {W : World} {g o : Nat} (b : TethI) (h : W.rangeAt g o (tethL b)) : (loadRow 89 (.pointer (some ⟨g, o, none⟩))).run Try.prog W = .ok (.agg (tethL b).toArray) W := by
  rw [← loadRow_eq]
  exact run_loadAt_mid W g o 89 (tethL b) _ h Try.underlying89 rfl (by kernel_rfl)
theorem run_load_rail {W : World} {g o : Nat} (b : RailI) (h : W.rangeAt g o (railL b)) : (loadRow 133 (.pointer (some ⟨g, o, none⟩))).run Try.prog W = .ok (.agg (railL b).toArray) W := by
  rw [← loadRow_eq]
  exact run_loadAt_mid W g o 133 (railL b) _ h Try.underlying133 rfl (by kernel_rfl)
theorem run_load_ev {W : World} {g o : Nat} (b : EvI) (h : W.rangeAt g o (evL b)) : (loadRow 137 (.pointer (some ⟨g, o, none⟩))).run Try.prog W = .ok (.agg (evL b).toArray) W := by
  rw [← loadRow_eq]
  exact run_loadAt_mid W g o 137 (evL b) _ h Try.underlying137 rfl (by kernel_rfl)
attribute [local go_sem ↓] loadRow_teth loadRow_rail loadRow_ev
set_option maxRecDepth 100000 in
set_option maxHeartbeats 8000000 in
theorem r22_Same (q0 q1 q2 q3 q4 q5 q6 q7 q8 q9 q10 q11 q12 q13 q14 q15 q16 q17 q18 : Int) (vb1 vb2 vt1 vt2 vr1 vr2 va1 va2 ve1 ve2 : Value) (nb nt nr na ne : Nat) (lb : List BodyI) (lt : List TethI) (lr : List RailI) (la : List Int) (le : List EvI) (w : World) (hb1 : Reads w 20 vb1 nb (lb.flatMap bodyL)) (hb2 : Reads w 20 vb2 nb (lb.flatMap bodyL)) (kb : lb.length = nb) (jb : nb ≤ 100000) (ht1 : Reads w 6 vt1 nt (lt.flatMap tethL)) (ht2 : Reads w 6 vt2 nt (lt.flatMap tethL)) (kt : lt.length = nt) (jt : nt ≤ 100000) (hr1 : Reads w 10 vr1 nr (lr.flatMap railL)) (hr2 : Reads w 10 vr2 nr (lr.flatMap railL)) (kr : lr.length = nr) (jr : nr ≤ 100000) (ha1 : Reads w 1 va1 na (la.flatMap intL)) (ha2 : Reads w 1 va2 na (la.flatMap intL)) (ka : la.length = na) (ja : na ≤ 100000) (he1 : Reads w 4 ve1 ne (le.flatMap evL)) (he2 : Reads w 4 ve2 ne (le.flatMap evL)) (ke : le.length = ne) (je : ne ≤ 100000) :
    Calls Try.prog 30 #[.agg #[.int .i64 q0, .int .i64 q1, .int .u64 q2, .int .i64 q3, .int .u64 q4, .int .i64 q5, .int .u64 q6, .int .i64 q7, .int .u64 q8, .int .i64 q9, .int .u64 q10, .int .i64 q11, .int .i64 q12, vb1, vt1, vr1, va1, .int .i64 q13, .int .u64 q14, .int .i64 q15, .int .u64 q16, .int .i64 q17, .int .u64 q18, ve1], .agg #[.int .i64 q0, .int .i64 q1, .int .u64 q2, .int .i64 q3, .int .u64 q4, .int .i64 q5, .int .u64 q6, .int .i64 q7, .int .u64 q8, .int .i64 q9, .int .u64 q10, .int .i64 q11, .int .i64 q12, vb2, vt2, vr2, va2, .int .i64 q13, .int .u64 q14, .int .i64 q15, .int .u64 q16, .int .i64 q17, .int .u64 q18, ve2]] w fun e w' => e = .returned (.bool true) ∧ Below w.heap.size w w' := by
  obtain ⟨ab1, cb1, rfl⟩ := hb1.form
  obtain ⟨ab2, cb2, rfl⟩ := hb2.form
  have Hb1 := Lib.hid hb1
  have Hb2 := Lib.hid hb2
  have Kb := Lib.hid kb
  clear hb1 hb2 kb
  obtain ⟨at1, ct1, rfl⟩ := ht1.form
  obtain ⟨at2, ct2, rfl⟩ := ht2.form
  have Ht1 := Lib.hid ht1
  have Ht2 := Lib.hid ht2
  have Kt := Lib.hid kt
  clear ht1 ht2 kt
  obtain ⟨ar1, cr1, rfl⟩ := hr1.form
  obtain ⟨ar2, cr2, rfl⟩ := hr2.form
  have Hr1 := Lib.hid hr1
  have Hr2 := Lib.hid hr2
  have Kr := Lib.hid kr
  clear hr1 hr2 kr
  obtain ⟨aa1, ca1, rfl⟩ := ha1.form
  obtain ⟨aa2, ca2, rfl⟩ := ha2.form
  have Ha1 := Lib.hid ha1
  have Ha2 := Lib.hid ha2
  have Ka := Lib.hid ka
  clear ha1 ha2 ka
  obtain ⟨ae1, ce1, rfl⟩ := he1.form
  obtain ⟨ae2, ce2, rfl⟩ := he2.form
  have He1 := Lib.hid he1
  have He2 := Lib.hid he2
  have Ke := Lib.hid ke
  clear he1 he2 ke
  go_enter Try.func30, Try.ntmps30
  go_upto_region 5 with fail
  have e_x : blk ((w.alloc (.cells #[.int .i64 q0, .int .i64 q1, .int .u64 q2, .int .i64 q3, .int .u64 q4, .int .i64 q5, .int .u64 q6, .int .i64 q7, .int .u64 q8, .int .i64 q9, .int .u64 q10, .int .i64 q11, .int .i64 q12, .slice ab1 nb cb1, .slice at1 nt ct1, .slice ar1 nr cr1, .slice aa1 na ca1, .int .i64 q13, .int .u64 q14, .int .i64 q15, .int .u64 q16, .int .i64 q17, .int .u64 q18, .slice ae1 ne ce1] 66)).alloc (.cells #[.int .i64 q0, .int .i64 q1, .int .u64 q2, .int .i64 q3, .int .u64 q4, .int .i64 q5, .int .u64 q6, .int .i64 q7, .int .u64 q8, .int .i64 q9, .int .u64 q10, .int .i64 q11, .int .i64 q12, .slice ab2 nb cb2, .slice at2 nt ct2, .slice ar2 nr cr2, .slice aa2 na ca2, .int .i64 q13, .int .u64 q14, .int .i64 q15, .int .u64 q16, .int .i64 q17, .int .u64 q18, .slice ae2 ne ce2] 66)) (w.heap.size) = some (.cells #[.int .i64 q0, .int .i64 q1, .int .u64 q2, .int .i64 q3, .int .u64 q4, .int .i64 q5, .int .u64 q6, .int .i64 q7, .int .u64 q8, .int .i64 q9, .int .u64 q10, .int .i64 q11, .int .i64 q12, .slice ab1 nb cb1, .slice at1 nt ct1, .slice ar1 nr cr1, .slice aa1 na ca1, .int .i64 q13, .int .u64 q14, .int .i64 q15, .int .u64 q16, .int .i64 q17, .int .u64 q18, .slice ae1 ne ce1] 66 (0, 0)) := by ((try simp (disch := first | omega | (simp; done) | (simp; omega)) only [pBk]); first | done | with_reducible rfl | with_reducible exact Hid.out (by assumption) | (with_reducible rw [Hid.out B_zz]; (try simp only [pBk]); first | done | with_reducible rfl))
  have e_z : blk ((w.alloc (.cells #[.int .i64 q0, .int .i64 q1, .int .u64 q2, .int .i64 q3, .int .u64 q4, .int .i64 q5, .int .u64 q6, .int .i64 q7, .int .u64 q8, .int .i64 q9, .int .u64 q10, .int .i64 q11, .int .i64 q12, .slice ab1 nb cb1, .slice at1 nt ct1, .slice ar1 nr cr1, .slice aa1 na ca1, .int .i64 q13, .int .u64 q14, .int .i64 q15, .int .u64 q16, .int .i64 q17, .int .u64 q18, .slice ae1 ne ce1] 66)).alloc (.cells #[.int .i64 q0, .int .i64 q1, .int .u64 q2, .int .i64 q3, .int .u64 q4, .int .i64 q5, .int .u64 q6, .int .i64 q7, .int .u64 q8, .int .i64 q9, .int .u64 q10, .int .i64 q11, .int .i64 q12, .slice ab2 nb cb2, .slice at2 nt ct2, .slice ar2 nr cr2, .slice aa2 na ca2, .int .i64 q13, .int .u64 q14, .int .i64 q15, .int .u64 q16, .int .i64 q17, .int .u64 q18, .slice ae2 ne ce2] 66)) (w.heap.size + 1) = some (.cells #[.int .i64 q0, .int .i64 q1, .int .u64 q2, .int .i64 q3, .int .u64 q4, .int .i64 q5, .int .u64 q6, .int .i64 q7, .int .u64 q8, .int .i64 q9, .int .u64 q10, .int .i64 q11, .int .i64 q12, .slice ab2 nb cb2, .slice at2 nt ct2, .slice ar2 nr cr2, .slice aa2 na ca2, .int .i64 q13, .int .u64 q14, .int .i64 q15, .int .u64 q16, .int .i64 q17, .int .u64 q18, .slice ae2 ne ce2] 66 (0, 0)) := by ((try simp (disch := first | omega | (simp; done) | (simp; omega)) only [pBk]); first | done | with_reducible rfl | with_reducible exact Hid.out (by assumption) | (with_reducible rw [Hid.out B_zz]; (try simp only [pBk]); first | done | with_reducible rfl))
  have hb_ : Below w.heap.size w ((w.alloc (.cells #[.int .i64 q0, .int .i64 q1, .int .u64 q2, .int .i64 q3, .int .u64 q4, .int .i64 q5, .int .u64 q6, .int .i64 q7, .int .u64 q8, .int .i64 q9, .int .u64 q10, .int .i64 q11, .int .i64 q12, .slice ab1 nb cb1, .slice at1 nt ct1, .slice ar1 nr cr1, .slice aa1 na ca1, .int .i64 q13, .int .u64 q14, .int .i64 q15, .int .u64 q16, .int .i64 q17, .int .u64 q18, .slice ae1 ne ce1] 66)).alloc (.cells #[.int .i64 q0, .int .i64 q1, .int .u64 q2, .int .i64 q3, .int .u64 q4, .int .i64 q5, .int .u64 q6, .int .i64 q7, .int .u64 q8, .int .i64 q9, .int .u64 q10, .int .i64 q11, .int .i64 q12, .slice ab2 nb cb2, .slice at2 nt ct2, .slice ar2 nr cr2, .slice aa2 na ca2, .int .i64 q13, .int .u64 q14, .int .i64 q15, .int .u64 q16, .int .i64 q17, .int .u64 q18, .slice ae2 ne ce2] 66)) := by exact pBl
  have hLB : w.heap.size + 2 ≤ ((w.alloc (.cells #[.int .i64 q0, .int .i64 q1, .int .u64 q2, .int .i64 q3, .int .u64 q4, .int .i64 q5, .int .u64 q6, .int .i64 q7, .int .u64 q8, .int .i64 q9, .int .u64 q10, .int .i64 q11, .int .i64 q12, .slice ab1 nb cb1, .slice at1 nt ct1, .slice ar1 nr cr1, .slice aa1 na ca1, .int .i64 q13, .int .u64 q14, .int .i64 q15, .int .u64 q16, .int .i64 q17, .int .u64 q18, .slice ae1 ne ce1] 66)).alloc (.cells #[.int .i64 q0, .int .i64 q1, .int .u64 q2, .int .i64 q3, .int .u64 q4, .int .i64 q5, .int .u64 q6, .int .i64 q7, .int .u64 q8, .int .i64 q9, .int .u64 q10, .int .i64 q11, .int .i64 q12, .slice ab2 nb cb2, .slice at2 nt ct2, .slice ar2 nr cr2, .slice aa2 na ca2, .int .i64 q13, .int .u64 q14, .int .i64 q15, .int .u64 q16, .int .i64 q17, .int .u64 q18, .slice ae2 ne ce2] 66)).heap.size := by simp
  generalize ((w.alloc (.cells #[.int .i64 q0, .int .i64 q1, .int .u64 q2, .int .i64 q3, .int .u64 q4, .int .i64 q5, .int .u64 q6, .int .i64 q7, .int .u64 q8, .int .i64 q9, .int .u64 q10, .int .i64 q11, .int .i64 q12, .slice ab1 nb cb1, .slice at1 nt ct1, .slice ar1 nr cr1, .slice aa1 na ca1, .int .i64 q13, .int .u64 q14, .int .i64 q15, .int .u64 q16, .int .i64 q17, .int .u64 q18, .slice ae1 ne ce1] 66)).alloc (.cells #[.int .i64 q0, .int .i64 q1, .int .u64 q2, .int .i64 q3, .int .u64 q4, .int .i64 q5, .int .u64 q6, .int .i64 q7, .int .u64 q8, .int .i64 q9, .int .u64 q10, .int .i64 q11, .int .i64 q12, .slice ab2 nb cb2, .slice at2 nt ct2, .slice ar2 nr cr2, .slice aa2 na ca2, .int .i64 q13, .int .u64 q14, .int .i64 q15, .int .u64 q16, .int .i64 q17, .int .u64 q18, .slice ae2 ne ce2] 66)) = wx1 at *
  (try clear HB); have HB := Lib.hid hb_; clear hb_
  (try clear c_x); (try clear f_x r_x B_x); obtain ⟨c_x, f_x, l_x, r_x, B_x⟩ := blk_all e_x; clear e_x; (try clear c_z); (try clear f_z r_z B_z); obtain ⟨c_z, f_z, l_z, r_z, B_z⟩ := blk_all e_z; clear e_z
  have nxwx1 : ¬ (w.heap.size = wx1.heap.size) := by omega
  have nzwx1 : ¬ (w.heap.size + 1 = wx1.heap.size) := by omega
  go_wp2_with fail
  go_loopw [5] (fun i wr => ∃ k : Nat, k ≤ nb ∧ i = .int .i64 (k : Int) ∧ blk wr w.heap.size = some (.cells #[.int .i64 q0, .int .i64 q1, .int .u64 q2, .int .i64 q3, .int .u64 q4, .int .i64 q5, .int .u64 q6, .int .i64 q7, .int .u64 q8, .int .i64 q9, .int .u64 q10, .int .i64 q11, .int .i64 q12, .slice ab1 nb cb1, .slice at1 nt ct1, .slice ar1 nr cr1, .slice aa1 na ca1, .int .i64 q13, .int .u64 q14, .int .i64 q15, .int .u64 q16, .int .i64 q17, .int .u64 q18, .slice ae1 ne ce1] 66 (0, 0)) ∧ blk wr (w.heap.size + 1) = some (.cells #[.int .i64 q0, .int .i64 q1, .int .u64 q2, .int .i64 q3, .int .u64 q4, .int .i64 q5, .int .u64 q6, .int .i64 q7, .int .u64 q8, .int .i64 q9, .int .u64 q10, .int .i64 q11, .int .i64 q12, .slice ab2 nb cb2, .slice at2 nt ct2, .slice ar2 nr cr2, .slice aa2 na ca2, .int .i64 q13, .int .u64 q14, .int .i64 q15, .int .u64 q16, .int .i64 q17, .int .u64 q18, .slice ae2 ne ce2] 66 (0, 0)) ∧ Below w.heap.size w wr) (fun i _ => nb - (intOf i).toNat)
  case atStart => exact ⟨0, Nat.zero_le _, rfl, B_x.out, B_z.out, HB.out⟩
  case round =>
    obtain ⟨k, hk, rfl, e_x, e_z, hbel⟩ := hrel
    (try clear HB); have HB := Lib.hid hbel; clear hbel
    (try clear c_x f_x r_x B_x c_z f_z r_z B_z)
    (try clear c_x); (try clear f_x r_x B_x); obtain ⟨c_x, f_x, l_x, r_x, B_x⟩ := blk_all e_x; clear e_x; (try clear c_z); (try clear f_z r_z B_z); obtain ⟨c_z, f_z, l_z, r_z, B_z⟩ := blk_all e_z; clear e_z
    have nxr : ¬ (w.heap.size = wr.heap.size) := by omega
    by_cases h1 : k < nb
    · have h1' : ((k : Int) < (nb : Int)) := by omega
      have v0 : 0 ≤ (k : Int) ∧ (k : Int) < (nb : Int) := by omega
      obtain ⟨g1, o1, c1, e1, r1⟩ := (Hb1.out.below (by omega) HB.out).at bodyL_length noB Kb.out k h1
      obtain ⟨g2, o2, c2, e2, r2⟩ := (Hb2.out.below (by omega) HB.out).at bodyL_length noB Kb.out k h1
      injection e1 with e1 _ e1'
      injection e2 with e2 _ e2'
      subst e1 e1' e2 e2'
      generalize lb.getD k noB = b at r1 r2
      have La := run_load_mid (W := wr.drew) b r1
      have Lb := run_load_mid (W := wr.drew) b r2
      go_upto_region 8 with fail
      go_region
      go_wp2_with fail
      exact ⟨⟨k + 1, by omega, by congr 1, B_x.out, B_z.out, HB.out.drew⟩, by simp only [intOf]; omega⟩
    · have h1' : ¬ ((k : Int) < (nb : Int)) := by omega
      go_wp2_with fail
      go_loopw [6] (fun i wr => ∃ k : Nat, k ≤ nt ∧ i = .int .i64 (k : Int) ∧ blk wr w.heap.size = some (.cells #[.int .i64 q0, .int .i64 q1, .int .u64 q2, .int .i64 q3, .int .u64 q4, .int .i64 q5, .int .u64 q6, .int .i64 q7, .int .u64 q8, .int .i64 q9, .int .u64 q10, .int .i64 q11, .int .i64 q12, .slice ab1 nb cb1, .slice at1 nt ct1, .slice ar1 nr cr1, .slice aa1 na ca1, .int .i64 q13, .int .u64 q14, .int .i64 q15, .int .u64 q16, .int .i64 q17, .int .u64 q18, .slice ae1 ne ce1] 66 (0, 0)) ∧ blk wr (w.heap.size + 1) = some (.cells #[.int .i64 q0, .int .i64 q1, .int .u64 q2, .int .i64 q3, .int .u64 q4, .int .i64 q5, .int .u64 q6, .int .i64 q7, .int .u64 q8, .int .i64 q9, .int .u64 q10, .int .i64 q11, .int .i64 q12, .slice ab2 nb cb2, .slice at2 nt ct2, .slice ar2 nr cr2, .slice aa2 na ca2, .int .i64 q13, .int .u64 q14, .int .i64 q15, .int .u64 q16, .int .i64 q17, .int .u64 q18, .slice ae2 ne ce2] 66 (0, 0)) ∧ Below w.heap.size w wr) (fun i _ => nt - (intOf i).toNat)
      case atStart => exact ⟨0, Nat.zero_le _, rfl, B_x.out, B_z.out, HB.out⟩
      case round =>
        obtain ⟨k, hk, rfl, e_x, e_z, hbel⟩ := hrel
        (try clear HB); have HB := Lib.hid hbel; clear hbel
        (try clear c_x f_x r_x B_x c_z f_z r_z B_z)
        (try clear c_x); (try clear f_x r_x B_x); obtain ⟨c_x, f_x, l_x, r_x, B_x⟩ := blk_all e_x; clear e_x; (try clear c_z); (try clear f_z r_z B_z); obtain ⟨c_z, f_z, l_z, r_z, B_z⟩ := blk_all e_z; clear e_z
        have nxr : ¬ (w.heap.size = wr.heap.size) := by omega
        by_cases h1 : k < nt
        · have h1' : ((k : Int) < (nt : Int)) := by omega
          have v0 : 0 ≤ (k : Int) ∧ (k : Int) < (nt : Int) := by omega
          obtain ⟨g1, o1, c1, e1, r1⟩ := (Ht1.out.below (by omega) HB.out).at tethL_length noT Kt.out k h1
          obtain ⟨g2, o2, c2, e2, r2⟩ := (Ht2.out.below (by omega) HB.out).at tethL_length noT Kt.out k h1
          injection e1 with e1 _ e1'
          injection e2 with e2 _ e2'
          subst e1 e1' e2 e2'
          generalize lt.getD k noT = b at r1 r2
          have La := run_load_teth (W := wr.drew) b r1
          have Lb := run_load_teth (W := wr.drew) b r2
          simp only [tethL] at La Lb
          go_upto_region 13 with fail
          go_region
          go_wp2_with fail
          exact ⟨⟨k + 1, by omega, by congr 1, B_x.out, B_z.out, HB.out.drew⟩, by simp only [intOf]; omega⟩
        · have h1' : ¬ ((k : Int) < (nt : Int)) := by omega
          go_wp2_with fail
          go_loopw [7] (fun i wr => ∃ k : Nat, k ≤ nr ∧ i = .int .i64 (k : Int) ∧ blk wr w.heap.size = some (.cells #[.int .i64 q0, .int .i64 q1, .int .u64 q2, .int .i64 q3, .int .u64 q4, .int .i64 q5, .int .u64 q6, .int .i64 q7, .int .u64 q8, .int .i64 q9, .int .u64 q10, .int .i64 q11, .int .i64 q12, .slice ab1 nb cb1, .slice at1 nt ct1, .slice ar1 nr cr1, .slice aa1 na ca1, .int .i64 q13, .int .u64 q14, .int .i64 q15, .int .u64 q16, .int .i64 q17, .int .u64 q18, .slice ae1 ne ce1] 66 (0, 0)) ∧ blk wr (w.heap.size + 1) = some (.cells #[.int .i64 q0, .int .i64 q1, .int .u64 q2, .int .i64 q3, .int .u64 q4, .int .i64 q5, .int .u64 q6, .int .i64 q7, .int .u64 q8, .int .i64 q9, .int .u64 q10, .int .i64 q11, .int .i64 q12, .slice ab2 nb cb2, .slice at2 nt ct2, .slice ar2 nr cr2, .slice aa2 na ca2, .int .i64 q13, .int .u64 q14, .int .i64 q15, .int .u64 q16, .int .i64 q17, .int .u64 q18, .slice ae2 ne ce2] 66 (0, 0)) ∧ Below w.heap.size w wr) (fun i _ => nr - (intOf i).toNat)
          case atStart => exact ⟨0, Nat.zero_le _, rfl, B_x.out, B_z.out, HB.out⟩
          case round =>
            obtain ⟨k, hk, rfl, e_x, e_z, hbel⟩ := hrel
            (try clear HB); have HB := Lib.hid hbel; clear hbel
            (try clear c_x f_x r_x B_x c_z f_z r_z B_z)
            (try clear c_x); (try clear f_x r_x B_x); obtain ⟨c_x, f_x, l_x, r_x, B_x⟩ := blk_all e_x; clear e_x; (try clear c_z); (try clear f_z r_z B_z); obtain ⟨c_z, f_z, l_z, r_z, B_z⟩ := blk_all e_z; clear e_z
            have nxr : ¬ (w.heap.size = wr.heap.size) := by omega
            by_cases h1 : k < nr
            · have h1' : ((k : Int) < (nr : Int)) := by omega
              have v0 : 0 ≤ (k : Int) ∧ (k : Int) < (nr : Int) := by omega
              obtain ⟨g1, o1, c1, e1, r1⟩ := (Hr1.out.below (by omega) HB.out).at railL_length noR Kr.out k h1
              obtain ⟨g2, o2, c2, e2, r2⟩ := (Hr2.out.below (by omega) HB.out).at railL_length noR Kr.out k h1
              injection e1 with e1 _ e1'
              injection e2 with e2 _ e2'
              subst e1 e1' e2 e2'
              generalize lr.getD k noR = b at r1 r2
              have La := run_load_rail (W := wr.drew) b r1
              have Lb := run_load_rail (W := wr.drew) b r2
              simp only [railL] at La Lb
              go_upto_region 18 with fail
              go_region
              go_wp2_with fail
              exact ⟨⟨k + 1, by omega, by congr 1, B_x.out, B_z.out, HB.out.drew⟩, by simp only [intOf]; omega⟩
            · have h1' : ¬ ((k : Int) < (nr : Int)) := by omega
              go_wp2_with fail
              go_loopw [8] (fun i wr => ∃ k : Nat, k ≤ na ∧ i = .int .i64 (k : Int) ∧ blk wr w.heap.size = some (.cells #[.int .i64 q0, .int .i64 q1, .int .u64 q2, .int .i64 q3, .int .u64 q4, .int .i64 q5, .int .u64 q6, .int .i64 q7, .int .u64 q8, .int .i64 q9, .int .u64 q10, .int .i64 q11, .int .i64 q12, .slice ab1 nb cb1, .slice at1 nt ct1, .slice ar1 nr cr1, .slice aa1 na ca1, .int .i64 q13, .int .u64 q14, .int .i64 q15, .int .u64 q16, .int .i64 q17, .int .u64 q18, .slice ae1 ne ce1] 66 (0, 0)) ∧ blk wr (w.heap.size + 1) = some (.cells #[.int .i64 q0, .int .i64 q1, .int .u64 q2, .int .i64 q3, .int .u64 q4, .int .i64 q5, .int .u64 q6, .int .i64 q7, .int .u64 q8, .int .i64 q9, .int .u64 q10, .int .i64 q11, .int .i64 q12, .slice ab2 nb cb2, .slice at2 nt ct2, .slice ar2 nr cr2, .slice aa2 na ca2, .int .i64 q13, .int .u64 q14, .int .i64 q15, .int .u64 q16, .int .i64 q17, .int .u64 q18, .slice ae2 ne ce2] 66 (0, 0)) ∧ Below w.heap.size w wr) (fun i _ => na - (intOf i).toNat)
              case atStart => exact ⟨0, Nat.zero_le _, rfl, B_x.out, B_z.out, HB.out⟩
              case round =>
                obtain ⟨k, hk, rfl, e_x, e_z, hbel⟩ := hrel
                (try clear HB); have HB := Lib.hid hbel; clear hbel
                (try clear c_x f_x r_x B_x c_z f_z r_z B_z)
                (try clear c_x); (try clear f_x r_x B_x); obtain ⟨c_x, f_x, l_x, r_x, B_x⟩ := blk_all e_x; clear e_x; (try clear c_z); (try clear f_z r_z B_z); obtain ⟨c_z, f_z, l_z, r_z, B_z⟩ := blk_all e_z; clear e_z
                have nxr : ¬ (w.heap.size = wr.heap.size) := by omega
                by_cases h1 : k < na
                · have h1' : ((k : Int) < (na : Int)) := by omega
                  have v0 : 0 ≤ (k : Int) ∧ (k : Int) < (na : Int) := by omega
                  obtain ⟨g1, o1, c1, e1, r1⟩ := (Ha1.out.below (by omega) HB.out).at intL_length 0 Ka.out k h1
                  obtain ⟨g2, o2, c2, e2, r2⟩ := (Ha2.out.below (by omega) HB.out).at intL_length 0 Ka.out k h1
                  injection e1 with e1 _ e1'
                  injection e2 with e2 _ e2'
                  subst e1 e1' e2 e2'
                  generalize la.getD k 0 = b at r1 r2
                  have a10 := r1 0 _ rfl
                  have a20 := r2 0 _ rfl
                  simp only [Nat.add_zero, Nat.mul_one] at a10 a20
                  go_upto_region 23 with fail
                  go_region
                  go_wp2_with fail
                  exact ⟨⟨k + 1, by omega, by congr 1, B_x.out, B_z.out, HB.out.drew⟩, by simp only [intOf]; omega⟩
                · have h1' : ¬ ((k : Int) < (na : Int)) := by omega
                  go_wp2_with fail
                  go_loopw [9] (fun i wr => ∃ k : Nat, k ≤ ne ∧ i = .int .i64 (k : Int) ∧ blk wr w.heap.size = some (.cells #[.int .i64 q0, .int .i64 q1, .int .u64 q2, .int .i64 q3, .int .u64 q4, .int .i64 q5, .int .u64 q6, .int .i64 q7, .int .u64 q8, .int .i64 q9, .int .u64 q10, .int .i64 q11, .int .i64 q12, .slice ab1 nb cb1, .slice at1 nt ct1, .slice ar1 nr cr1, .slice aa1 na ca1, .int .i64 q13, .int .u64 q14, .int .i64 q15, .int .u64 q16, .int .i64 q17, .int .u64 q18, .slice ae1 ne ce1] 66 (0, 0)) ∧ blk wr (w.heap.size + 1) = some (.cells #[.int .i64 q0, .int .i64 q1, .int .u64 q2, .int .i64 q3, .int .u64 q4, .int .i64 q5, .int .u64 q6, .int .i64 q7, .int .u64 q8, .int .i64 q9, .int .u64 q10, .int .i64 q11, .int .i64 q12, .slice ab2 nb cb2, .slice at2 nt ct2, .slice ar2 nr cr2, .slice aa2 na ca2, .int .i64 q13, .int .u64 q14, .int .i64 q15, .int .u64 q16, .int .i64 q17, .int .u64 q18, .slice ae2 ne ce2] 66 (0, 0)) ∧ Below w.heap.size w wr) (fun i _ => ne - (intOf i).toNat)
                  case atStart => exact ⟨0, Nat.zero_le _, rfl, B_x.out, B_z.out, HB.out⟩
                  case round =>
                    obtain ⟨k, hk, rfl, e_x, e_z, hbel⟩ := hrel
                    (try clear HB); have HB := Lib.hid hbel; clear hbel
                    (try clear c_x f_x r_x B_x c_z f_z r_z B_z)
                    (try clear c_x); (try clear f_x r_x B_x); obtain ⟨c_x, f_x, l_x, r_x, B_x⟩ := blk_all e_x; clear e_x; (try clear c_z); (try clear f_z r_z B_z); obtain ⟨c_z, f_z, l_z, r_z, B_z⟩ := blk_all e_z; clear e_z
                    have nxr : ¬ (w.heap.size = wr.heap.size) := by omega
                    by_cases h1 : k < ne
                    · have h1' : ((k : Int) < (ne : Int)) := by omega
                      have v0 : 0 ≤ (k : Int) ∧ (k : Int) < (ne : Int) := by omega
                      obtain ⟨g1, o1, c1, e1, r1⟩ := (He1.out.below (by omega) HB.out).at evL_length noE Ke.out k h1
                      obtain ⟨g2, o2, c2, e2, r2⟩ := (He2.out.below (by omega) HB.out).at evL_length noE Ke.out k h1
                      injection e1 with e1 _ e1'
                      injection e2 with e2 _ e2'
                      subst e1 e1' e2 e2'
                      generalize le.getD k noE = b at r1 r2
                      have La := run_load_ev (W := wr.drew) b r1
                      have Lb := run_load_ev (W := wr.drew) b r2
                      simp only [evL] at La Lb
                      go_upto_region 28 with fail
                      go_region
                      go_wp2_with fail
                      exact ⟨⟨k + 1, by omega, by congr 1, B_x.out, B_z.out, HB.out.drew⟩, by simp only [intOf]; omega⟩
                    · have h1' : ¬ ((k : Int) < (ne : Int)) := by omega
                      go_wp2_with fail
                      refine bodyPost_ret ?rq rfl ⟨rfl, HB.out⟩
                      case rq => simp (maxDischargeDepth := 9) [results, Try.results30, go_sem]
end Go.Proofs.Ytdphhkbbphfjlaa
