/- Whole rows of cells: read and written at once. -/
import Derived.Test.YtdphhkbbphfjlaaCReck
import Derived.Test.YtdphhkbbphfjlaaCMem
import Derived.Laws.CopyRow
namespace Go.Proofs.Ytdphhkbbphfjlaa
set_option linter.unusedVariables false
set_option linter.unusedSimpArgs false
open Go.RowKit

theorem rowAt_of {w w' : World} {b : Nat} (h : w'.heap[b]? = w.heap[b]?) : rowAt w' b = rowAt w b := by unfold rowAt; rw [h]
theorem rowAt_at {w : World} (c : Array Value) (t : TypeId) (fr : Nat × Nat) (n : Nat) (hn : n = w.heap.size) : rowAt (w.alloc (.cells c t fr)) n = c := by
  subst hn; unfold rowAt; rw [heap_alloc_new]
theorem rowAt_past {w : World} (o : Obj) (n : Nat) (hn : n < w.heap.size) : rowAt (w.alloc o) n = rowAt w n := rowAt_of (Below.heap_alloc w o n hn)
theorem rowAt_drew {w : World} (n : Nat) : rowAt w.drew n = rowAt w n := rfl
theorem rowAt_far {w : World} (g i : Nat) (v : Value) (n : Nat) (hn : n ≠ g) : rowAt (w.setCell ⟨g, i, none⟩ v) n = rowAt w n := rowAt_of (heap_setCell_other w _ n v hn)
theorem rowAt_below {B n : Nat} {a w : World} (h : Below B a w) (hn : n < B) : rowAt w n = rowAt a n := rowAt_of (h.block n hn)
theorem rowAt_only {g n : Nat} {a w : World} (h : Only g a w) (hn : n < a.heap.size) (hg : n ≠ g) : rowAt w n = rowAt a n :=
  rowAt_of (World.grownBy.block h n hn (fun e => hg (by injection e)))

theorem row_block {w : World} {b : Nat} (h : (rowAt w b).size ≠ 0) : ∃ t fr, w.heap[b]? = some (.cells (rowAt w b) t fr) := by
  unfold rowAt at h ⊢
  split at h
  · rename_i cs t fr e; exact ⟨t, fr, by rw [e]⟩
  · exact absurd rfl h

/-- a load of a whole row: kept shut -/
@[irreducible] def loadRow (ty : TypeId) (v : Value) : Sem Value := Instr.loadAt ty v
theorem loadRow_eq (ty : TypeId) (v : Value) : Instr.loadAt ty v = loadRow ty v := by unfold loadRow; rfl
theorem loadRow_body (v : Value) : Instr.loadAt 28 v = loadRow 28 v := loadRow_eq _ _
theorem run_loadRow (P : Program) {w : World} (ty : TypeId) (b : Nat) (n : Nat) (hn : n ≠ 0)
    (hd : (match P.underlying ty with | some d => (match d with | .struct _ | .array _ _ => true | _ => false) | none => false) = true) (hi : (P.info? ty).map (·.size) = some n) (h : (rowAt w b).size = n) :
    (loadRow ty (.pointer (some ⟨b, 0, none⟩))).run P w = .ok (.agg (rowAt w b)) w := by
  obtain ⟨t, fr, hg⟩ := row_block (w := w) (b := b) (by omega)
  unfold loadRow
  simp only [Instr.loadAt, Instr.sureAddr, Sem.run_bind, Sem.run_pure, Result.andThen_ok]
  cases hu : P.underlying ty with
  | none => rw [hu] at hd; exact absurd hd (by simp)
  | some d => rw [hu] at hd; exact run_loadVar_row w b t ty _ fr d hg hu (by cases d <;> simp_all) (by rw [hi, h])
theorem run_load_body {w : World} (b : Nat) (h : (rowAt w b).size = 20) :
    (loadRow 28 (.pointer (some ⟨b, 0, none⟩))).run Try.prog w = .ok (.agg (rowAt w b)) w :=
  run_loadRow Try.prog _ b 20 (by decide) (by kernel_rfl) (by kernel_rfl) h
end Go.Proofs.Ytdphhkbbphfjlaa

namespace Go.Proofs.Ytdphhkbbphfjlaa
set_option linter.unusedVariables false
set_option linter.unusedSimpArgs false
open Go.RowKit
theorem row_0_0 (w : World) (c : Array Value) (t : TypeId) (fr : Nat × Nat) : rowAt (w.alloc (.cells c t fr)) (w.heap.size) = c := by exact rowAt_at c t fr _ (by simp)
theorem row_0_1 (w : World) (c : Array Value) (t : TypeId) (fr : Nat × Nat) (p0 : Obj) : rowAt ((w.alloc (.cells c t fr)).alloc p0) (w.heap.size) = c := by rw [rowAt_past _ _ (by first | (simp; done) | (simp; omega))]; exact rowAt_at c t fr _ (by simp)
theorem row_0_2 (w : World) (c : Array Value) (t : TypeId) (fr : Nat × Nat) (p0 p1 : Obj) : rowAt (((w.alloc (.cells c t fr)).alloc p0).alloc p1) (w.heap.size) = c := by rw [rowAt_past _ _ (by first | (simp; done) | (simp; omega))]; rw [rowAt_past _ _ (by first | (simp; done) | (simp; omega))]; exact rowAt_at c t fr _ (by simp)
theorem row_0_3 (w : World) (c : Array Value) (t : TypeId) (fr : Nat × Nat) (p0 p1 p2 : Obj) : rowAt ((((w.alloc (.cells c t fr)).alloc p0).alloc p1).alloc p2) (w.heap.size) = c := by rw [rowAt_past _ _ (by first | (simp; done) | (simp; omega))]; rw [rowAt_past _ _ (by first | (simp; done) | (simp; omega))]; rw [rowAt_past _ _ (by first | (simp; done) | (simp; omega))]; exact rowAt_at c t fr _ (by simp)
theorem row_0_4 (w : World) (c : Array Value) (t : TypeId) (fr : Nat × Nat) (p0 p1 p2 p3 : Obj) : rowAt (((((w.alloc (.cells c t fr)).alloc p0).alloc p1).alloc p2).alloc p3) (w.heap.size) = c := by rw [rowAt_past _ _ (by first | (simp; done) | (simp; omega))]; rw [rowAt_past _ _ (by first | (simp; done) | (simp; omega))]; rw [rowAt_past _ _ (by first | (simp; done) | (simp; omega))]; rw [rowAt_past _ _ (by first | (simp; done) | (simp; omega))]; exact rowAt_at c t fr _ (by simp)
theorem row_0_5 (w : World) (c : Array Value) (t : TypeId) (fr : Nat × Nat) (p0 p1 p2 p3 p4 : Obj) : rowAt ((((((w.alloc (.cells c t fr)).alloc p0).alloc p1).alloc p2).alloc p3).alloc p4) (w.heap.size) = c := by rw [rowAt_past _ _ (by first | (simp; done) | (simp; omega))]; rw [rowAt_past _ _ (by first | (simp; done) | (simp; omega))]; rw [rowAt_past _ _ (by first | (simp; done) | (simp; omega))]; rw [rowAt_past _ _ (by first | (simp; done) | (simp; omega))]; rw [rowAt_past _ _ (by first | (simp; done) | (simp; omega))]; exact rowAt_at c t fr _ (by simp)
theorem row_1_0 (w : World) (c : Array Value) (t : TypeId) (fr : Nat × Nat) (q0 : Obj) : rowAt ((w.alloc q0).alloc (.cells c t fr)) (w.heap.size + 1) = c := by exact rowAt_at c t fr _ (by simp)
theorem row_1_1 (w : World) (c : Array Value) (t : TypeId) (fr : Nat × Nat) (q0 p0 : Obj) : rowAt (((w.alloc q0).alloc (.cells c t fr)).alloc p0) (w.heap.size + 1) = c := by rw [rowAt_past _ _ (by first | (simp; done) | (simp; omega))]; exact rowAt_at c t fr _ (by simp)
theorem row_1_2 (w : World) (c : Array Value) (t : TypeId) (fr : Nat × Nat) (q0 p0 p1 : Obj) : rowAt ((((w.alloc q0).alloc (.cells c t fr)).alloc p0).alloc p1) (w.heap.size + 1) = c := by rw [rowAt_past _ _ (by first | (simp; done) | (simp; omega))]; rw [rowAt_past _ _ (by first | (simp; done) | (simp; omega))]; exact rowAt_at c t fr _ (by simp)
theorem row_1_3 (w : World) (c : Array Value) (t : TypeId) (fr : Nat × Nat) (q0 p0 p1 p2 : Obj) : rowAt (((((w.alloc q0).alloc (.cells c t fr)).alloc p0).alloc p1).alloc p2) (w.heap.size + 1) = c := by rw [rowAt_past _ _ (by first | (simp; done) | (simp; omega))]; rw [rowAt_past _ _ (by first | (simp; done) | (simp; omega))]; rw [rowAt_past _ _ (by first | (simp; done) | (simp; omega))]; exact rowAt_at c t fr _ (by simp)
theorem row_1_4 (w : World) (c : Array Value) (t : TypeId) (fr : Nat × Nat) (q0 p0 p1 p2 p3 : Obj) : rowAt ((((((w.alloc q0).alloc (.cells c t fr)).alloc p0).alloc p1).alloc p2).alloc p3) (w.heap.size + 1) = c := by rw [rowAt_past _ _ (by first | (simp; done) | (simp; omega))]; rw [rowAt_past _ _ (by first | (simp; done) | (simp; omega))]; rw [rowAt_past _ _ (by first | (simp; done) | (simp; omega))]; rw [rowAt_past _ _ (by first | (simp; done) | (simp; omega))]; exact rowAt_at c t fr _ (by simp)
theorem row_2_0 (w : World) (c : Array Value) (t : TypeId) (fr : Nat × Nat) (q0 q1 : Obj) : rowAt (((w.alloc q0).alloc q1).alloc (.cells c t fr)) (w.heap.size + 1 + 1) = c := by exact rowAt_at c t fr _ (by simp)
theorem row_2_1 (w : World) (c : Array Value) (t : TypeId) (fr : Nat × Nat) (q0 q1 p0 : Obj) : rowAt ((((w.alloc q0).alloc q1).alloc (.cells c t fr)).alloc p0) (w.heap.size + 1 + 1) = c := by rw [rowAt_past _ _ (by first | (simp; done) | (simp; omega))]; exact rowAt_at c t fr _ (by simp)
theorem row_2_2 (w : World) (c : Array Value) (t : TypeId) (fr : Nat × Nat) (q0 q1 p0 p1 : Obj) : rowAt (((((w.alloc q0).alloc q1).alloc (.cells c t fr)).alloc p0).alloc p1) (w.heap.size + 1 + 1) = c := by rw [rowAt_past _ _ (by first | (simp; done) | (simp; omega))]; rw [rowAt_past _ _ (by first | (simp; done) | (simp; omega))]; exact rowAt_at c t fr _ (by simp)
theorem row_2_3 (w : World) (c : Array Value) (t : TypeId) (fr : Nat × Nat) (q0 q1 p0 p1 p2 : Obj) : rowAt ((((((w.alloc q0).alloc q1).alloc (.cells c t fr)).alloc p0).alloc p1).alloc p2) (w.heap.size + 1 + 1) = c := by rw [rowAt_past _ _ (by first | (simp; done) | (simp; omega))]; rw [rowAt_past _ _ (by first | (simp; done) | (simp; omega))]; rw [rowAt_past _ _ (by first | (simp; done) | (simp; omega))]; exact rowAt_at c t fr _ (by simp)
end Go.Proofs.Ytdphhkbbphfjlaa

namespace Go.Proofs.Ytdphhkbbphfjlaa
set_option linter.unusedVariables false
set_option linter.unusedSimpArgs false
open Go.RowKit

/-- the cells of block b, where none is shared -/
def row0 (w : World) (b : Nat) : Array Value := match w.heap[b]? with | some (.cells cs _ (0, 0)) => cs | _ => #[]
theorem row0_of {w w' : World} {b : Nat} (h : w'.heap[b]? = w.heap[b]?) : row0 w' b = row0 w b := by unfold row0; rw [h]
theorem row0_blk {w : World} {b : Nat} {cs : Array Value} {t : TypeId} (h : blk w b = some (.cells cs t (0, 0))) : row0 w b = cs := by unfold row0; rw [show w.heap[b]? = _ from h]; rfl
theorem row0_at {w : World} (c : Array Value) (t : TypeId) (n : Nat) (hn : n = w.heap.size) : row0 (w.alloc (.cells c t)) n = c := row0_blk (blk_new _ hn)
theorem row0_past {w : World} (o : Obj) (n : Nat) (hn : n < w.heap.size) : row0 (w.alloc o) n = row0 w n := row0_of (Below.heap_alloc w o n hn)
theorem row0_drew {w : World} (n : Nat) : row0 w.drew n = row0 w n := rfl
theorem row0_far {w : World} (g i : Nat) (v : Value) (n : Nat) (hn : n ≠ g) : row0 (w.setCell ⟨g, i, none⟩ v) n = row0 w n := row0_of (heap_setCell_other w _ n v hn)
theorem row0_rowfar {w : World} (g : Nat) (c : Array Value) (n : Nat) (hn : n ≠ g) : row0 (w.setRow g c) n = row0 w n := row0_of (setRow_other w g n c hn)
theorem rowAt_rowfar {w : World} (g : Nat) (c : Array Value) (n : Nat) (hn : n ≠ g) : rowAt (w.setRow g c) n = rowAt w n := rowAt_of (setRow_other w g n c hn)
theorem row0_block {w : World} {b : Nat} (h : (row0 w b).size ≠ 0) : ∃ t, w.heap[b]? = some (.cells (row0 w b) t (0, 0)) := by
  unfold row0 at h ⊢
  split at h
  · rename_i cs t e; exact ⟨t, by rw [e]⟩
  · exact absurd rfl h
/-- a block, all its cells set -/
def putR (c : Array Value) : Option Obj → Option Obj
  | some (.cells _ t fr) => some (.cells c t fr)
  | o => o
theorem putR_cells (c cs : Array Value) (t : TypeId) (fr : Nat × Nat) : putR c (some (.cells cs t fr)) = some (.cells c t fr) := rfl
theorem blk_row_set {w : World} (g : Nat) (c : Array Value) : blk (w.setRow g c) g = putR c (blk w g) := by
  unfold blk putR World.setRow
  simp only [Array.getElem?_modify, if_true]
  cases w.heap[g]? with
  | none => rfl
  | some o => cases o <;> rfl
theorem blk_row_far {w : World} {g b : Nat} (c : Array Value) (h : g ≠ b) : blk (w.setRow b c) g = blk w g := setRow_other w b g c h
theorem Below.setRow {B : Nat} {a w : World} (h : Below B a w) {g : Nat} (hg : B ≤ g) (c : Array Value) : Below B a (w.setRow g c) :=
  h.trans ⟨rfl, rfl, rfl, by simp [World.setRow], fun k hk => setRow_other w g k c (by omega)⟩
/-- a row just laid out is set whole -/
theorem setRow_alloc (w : World) (c c' : Array Value) (t : TypeId) (g : Nat) (h : g = w.heap.size) : (w.alloc (.cells c t)).setRow g c' = w.alloc (.cells c' t) := by
  subst h
  unfold World.setRow World.alloc
  congr 1
  apply Array.ext
  · simp
  · intro i h1 h2
    simp only [Array.getElem_modify]
    simp only [Array.size_modify, Array.size_push] at h1 h2
    by_cases e : i = w.heap.size
    · subst e; simp
    · have : i < w.heap.size := by omega
      simp [Array.getElem_push, this, Ne.symm e]
theorem setRow_b2 (w : World) (o : Obj) (c c' : Array Value) (t : TypeId) : ((w.alloc o).alloc (.cells c t)).setRow (w.heap.size + 1) c' = (w.alloc o).alloc (.cells c' t) := setRow_alloc _ _ _ _ _ (by simp)
theorem setRow_push (w : World) (o : Obj) (g : Nat) (c' : Array Value) (h : g < w.heap.size) : (w.alloc o).setRow g c' = (w.setRow g c').alloc o := by
  unfold World.setRow World.alloc
  congr 1
  apply Array.ext
  · simp
  · intro i h1 h2
    simp only [Array.size_modify, Array.size_push] at h1 h2
    simp only [Array.getElem_modify, Array.getElem_push, Array.size_modify]
    by_cases e : i < w.heap.size
    · simp [e]
    · have : ¬ g = i := by omega
      simp [e, this]
theorem setRow_a2 (w : World) (o : Obj) (c c' : Array Value) (t : TypeId) : ((w.alloc (.cells c t)).alloc o).setRow w.heap.size c' = (w.alloc (.cells c' t)).alloc o := by
  rw [setRow_push _ _ _ _ (by simp), setRow_alloc _ _ _ _ _ rfl]
theorem cell_setRow_far {w : World} (g b o : Nat) (c : Array Value) (h : b ≠ g) : (w.setRow g c).cell? ⟨b, o, none⟩ = w.cell? ⟨b, o, none⟩ := World.cell?_of_block (setRow_other w g b c h)
theorem frozen_setRow_far {w : World} (g b o : Nat) (c : Array Value) (h : b ≠ g) : (w.setRow g c).frozen? ⟨b, o, none⟩ = w.frozen? ⟨b, o, none⟩ := World.frozen?_of_block (setRow_other w g b c h)

theorem cell_setRow_same {w : World} (g o : Nat) (c : Array Value) (h : 0 < (row0 w g).size) : (w.setRow g c).cell? ⟨g, o, none⟩ = c[o]? := by
  obtain ⟨t, hg⟩ := row0_block (w := w) (b := g) (by omega)
  exact cell_of_row _ g o c t (0, 0) (setRow_heap w g _ c t (0, 0) hg)
theorem row0_same {w : World} (g : Nat) (c : Array Value) (h : 0 < (row0 w g).size) : row0 (w.setRow g c) g = c := by
  obtain ⟨t, hg⟩ := row0_block (w := w) (b := g) (by omega)
  exact row0_blk (t := t) (setRow_heap w g _ c t (0, 0) hg)
/-- a store of a whole row: kept shut -/
@[irreducible] def storeRow (ty : TypeId) (p v : Value) : Sem Unit := Instr.storeAt ty p v
theorem storeRow_eq (ty : TypeId) (p v : Value) : Instr.storeAt ty p v = storeRow ty p v := by unfold storeRow; rfl
theorem storeRow_body (p v : Value) : Instr.storeAt 28 p v = storeRow 28 p v := storeRow_eq _ _ _
theorem run_storeRow (P : Program) {w : World} (ty : TypeId) (b n : Nat) (cs : Array Value) (hn : n ≠ 0) (hi : (P.info? ty).map (·.size) = some n)
    (h : (row0 w b).size = n) (hc : cs.size = n) (h1 : ∀ v ∈ cs.toList, v.oneCell' = true) :
    (storeRow ty (.pointer (some ⟨b, 0, none⟩)) (.agg cs)).run P w = .ok () (w.setRow b cs) := by
  obtain ⟨t, hg⟩ := row0_block (w := w) (b := b) (by omega)
  unfold storeRow
  cases hq : P.info? ty with
  | none => simp [hq] at hi
  | some i =>
    have hs : i.size = n := by simpa [hq] using hi
    have hst := run_storeCells_at (P := P) b 0 t cs.toList 0 (row0 w b) w hg (by simp; omega) h1
    have e : ((row0 w b).toList.take (0 + 0) ++ cs.toList ++ (row0 w b).toList.drop (0 + 0 + cs.toList.length)).toArray = cs := by
      rw [List.drop_eq_nil_of_le (by simp; omega)]; simp
    rw [e] at hst
    simp [Instr.storeAt, Instr.sureAddr, storeVar, Sem.run_bind, sizeOf, typeInfo, hq, hs, hc, Value.cells, hst]
theorem rowAt_same {w : World} (g : Nat) (c : Array Value) (h : 0 < (row0 w g).size) : rowAt (w.setRow g c) g = c := by
  obtain ⟨t, hg⟩ := row0_block (w := w) (b := g) (by omega)
  exact blk_row (t := t) (setRow_heap w g _ c t (0, 0) hg)
/-- a load of a whole row, of a result: kept shut -/
@[irreducible] def loadRowV (ty : TypeId) (a : Addr) : Sem Value := loadVar ty a
theorem loadVar_body (a : Addr) : loadVar 28 a = loadRowV 28 a := by unfold loadRowV; rfl
theorem run_loadRowV (P : Program) {w : World} (ty : TypeId) (b : Nat) (n : Nat) (hn : n ≠ 0)
    (hd : (match P.underlying ty with | some d => (match d with | .struct _ | .array _ _ => true | _ => false) | none => false) = true) (hi : (P.info? ty).map (·.size) = some n) (h : (rowAt w b).size = n) :
    (loadRowV ty ⟨b, 0, none⟩).run P w = .ok (.agg (rowAt w b)) w := by
  obtain ⟨t, fr, hg⟩ := row_block (w := w) (b := b) (by omega)
  unfold loadRowV
  cases hu : P.underlying ty with
  | none => rw [hu] at hd; exact absurd hd (by simp)
  | some d => rw [hu] at hd; exact run_loadVar_row w b t ty _ fr d hg hu (by cases d <;> simp_all) (by rw [hi, h])
theorem run_loadV_body {w : World} (b : Nat) (h : (rowAt w b).size = 20) :
    (loadRowV 28 ⟨b, 0, none⟩).run Try.prog w = .ok (.agg (rowAt w b)) w :=
  run_loadRowV Try.prog _ b 20 (by decide) (by kernel_rfl) (by kernel_rfl) h
/-- two bodies as results -/
theorem results_two_body {fn : Func} {p q : Tmp} (h : fn.results = #[.cell p 28, .cell q 28]) (tmps : Array Value) (w : World) (g1 g2 : Nat) (c1 c2 : Array Value)
    (hp : tmps.getD p undef = .pointer (some ⟨g1, 0, none⟩)) (hq : tmps.getD q undef = .pointer (some ⟨g2, 0, none⟩)) (e1 : rowAt w g1 = c1) (e2 : rowAt w g2 = c2) (s1 : c1.size = 20) (s2 : c2.size = 20) :
    (results fn tmps).run Try.prog w = .ok (.tuple #[.agg c1, .agg c2]) w := by
  have hp' : tmps[p]?.getD undef = .pointer (some ⟨g1, 0, none⟩) := by simpa using hp
  have hq' : tmps[q]?.getD undef = .pointer (some ⟨g2, 0, none⟩) := by simpa using hq
  have l1 := run_loadV_body (w := w) g1 (by rw [e1]; exact s1)
  have l2 := run_loadV_body (w := w) g2 (by rw [e2]; exact s2)
  rw [← loadVar_body, e1] at l1
  rw [← loadVar_body, e2] at l2
  simp [results, h, hp', hq', asAddr, l1, l2]
/-- are all one cell each? -/
@[irreducible] def allOne (cs : Array Value) : Bool := cs.toList.all (·.oneCell')
theorem run_store_body {w : World} (b : Nat) (cs : Array Value) (h : (row0 w b).size = 20) (hc : cs.size = 20) (h1 : allOne cs = true) :
    (storeRow 28 (.pointer (some ⟨b, 0, none⟩)) (.agg cs)).run Try.prog w = .ok () (w.setRow b cs) :=
  run_storeRow Try.prog _ b 20 cs (by decide) (by kernel_rfl) h hc (fun v hv => by unfold allOne at h1; exact List.all_eq_true.1 h1 v hv)
theorem allOne_nil : allOne (List.toArray []) = true := by unfold allOne; rfl
theorem allOne_int (k : IntKind) (n : Int) (l : List Value) : allOne (List.toArray (.int k n :: l)) = allOne (List.toArray l) := by unfold allOne; rfl
theorem allOne_bool (b : Bool) (l : List Value) : allOne (List.toArray (.bool b :: l)) = allOne (List.toArray l) := by unfold allOne; rfl
theorem allOne_slice (p : Option Addr) (n c : Nat) (l : List Value) : allOne (List.toArray (.slice p n c :: l)) = allOne (List.toArray l) := by unfold allOne; rfl
end Go.Proofs.Ytdphhkbbphfjlaa
