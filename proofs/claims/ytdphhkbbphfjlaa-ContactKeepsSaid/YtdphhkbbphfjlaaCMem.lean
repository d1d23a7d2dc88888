/- What is in memory: one block alone is written; one fact for each block. -/
import Derived.Test.YtdphhkbbphfjlaaCSp
import Derived.OneCell
import Derived.Laws.Rows
import Derived.Laws.Tables
namespace Go.Proofs.Ytdphhkbbphfjlaa
set_option linter.unusedVariables false
set_option linter.unusedSimpArgs false
open Go.RowKit

/-- of what there was only block g has turned -/
def Only (g : Nat) (a w : World) : Prop := a.grownBy w (some g)
theorem Only.refl (g : Nat) (w : World) : Only g w w := World.grownBy.refl w _
theorem Only.size {g : Nat} {a w : World} (h : Only g a w) : a.heap.size ≤ w.heap.size := World.grownBy.size h
theorem Only.trans {g : Nat} {a b c : World} (h : Only g a b) (k : Only g b c) : Only g a c :=
  ⟨(World.grownBy.os k).trans (World.grownBy.os h), (World.grownBy.tape k).trans (World.grownBy.tape h), (World.grownBy.output k).trans (World.grownBy.output h), Nat.le_trans h.size k.size,
    fun i hi hne => (World.grownBy.block k i (Nat.lt_of_lt_of_le hi h.size) hne).trans (World.grownBy.block h i hi hne)⟩
theorem Only.of_below {g : Nat} {a w : World} (h : Below a.heap.size a w) : Only g a w := ⟨h.os, h.tape, h.output, h.size, fun i hi _ => h.block i hi⟩
theorem Only.drew {g : Nat} {a w : World} (h : Only g a w) : Only g a w.drew := by
  have k : a.grownBy w (some g) := h
  exact ⟨k.os, k.tape, k.output, k.size, k.block⟩
theorem Only.alloc {g : Nat} {a w : World} (h : Only g a w) (o : Obj) : Only g a (w.alloc o) :=
  h.trans (Only.of_below ((Below.refl _ _).alloc (Nat.le_refl _) o))
theorem Only.setg {g : Nat} {a w : World} (h : Only g a w) (o : Nat) (u : Value) : Only g a (w.setCell ⟨g, o, none⟩ u) :=
  h.trans ⟨rfl, rfl, rfl, by simp [World.setCell], fun i _ hne => Below.heap_setCell _ _ _ _ (fun e => hne (by rw [e]))⟩
theorem Only.setnew {g : Nat} {a w : World} (h : Only g a w) {p : Addr} (hp : a.heap.size ≤ p.block) (u : Value) : Only g a (w.setCell p u) :=
  by
  have k : a.grownBy w (some g) := h
  exact ⟨k.os, k.tape, k.output, by simpa [World.setCell] using h.size, fun i hi hne => (Below.heap_setCell w p u i (by omega)).trans (k.block i hi hne)⟩
/-- .. in a call that began in a world where block g was not there: nothing has turned -/
theorem Below.only {B g : Nat} {a w w' : World} (h : Below B a w) (hg : Only g w w') (hB : B ≤ w.heap.size) (hr : B ≤ g) : Below B a w' :=
  h.grown hg hB (fun k hk => by injection hk with e; omega)
theorem Only.cell {g : Nat} {w w' : World} (h : Only g w w') {b : Nat} (hb : b < w.heap.size) (hne : b ≠ g) (o : Nat) : w'.cell? ⟨b, o, none⟩ = w.cell? ⟨b, o, none⟩ :=
  World.cell?_of_block (World.grownBy.block h b hb (fun e => hne (by injection e)))
theorem Only.frozen {g : Nat} {w w' : World} (h : Only g w w') {b : Nat} (hb : b < w.heap.size) (hne : b ≠ g) (o : Nat) : w'.frozen? ⟨b, o, none⟩ = w.frozen? ⟨b, o, none⟩ :=
  World.frozen?_of_block (World.grownBy.block h b hb (fun e => hne (by injection e)))

/-- block g is one cell -/
def One (w : World) (g : Nat) (v : Value) (t : TypeId) : Prop := w.heap[g]? = some (.cells #[v] t (0, 0))
theorem One.cell {w : World} {g : Nat} {v : Value} {t : TypeId} (h : One w g v t) : w.cell? ⟨g, 0, none⟩ = some v := cell_of_one h
theorem One.free {w : World} {g : Nat} {v : Value} {t : TypeId} (h : One w g v t) : w.frozen? ⟨g, 0, none⟩ = false := free_of_one h
theorem One.lt {w : World} {g : Nat} {v : Value} {t : TypeId} (h : One w g v t) : g < w.heap.size := lt_of_block h
theorem One.alloc {w : World} {g : Nat} {v : Value} {t : TypeId} (h : One w g v t) (o : Obj) : One (w.alloc o) g v t := (Below.heap_alloc w o g h.lt).trans h
theorem One.drew {w : World} {g : Nat} {v : Value} {t : TypeId} (h : One w g v t) : One w.drew g v t := h
theorem One.set_ {w : World} {g : Nat} {v : Value} {t : TypeId} (h : One w g v t) (u : Value) : One (w.setCell ⟨g, 0, none⟩ u) g u t := one_setCell h
theorem One.far {w : World} {g : Nat} {v : Value} {t : TypeId} (h : One w g v t) {p : Addr} (hp : g ≠ p.block) (u : Value) : One (w.setCell p u) g v t := (Below.heap_setCell w p u g hp).trans h
theorem One.below {w w' : World} {g : Nat} {v : Value} {t : TypeId} (h : One w g v t) (hb : Below w.heap.size w w') : One w' g v t := (hb.block g h.lt).trans h
theorem One.new (w : World) (v : Value) (t : TypeId) : One (w.alloc (.cells #[v] t)) w.heap.size v t := heap_alloc_new w _

/-- block g is one cell, whatever it holds -/
def HasOne (w : World) (g : Nat) (t : TypeId) : Prop := ∃ v, One w g v t
theorem HasOne.of {w : World} {g : Nat} {v : Value} {t : TypeId} (h : One w g v t) : HasOne w g t := ⟨v, h⟩
theorem HasOne.alloc {w : World} {g : Nat} {t : TypeId} (h : HasOne w g t) (o : Obj) : HasOne (w.alloc o) g t := h.elim fun v h => ⟨v, h.alloc o⟩
theorem HasOne.drew {w : World} {g : Nat} {t : TypeId} (h : HasOne w g t) : HasOne w.drew g t := h
theorem HasOne.far {w : World} {g : Nat} {t : TypeId} (h : HasOne w g t) {p : Addr} (hp : g ≠ p.block) (u : Value) : HasOne (w.setCell p u) g t := h.elim fun v h => ⟨v, h.far hp u⟩
theorem HasOne.set_ {w : World} {g : Nat} {t : TypeId} (h : HasOne w g t) (u : Value) : HasOne (w.setCell ⟨g, 0, none⟩ u) g t := h.elim fun _ h => ⟨u, h.set_ u⟩
theorem HasOne.below {w w' : World} {g : Nat} {t : TypeId} (h : HasOne w g t) (hb : Below w.heap.size w w') : HasOne w' g t := h.elim fun v h => ⟨v, h.below hb⟩
theorem One.setE {w : World} {g : Nat} {t : TypeId} (h : HasOne w g t) (u : Value) : One (w.setCell ⟨g, 0, none⟩ u) g u t := h.elim fun _ h => h.set_ u
/-- a reckoner's step: nothing is done where an error is there already -/
def rN (E : Int) (r : Except Int Int) : Int := if E = 0 then nOf r else 0
def rX (E : Int) (r : Except Int (Int × Int)) : Int := if E = 0 then xOf r else 0
def rY (E : Int) (r : Except Int (Int × Int)) : Int := if E = 0 then yOf r else 0
def rE {α : Type} (E : Int) (r : Except Int α) : Int := if E = 0 then eOf r else E
theorem R_rN {E : Int} {r : Except Int Int} (h : Good r) : R (rN E r) := by unfold rN; split; exact h.rr; exact R_0
theorem R_rX {E : Int} {r : Except Int (Int × Int)} (h : GoodV r) : R (rX E r) := by unfold rX; split; exact h.x; exact R_0
theorem R_rY {E : Int} {r : Except Int (Int × Int)} (h : GoodV r) : R (rY E r) := by unfold rY; split; exact h.y; exact R_0
theorem pBr {p : Prop} (h : p := by ((repeat (first | with_reducible exact Below.refl _ _ | (with_reducible refine Below.setCell ?_ pSd _) | (with_reducible refine Below.alloc ?_ pSd _) | (with_reducible refine Below.drew ?_) | with_reducible assumption | (with_reducible exact Hid.out (by assumption)) | (with_reducible refine Below.trans ?_ (Below.mono (Hid.out (by assumption)) pSd)) | (with_reducible refine Below.only ?_ (Hid.out (by assumption)) pSd pSd))); (first | done | fail))) : p := h
theorem pOn {p : Prop} (h : p := by ((repeat (first | with_reducible exact Only.refl _ _ | (with_reducible refine Only.setg ?_ _ _) | (with_reducible refine Only.setnew ?_ pSd _) | (with_reducible refine Only.alloc ?_ _) | (with_reducible refine Only.drew ?_) | (with_reducible refine Only.trans ?_ (Only.of_below (Hid.out (by assumption)))) | (with_reducible refine Only.trans ?_ (Hid.out (by assumption))))); (first | done | fail))) : p := h
theorem pOg {p : Prop} (h : p := by ((repeat (first | (with_reducible refine One.setE ?_ _) | (with_reducible refine One.far ?_ pSd _) | (with_reducible refine One.alloc ?_ _) | (with_reducible refine One.drew ?_) | (with_reducible exact Hid.out (by assumption)) | (with_reducible refine One.below ?_ (Hid.out (by assumption))) | (with_reducible exact HasOne.of (Hid.out (by assumption))) | (with_reducible refine HasOne.set_ ?_ _) | (with_reducible refine HasOne.far ?_ pSd _) | (with_reducible refine HasOne.alloc ?_ _) | (with_reducible refine HasOne.drew ?_) | (with_reducible refine HasOne.below ?_ (Hid.out (by assumption))))); (first | done | fail))) : p := h
end Go.Proofs.Ytdphhkbbphfjlaa

namespace Go.Proofs.Ytdphhkbbphfjlaa
set_option linter.unusedVariables false
set_option linter.unusedSimpArgs false
open Go.RowKit

/-- the cells of block b -/
def rowAt (w : World) (b : Nat) : Array Value := match w.heap[b]? with | some (.cells cs _ _) => cs | _ => #[]
/-- block g -/
def blk (w : World) (g : Nat) : Option Obj := w.heap[g]?
/-- a block, one cell of it set -/
def putB (i : Nat) (u : Value) : Option Obj → Option Obj
  | some (.cells cs t fr) => some (.cells (cs.setIfInBounds i u) t fr)
  | o => o
section
variable {w w' : World} {g : Nat} {cs : Array Value} {t : TypeId}
theorem blk_cell (h : blk w g = some (.cells cs t (0, 0))) : ∀ o, w.cell? ⟨g, o, none⟩ = cs[o]? := fun o => cell_of_row w g o cs t (0, 0) h
theorem blk_free (h : blk w g = some (.cells cs t (0, 0))) : ∀ o, w.frozen? ⟨g, o, none⟩ = false := fun o => frozen_of_row w g o cs t h
theorem blk_row (h : blk w g = some (.cells cs t (0, 0))) : rowAt w g = cs := by unfold rowAt; rw [show w.heap[g]? = _ from h]
theorem blk_lt (h : blk w g = some (.cells cs t (0, 0))) : g < w.heap.size := lt_of_block h
theorem blk_alloc (o : Obj) (h : g < w.heap.size) : blk (w.alloc o) g = blk w g := Below.heap_alloc w o g h
theorem blk_new (o : Obj) (h : g = w.heap.size) : blk (w.alloc o) g = some o := by subst h; exact heap_alloc_new w _
theorem blk_drew : blk w.drew g = blk w g := rfl
theorem blk_far (b i : Nat) (u : Value) (h : g ≠ b) : blk (w.setCell ⟨b, i, none⟩ u) g = blk w g := heap_setCell_other w _ g u h
theorem blk_set (i : Nat) (u : Value) : blk (w.setCell ⟨g, i, none⟩ u) g = putB i u (blk w g) := by
  unfold blk putB World.setCell
  simp only [Array.getElem?_modify, if_true, Option.isSome_none, Bool.false_eq_true, if_false]
  cases w.heap[g]? with
  | none => rfl
  | some o => cases o <;> rfl
theorem putB_cells (i : Nat) (u : Value) (fr : Nat × Nat) : putB i u (some (.cells cs t fr)) = some (.cells (cs.setIfInBounds i u) t fr) := rfl
theorem blk_below {B : Nat} (h : Below B w w') (hg : g < B) : blk w' g = blk w g := h.block g hg
theorem blk_only {k : Nat} (h : Only k w w') (hg : g < w.heap.size) (hne : g ≠ k) : blk w' g = blk w g := World.grownBy.block h g hg (fun e => hne (by injection e))
theorem blk_one {v : Value} (h : One w g v t) : blk w g = some (.cells #[v] t (0, 0)) := h
theorem one_blk {v : Value} (h : blk w g = some (.cells #[v] t (0, 0))) : One w g v t := h
end
/-- how a block reads behind a step -/
theorem pBk : (∀ (w : World) (g : Nat) (o : Obj), g < w.heap.size → blk (w.alloc o) g = blk w g) ∧ (∀ (w : World) (g : Nat) (o : Obj), g = w.heap.size → blk (w.alloc o) g = some o) ∧
    (∀ (w : World) (g : Nat), blk w.drew g = blk w g) ∧ (∀ (w : World) (g b i : Nat) (u : Value), g ≠ b → blk (w.setCell ⟨b, i, none⟩ u) g = blk w g) ∧
    (∀ (w : World) (g i : Nat) (u : Value), blk (w.setCell ⟨g, i, none⟩ u) g = putB i u (blk w g)) ∧
    (∀ (i : Nat) (u : Value) (cs : Array Value) (t : TypeId) (fr : Nat × Nat), putB i u (some (.cells cs t fr)) = some (.cells (cs.setIfInBounds i u) t fr)) ∧
    (∀ (l : List Value) (i : Nat) (u : Value), l.toArray.setIfInBounds i u = (l.set i u).toArray) ∧
    (∀ (x u : Value) (l : List Value), (x :: l).set 0 u = u :: l) ∧ (∀ (x u : Value) (l : List Value) (i : Nat), (x :: l).set (i + 1) u = x :: l.set i u) :=
  ⟨fun _ _ o h => blk_alloc o h, fun _ _ o h => blk_new o h, fun _ _ => blk_drew, fun _ _ b i u h => blk_far b i u h, fun _ _ i u => blk_set i u, fun _ _ _ _ _ => rfl, fun _ _ _ => List.setIfInBounds_toArray .., fun _ _ _ => rfl, fun _ _ _ _ => rfl⟩
/-- all that a block's cells tell -/
theorem blk_all {w : World} {g : Nat} {cs : Array Value} {t : TypeId} (h : blk w g = some (.cells cs t (0, 0))) :
    (∀ o, w.cell? ⟨g, o, none⟩ = cs[o]?) ∧ (∀ o, w.frozen? ⟨g, o, none⟩ = false) ∧ g < w.heap.size ∧ rowAt w g = cs ∧ Hid (blk w g = some (.cells cs t (0, 0))) :=
  ⟨blk_cell h, blk_free h, blk_lt h, blk_row h, Lib.hid h⟩
end Go.Proofs.Ytdphhkbbphfjlaa
