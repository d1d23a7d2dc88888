/- A region that draws its order, whose last operations wait for all others: what holds of the world (S) is asked ahead of these alone. A region that draws its order, as in RegG; the operations that wait are a list. -/
import Derived.Test.YtdphhkbbphfjlaaCBase
import Derived.OrdersHeld
import Derived.RegionTactic
import Derived.Deep.RegionHeld
import Derived.StillTail
namespace Go.Proofs.Ytdphhkbbphfjlaa
set_option linter.unusedVariables false
set_option linter.unusedSimpArgs false
open Go.RowKit
section
variable {P : Program} {md : Region.Mode} {ops : Array Oper} {Q : Exit → Act → World → Prop} {S : World → Prop} {n : Nat}

/-- Whatever order is picked from here on; behind each operation below number n S holds. -/
def Gw (P : Program) (md : Region.Mode) (ops : Array Oper) (Q : Exit → Act → World → Prop) (S : World → Prop) (n : Nat) : Nat → Array Bool → Act → World → Prop
  | 0, l, a, w => Region.ready md ops l = [] ∧ Q .normal a w
  | f + 1, l, a, w => (Region.ready md ops l = [] → Q .normal a w) ∧
      ∀ i, i ∈ Region.ready md ops l → wpOp P ops Q i (fun b u => (i < n → S u) ∧ Gw P md ops Q S n f (l.setIfInBounds i true) b u) a w

theorem Gw.any : ∀ {f : Nat} {l : Array Bool} {a : Act} {w : World}, Gw P md ops Q S n f l a w → wpAny P md ops Q f l a w := by
  intro f
  induction f with
  | zero => intro l a w h; exact h
  | succ f ih => intro l a w h; exact ⟨h.1, fun i hi => wpOp_mono (fun b u hb => ih hb.2) (h.2 i hi)⟩

/-- The dependents D of i: each waits for i or for another of D, none is done; the operations from n on are among them. -/
def deps (md : Region.Mode) (ops : Array Oper) (l : Array Bool) (i n : Nat) (D : List Nat) : Bool :=
  (D.all fun j => !(l.getD j true) && (i :: D).any (fun p => Region.waitsFor md ops j p)) && (List.range ops.size).all fun j => decide (j < n) || D.contains j

/-- .. computed -/
def depsOf (md : Region.Mode) (ops : Array Oper) (i : Nat) : List Nat :=
  (List.range ops.size).foldl (fun D j => if (i :: D).any (fun p => Region.waitsFor md ops j p) then j :: D else D) []

theorem Gw.first {i : Nat} {oi : Oper} {v : Value} {D : List Nat} (hi : ops[i]? = some oi) (hs : Region.noSelect ops = true)
    (hD2 : ∀ j ∈ D, ∃ p ∈ i :: D, Region.waitsFor md ops j p = true) (hD3 : ∀ j, j < ops.size → n ≤ j → j ∈ D) (hin : i < n)
    (hQ : ∀ c a w, Q (.panic c) (a.put oi.dst v) w → Q (.panic c) a w) :
    ∀ (f : Nat) (l : Array Bool) (a : Act) (w : World),
      (∀ j ∈ D, l.getD j true = false) →
      (∀ j oj, ops[j]? = some oj → j ≠ i → l.getD j true = false → (∀ e ∈ oj.after, Region.binds md e = true → e.on ≠ i) → oi.apart ops oj = true) →
      i ∈ Region.ready md ops l → YieldsIf P ops S oi v a → S w → Gw P md ops Q S n f (l.setIfInBounds i true) (a.put oi.dst v) w → Gw P md ops Q S n (f + 1) l a w := by
  intro f
  induction f with
  | zero =>
    intro l a w _ _ hr hy hS H
    refine ⟨fun h => absurd (h ▸ hr) (by simp), fun j hj => ?_⟩
    by_cases e : j = i
    · subst e; exact hy.wpOp hi hS ⟨fun _ => hS, H⟩
    · exact absurd (H.1 ▸ ready_mono hj e) (by simp)
  | succ f ih =>
    intro l a w hD1 hfree hr hy hS H
    refine ⟨fun h => absurd (h ▸ hr) (by simp), fun j hj => ?_⟩
    by_cases e : j = i
    · subst e; exact hy.wpOp hi hS ⟨fun _ => hS, H⟩
    obtain ⟨hjun, oj, hoj, hall⟩ := mem_ready.1 hj
    have hun := (mem_ready.1 hr).1
    have hnp : ∀ p ∈ i :: D, ∀ ed ∈ oj.after, Region.binds md ed = true → ed.on ≠ p := by
      intro p hp ed he hb heq
      have h1 := hall ed he hb
      have hpun : l.getD p true = false := by
        rcases List.mem_cons.1 hp with h | h
        · rw [h]; exact hun
        · exact hD1 p h
      rw [heq] at h1
      rw [getD_both hpun] at h1
      cases h1
    have hno := hnp i (List.mem_cons_self ..)
    have hjD : j ∉ D := by
      intro hd
      obtain ⟨p, hp, hw⟩ := hD2 j hd
      obtain ⟨o, ho, ed, he, hb, hon⟩ := Region.waitsFor_spec hw
      rw [hoj] at ho
      obtain rfl := Option.some.inj ho
      exact hnp p hp ed he hb hon
    have hjlt : j < ops.size := (Array.getElem?_eq_some_iff.1 hoj).1
    have hjn : j < n := by
      rcases Nat.lt_or_ge j n with h | h
      · exact h
      · exact absurd (hD3 j hjlt h) hjD
    have step := wpOp_putIf hoj (hfree j oj hoj e hjun hno) (Region.noSelect_spec hs i oi · · hi) (Region.noSelect_spec hs j oj · · hoj) hQ hy (H.2 j (ready_mono hj e))
    refine wpOp_mono (fun b u ⟨hyb, hSb, hG⟩ => ⟨hSb, ih (l.setIfInBounds j true) b u ?_ ?_ (ready_mono hr (Ne.symm e)) hyb (hSb hjn) ?_⟩) step
    · intro k hk
      rw [getD_set_ne true (fun (h : j = k) => hjD (by rw [h]; exact hk))]
      exact hD1 k hk
    · intro k ok hk' hki hku hkn
      refine hfree k ok hk' hki ?_ hkn
      by_cases h : j = k
      · subst h; exact hjun
      · rwa [getD_set_ne true h] at hku
    · rw [Array.setIfInBounds_comm _ _ e]; exact hG

theorem Gw.take {i : Nat} {oi : Oper} {v : Value} {f : Nat} {l : Array Bool} {a : Act} {w : World} (hi : ops[i]? = some oi)
    (hs : Region.noSelect ops = true) (hk : deps md ops l i n (depsOf md ops i) = true) (hin : i < n) (hf : Region.free md ops l i = true) (hr : (Region.ready md ops l).contains i = true)
    (hQ : ∀ c a w, Q (.panic c) (a.put oi.dst v) w → Q (.panic c) a w) (hy : YieldsIf P ops S oi v a) (hS : S w)
    (h : Gw P md ops Q S n f (l.setIfInBounds i true) (a.put oi.dst v) w) : Gw P md ops Q S n (f + 1) l a w := by
  unfold deps at hk
  rw [Bool.and_eq_true] at hk
  have h1 := List.all_eq_true.1 hk.1
  have h2 := List.all_eq_true.1 hk.2
  refine Gw.first (D := depsOf md ops i) hi hs (fun j hj => ?_) (fun j hj hn => ?_) hin hQ f l a w (fun j hj => ?_) (Region.free_spec hi hf) (by simpa using hr) hy hS h
  · have := h1 j hj
    rw [Bool.and_eq_true] at this
    exact List.any_eq_true.1 this.2
  · have := h2 j (List.mem_range.2 hj)
    rw [Bool.or_eq_true, decide_eq_true_eq] at this
    rcases this with h | h
    · omega
    · simpa using h
  · have := h1 j hj
    rw [Bool.and_eq_true] at this
    simpa using this.1

/-- One alone may come up: one below n. -/
theorem Gw.one {i : Nat} {o : Oper} {f : Nat} {l : Array Bool} {a : Act} {w : World} (ho : ops[i]? = some o) (hr : Region.ready md ops l = [i])
    (h : ∀ K : Act → World → Prop, Shut (∀ b u, S u → (S u → Gw P md ops Q S n f (l.setIfInBounds i true) b u) → K b u) → if Region.wanted o (yielded ops a.tmps) = true then Oper.wp P o a w K Q else K (a.put o.dst undef) w) :
    Gw P md ops Q S n (f + 1) l a w := by
  refine ⟨fun h0 => absurd (h0 ▸ hr) (by simp), fun j hj => ?_⟩
  rw [hr, List.mem_singleton] at hj
  subst hj
  exact wpOp_step ho fun K hK => h K fun b u hS hG => hK b u ⟨fun _ => hS, hG hS⟩
/-- One alone may come up: one from n on. -/
theorem Gw.last {i : Nat} {o : Oper} {f : Nat} {l : Array Bool} {a : Act} {w : World} (ho : ops[i]? = some o) (hr : Region.ready md ops l = [i]) (hn : ¬ i < n)
    (h : ∀ K : Act → World → Prop, Shut (∀ b u, Gw P md ops Q S n f (l.setIfInBounds i true) b u → K b u) → if Region.wanted o (yielded ops a.tmps) = true then Oper.wp P o a w K Q else K (a.put o.dst undef) w) :
    Gw P md ops Q S n (f + 1) l a w := by
  refine ⟨fun h0 => absurd (h0 ▸ hr) (by simp), fun j hj => ?_⟩
  rw [hr, List.mem_singleton] at hj
  subst hj
  exact wpOp_step ho fun K hK => h K fun b u hG => hK b u ⟨fun h => absurd h hn, hG⟩
/-- one is taken first: all that it asks is made where it is asked -/
theorem Gw.tk (i : Nat) {oi : Oper} {v : Value} {f : Nat} {l : Array Bool} {a : Act} {w : World} (hi : ops[i]? = some oi)
    (h : Gw P md ops Q S n f (l.setIfInBounds i true) (a.put oi.dst v) w)
    (hs : Region.noSelect ops = true := by kernel_rfl) (hk : deps md ops l i n (depsOf md ops i) = true := by kernel_rfl) (hin : i < n := by decide) (hf : Region.free md ops l i = true := by kernel_rfl) (hr : (Region.ready md ops l).contains i = true := by kernel_rfl)
    (hQ : ∀ c a w, Q (.panic c) (a.put oi.dst v) w → Q (.panic c) a w := by exact fun _ _ _ h => h)
    (hy : YieldsIf P ops S oi v a := by exact Or.inl ⟨by rfl, by intro w' hSw; (try dsimp only at hSw); go_simp; with_reducible rfl⟩) (hS : S w := by assumption) : Gw P md ops Q S n (f + 1) l a w :=
  Gw.take hi hs hk hin hf hr hQ hy hS h
/-- one that is not wanted is passed over -/
theorem Gw.ts (i : Nat) {oi : Oper} {f : Nat} {l : Array Bool} {a : Act} {w : World} (hi : ops[i]? = some oi)
    (h : Gw P md ops Q S n f (l.setIfInBounds i true) (a.put oi.dst undef) w)
    (hs : Region.noSelect ops = true := by kernel_rfl) (hk : deps md ops l i n (depsOf md ops i) = true := by kernel_rfl) (hin : i < n := by decide) (hf : Region.free md ops l i = true := by kernel_rfl) (hr : (Region.ready md ops l).contains i = true := by kernel_rfl)
    (hQ : ∀ c a w, Q (.panic c) (a.put oi.dst undef) w → Q (.panic c) a w := by exact fun _ _ _ h => h)
    (hy : YieldsIf P ops S oi undef a := by exact Or.inr ⟨by rfl, rfl⟩) (hS : S w := by assumption) : Gw P md ops Q S n (f + 1) l a w :=
  Gw.take hi hs hk hin hf hr hQ hy hS h
theorem Gw.done {l : Array Bool} {a : Act} {w : World} (hr : Region.ready md ops l = []) (h : Q .normal a w) : ∀ f, Gw P md ops Q S n f l a w
  | 0 => ⟨hr, h⟩
  | _ + 1 => ⟨fun _ => h, by rw [hr]; simp⟩
theorem wp_region_G {id : Nat} {a : Act} {w : World} (S : World → Prop) (n : Nat) (hm : P.follows .mixedOrders = true) (hS : S w.drew)
    (h : S w.drew → Gw P .any ops Q S n ops.size (Array.replicate ops.size false) a w.drew) : (Code.region id ops true).wp P Q a w :=
  wp_region_any hm (Gw.any (h hS))
end
/-- what holds of the world is asked again -/
theorem pKp {p : Prop} (h : p := by first | (dsimp only; go_keep; done) | (go_keep; done) | ((try dsimp only); (repeat' (with_reducible refine And.intro ?_ ?_)) <;> (simp (maxDischargeDepth := 9) [go_sem, *]; done)) | fail) : p := h
/-- a slot is written -/
theorem pLy : (∀ (t : Array Value) (ds) (d : Tmp) (v : Value), Act.put ⟨t, ds⟩ (some d) v = ⟨t.setIfInBounds d v, ds⟩) ∧ (∀ (a : Act) (v : Value), a.put none v = a) ∧
    (∀ (l : List Value) (i : Nat) (u : Value), l.toArray.setIfInBounds i u = (l.set i u).toArray) ∧
    (∀ (x u : Value) (l : List Value), (x :: l).set 0 u = u :: l) ∧ (∀ (x u : Value) (l : List Value) (i : Nat), (x :: l).set (i + 1) u = x :: l.set i u) ∧
    (∀ (l : List Oper) (i : Nat) (h : i < l.toArray.size), l.toArray[i] = l[i]'h) ∧ (∀ (x : Oper) (l : List Oper) (h : 0 < (x :: l).length), (x :: l)[0]'h = x) ∧
    (∀ (x : Oper) (l : List Oper) (i : Nat) (h : i + 1 < (x :: l).length), (x :: l)[i + 1]'h = l[i]'(Nat.lt_of_succ_lt_succ h)) :=
  ⟨fun _ _ _ _ => rfl, fun _ _ => rfl, fun _ _ _ => List.setIfInBounds_toArray .., fun _ _ _ => rfl, fun _ _ _ _ => rfl, fun _ _ _ => rfl, fun _ _ _ => rfl, fun _ _ _ _ => rfl⟩
end Go.Proofs.Ytdphhkbbphfjlaa
namespace Go.Proofs.Ytdphhkbbphfjlaa
set_option linter.unusedVariables false
set_option linter.unusedSimpArgs false
open Go.RowKit
section
variable {P : Program} {md : Region.Mode} {ops : Array Oper} {Q : Exit → Act → World → Prop} {S : World → Prop} {L : List Nat}

/-- Whatever order is picked from here on; behind each operation below number n S holds. -/
def Gl (P : Program) (md : Region.Mode) (ops : Array Oper) (Q : Exit → Act → World → Prop) (S : World → Prop) (L : List Nat) : Nat → Array Bool → Act → World → Prop
  | 0, l, a, w => Region.ready md ops l = [] ∧ Q .normal a w
  | f + 1, l, a, w => (Region.ready md ops l = [] → Q .normal a w) ∧
      ∀ i, i ∈ Region.ready md ops l → wpOp P ops Q i (fun b u => (L.contains i = false → S w → S u) ∧ Gl P md ops Q S L f (l.setIfInBounds i true) b u) a w

theorem Gl.any : ∀ {f : Nat} {l : Array Bool} {a : Act} {w : World}, Gl P md ops Q S L f l a w → wpAny P md ops Q f l a w := by
  intro f
  induction f with
  | zero => intro l a w h; exact h
  | succ f ih => intro l a w h; exact ⟨h.1, fun i hi => wpOp_mono (fun b u hb => ih hb.2) (h.2 i hi)⟩

/-- The dependents D of i: each waits for i or for another of D, none is done; the operations from n on are among them. -/
def depsL (md : Region.Mode) (ops : Array Oper) (l : Array Bool) (i : Nat) (L D : List Nat) : Bool :=
  (D.all fun j => !(l.getD j true) && (i :: D).any (fun p => Region.waitsFor md ops j p)) && (List.range ops.size).all fun j => !(L.contains j) || D.contains j

theorem Gl.first {i : Nat} {oi : Oper} {v : Value} {D : List Nat} (hi : ops[i]? = some oi) (hs : Region.noSelect ops = true)
    (hD2 : ∀ j ∈ D, ∃ p ∈ i :: D, Region.waitsFor md ops j p = true) (hD3 : ∀ j, j < ops.size → L.contains j = true → j ∈ D) (hin : L.contains i = false)
    (hQ : ∀ c a w, Q (.panic c) (a.put oi.dst v) w → Q (.panic c) a w) :
    ∀ (f : Nat) (l : Array Bool) (a : Act) (w : World),
      (∀ j ∈ D, l.getD j true = false) →
      (∀ j oj, ops[j]? = some oj → j ≠ i → l.getD j true = false → (∀ e ∈ oj.after, Region.binds md e = true → e.on ≠ i) → oi.apart ops oj = true) →
      i ∈ Region.ready md ops l → YieldsIf P ops S oi v a → S w → Gl P md ops Q S L f (l.setIfInBounds i true) (a.put oi.dst v) w → Gl P md ops Q S L (f + 1) l a w := by
  intro f
  induction f with
  | zero =>
    intro l a w _ _ hr hy hS H
    refine ⟨fun h => absurd (h ▸ hr) (by simp), fun j hj => ?_⟩
    by_cases e : j = i
    · subst e; exact hy.wpOp hi hS ⟨fun _ _ => hS, H⟩
    · exact absurd (H.1 ▸ ready_mono hj e) (by simp)
  | succ f ih =>
    intro l a w hD1 hfree hr hy hS H
    refine ⟨fun h => absurd (h ▸ hr) (by simp), fun j hj => ?_⟩
    by_cases e : j = i
    · subst e; exact hy.wpOp hi hS ⟨fun _ _ => hS, H⟩
    obtain ⟨hjun, oj, hoj, hall⟩ := mem_ready.1 hj
    have hun := (mem_ready.1 hr).1
    have hnp : ∀ p ∈ i :: D, ∀ ed ∈ oj.after, Region.binds md ed = true → ed.on ≠ p := by
      intro p hp ed he hb heq
      have h1 := hall ed he hb
      have hpun : l.getD p true = false := by
        rcases List.mem_cons.1 hp with h | h
        · rw [h]; exact hun
        · exact hD1 p h
      rw [heq] at h1
      rw [getD_both hpun] at h1
      cases h1
    have hno := hnp i (List.mem_cons_self ..)
    have hjD : j ∉ D := by
      intro hd
      obtain ⟨p, hp, hw⟩ := hD2 j hd
      obtain ⟨o, ho, ed, he, hb, hon⟩ := Region.waitsFor_spec hw
      rw [hoj] at ho
      obtain rfl := Option.some.inj ho
      exact hnp p hp ed he hb hon
    have hjlt : j < ops.size := (Array.getElem?_eq_some_iff.1 hoj).1
    have hjn : L.contains j = false := by
      cases h : L.contains j
      · rfl
      · exact absurd (hD3 j hjlt h) hjD
    have step := wpOp_putIf hoj (hfree j oj hoj e hjun hno) (Region.noSelect_spec hs i oi · · hi) (Region.noSelect_spec hs j oj · · hoj) hQ hy (H.2 j (ready_mono hj e))
    refine wpOp_mono (fun b u ⟨hyb, hSb, hG⟩ => ⟨hSb, ih (l.setIfInBounds j true) b u ?_ ?_ (ready_mono hr (Ne.symm e)) hyb (hSb hjn hS) ?_⟩) step
    · intro k hk
      rw [getD_set_ne true (fun (h : j = k) => hjD (by rw [h]; exact hk))]
      exact hD1 k hk
    · intro k ok hk' hki hku hkn
      refine hfree k ok hk' hki ?_ hkn
      by_cases h : j = k
      · subst h; exact hjun
      · rwa [getD_set_ne true h] at hku
    · rw [Array.setIfInBounds_comm _ _ e]; exact hG

theorem Gl.take {i : Nat} {oi : Oper} {v : Value} {f : Nat} {l : Array Bool} {a : Act} {w : World} (hi : ops[i]? = some oi)
    (hs : Region.noSelect ops = true) (hk : depsL md ops l i L (depsOf md ops i) = true) (hin : L.contains i = false) (hf : Region.free md ops l i = true) (hr : (Region.ready md ops l).contains i = true)
    (hQ : ∀ c a w, Q (.panic c) (a.put oi.dst v) w → Q (.panic c) a w) (hy : YieldsIf P ops S oi v a) (hS : S w)
    (h : Gl P md ops Q S L f (l.setIfInBounds i true) (a.put oi.dst v) w) : Gl P md ops Q S L (f + 1) l a w := by
  unfold depsL at hk
  rw [Bool.and_eq_true] at hk
  have h1 := List.all_eq_true.1 hk.1
  have h2 := List.all_eq_true.1 hk.2
  refine Gl.first (D := depsOf md ops i) hi hs (fun j hj => ?_) (fun j hj hn => ?_) hin hQ f l a w (fun j hj => ?_) (Region.free_spec hi hf) (by simpa using hr) hy hS h
  · have := h1 j hj
    rw [Bool.and_eq_true] at this
    exact List.any_eq_true.1 this.2
  · have := h2 j (List.mem_range.2 hj)
    rw [hn] at this
    simpa using this
  · have := h1 j hj
    rw [Bool.and_eq_true] at this
    simpa using this.1

/-- One that yields in whatever world, of those that wait. -/
theorem Gl.pure {i : Nat} {oi : Oper} {v : Value} {D : List Nat} (hi : ops[i]? = some oi) (hs : Region.noSelect ops = true)
    (hD2 : ∀ j ∈ D, ∃ p ∈ i :: D, Region.waitsFor md ops j p = true) 
    (hQ : ∀ c a w, Q (.panic c) (a.put oi.dst v) w → Q (.panic c) a w) :
    ∀ (f : Nat) (l : Array Bool) (a : Act) (w : World),
      (∀ j ∈ D, l.getD j true = false) →
      (∀ j oj, ops[j]? = some oj → j ≠ i → l.getD j true = false → (∀ e ∈ oj.after, Region.binds md e = true → e.on ≠ i) → oi.apart ops oj = true) →
      i ∈ Region.ready md ops l → YieldsIf P ops (fun _ => True) oi v a → Gl P md ops Q S L f (l.setIfInBounds i true) (a.put oi.dst v) w → Gl P md ops Q S L (f + 1) l a w := by
  intro f
  induction f with
  | zero =>
    intro l a w _ _ hr hy H
    refine ⟨fun h => absurd (h ▸ hr) (by simp), fun j hj => ?_⟩
    by_cases e : j = i
    · subst e; exact hy.wpOp hi trivial ⟨fun _ h => h, H⟩
    · exact absurd (H.1 ▸ ready_mono hj e) (by simp)
  | succ f ih =>
    intro l a w hD1 hfree hr hy H
    refine ⟨fun h => absurd (h ▸ hr) (by simp), fun j hj => ?_⟩
    by_cases e : j = i
    · subst e; exact hy.wpOp hi trivial ⟨fun _ h => h, H⟩
    obtain ⟨hjun, oj, hoj, hall⟩ := mem_ready.1 hj
    have hun := (mem_ready.1 hr).1
    have hnp : ∀ p ∈ i :: D, ∀ ed ∈ oj.after, Region.binds md ed = true → ed.on ≠ p := by
      intro p hp ed he hb heq
      have h1 := hall ed he hb
      have hpun : l.getD p true = false := by
        rcases List.mem_cons.1 hp with h | h
        · rw [h]; exact hun
        · exact hD1 p h
      rw [heq] at h1
      rw [getD_both hpun] at h1
      cases h1
    have hno := hnp i (List.mem_cons_self ..)
    have hjD : j ∉ D := by
      intro hd
      obtain ⟨p, hp, hw⟩ := hD2 j hd
      obtain ⟨o, ho, ed, he, hb, hon⟩ := Region.waitsFor_spec hw
      rw [hoj] at ho
      obtain rfl := Option.some.inj ho
      exact hnp p hp ed he hb hon
    have step := wpOp_putIf hoj (hfree j oj hoj e hjun hno) (Region.noSelect_spec hs i oi · · hi) (Region.noSelect_spec hs j oj · · hoj) hQ hy (H.2 j (ready_mono hj e))
    refine wpOp_mono (fun b u ⟨hyb, hSb, hG⟩ => ⟨hSb, ih (l.setIfInBounds j true) b u ?_ ?_ (ready_mono hr (Ne.symm e)) hyb ?_⟩) step
    · intro k hk
      rw [getD_set_ne true (fun (h : j = k) => hjD (by rw [h]; exact hk))]
      exact hD1 k hk
    · intro k ok hk' hki hku hkn
      refine hfree k ok hk' hki ?_ hkn
      by_cases h : j = k
      · subst h; exact hjun
      · rwa [getD_set_ne true h] at hku
    · rw [Array.setIfInBounds_comm _ _ e]; exact hG
/-- the dependents: each waits, none is done -/
def depsP (md : Region.Mode) (ops : Array Oper) (l : Array Bool) (i : Nat) (D : List Nat) : Bool :=
  D.all fun j => !(l.getD j true) && (i :: D).any (fun p => Region.waitsFor md ops j p)
/-- one of those that wait, that yields in whatever world, is taken first -/
theorem Gl.tp (i : Nat) {oi : Oper} {v : Value} {f : Nat} {l : Array Bool} {a : Act} {w : World} (hi : ops[i]? = some oi)
    (h : Gl P md ops Q S L f (l.setIfInBounds i true) (a.put oi.dst v) w)
    (hs : Region.noSelect ops = true := by kernel_rfl) (hk : depsP md ops l i (depsOf md ops i) = true := by kernel_rfl) (hf : Region.free md ops l i = true := by kernel_rfl) (hr : (Region.ready md ops l).contains i = true := by kernel_rfl)
    (hQ : ∀ c a w, Q (.panic c) (a.put oi.dst v) w → Q (.panic c) a w := by exact fun _ _ _ h => h)
    (hy : YieldsIf P ops (fun _ => True) oi v a := by exact Or.inl ⟨by rfl, by intro w' hSw; clear hSw; go_simp; with_reducible rfl⟩) : Gl P md ops Q S L (f + 1) l a w := by
  unfold depsP at hk
  have h1 := List.all_eq_true.1 hk
  refine Gl.pure (D := depsOf md ops i) hi hs (fun j hj => ?_) hQ f l a w (fun j hj => ?_) (Region.free_spec hi hf) (by simpa using hr) hy h
  · have := h1 j hj
    rw [Bool.and_eq_true] at this
    exact List.any_eq_true.1 this.2
  · have := h1 j hj
    rw [Bool.and_eq_true] at this
    simpa using this.1
/-- One alone may come up: one below n. -/
theorem Gl.one {i : Nat} {o : Oper} {f : Nat} {l : Array Bool} {a : Act} {w : World} (ho : ops[i]? = some o) (hr : Region.ready md ops l = [i])
    (h : ∀ K : Act → World → Prop, Shut (∀ b u, S u → (S u → Gl P md ops Q S L f (l.setIfInBounds i true) b u) → K b u) → if Region.wanted o (yielded ops a.tmps) = true then Oper.wp P o a w K Q else K (a.put o.dst undef) w) :
    Gl P md ops Q S L (f + 1) l a w := by
  refine ⟨fun h0 => absurd (h0 ▸ hr) (by simp), fun j hj => ?_⟩
  rw [hr, List.mem_singleton] at hj
  subst hj
  exact wpOp_step ho fun K hK => h K fun b u hS hG => hK b u ⟨fun _ _ => hS, hG hS⟩
/-- One alone may come up: one from n on. -/
theorem Gl.last {i : Nat} {o : Oper} {f : Nat} {l : Array Bool} {a : Act} {w : World} (ho : ops[i]? = some o) (hr : Region.ready md ops l = [i]) (hn : L.contains i = true)
    (h : ∀ K : Act → World → Prop, Shut (∀ b u, Gl P md ops Q S L f (l.setIfInBounds i true) b u → K b u) → if Region.wanted o (yielded ops a.tmps) = true then Oper.wp P o a w K Q else K (a.put o.dst undef) w) :
    Gl P md ops Q S L (f + 1) l a w := by
  refine ⟨fun h0 => absurd (h0 ▸ hr) (by simp), fun j hj => ?_⟩
  rw [hr, List.mem_singleton] at hj
  subst hj
  exact wpOp_step ho fun K hK => h K fun b u hG => hK b u ⟨fun h => (by rw [hn] at h; cases h), hG⟩
/-- one is taken first: all that it asks is made where it is asked -/
theorem Gl.tk (i : Nat) {oi : Oper} {v : Value} {f : Nat} {l : Array Bool} {a : Act} {w : World} (hi : ops[i]? = some oi)
    (h : Gl P md ops Q S L f (l.setIfInBounds i true) (a.put oi.dst v) w)
    (hs : Region.noSelect ops = true := by kernel_rfl) (hk : depsL md ops l i L (depsOf md ops i) = true := by kernel_rfl) (hin : L.contains i = false := by decide) (hf : Region.free md ops l i = true := by kernel_rfl) (hr : (Region.ready md ops l).contains i = true := by kernel_rfl)
    (hQ : ∀ c a w, Q (.panic c) (a.put oi.dst v) w → Q (.panic c) a w := by exact fun _ _ _ h => h)
    (hy : YieldsIf P ops S oi v a := by exact Or.inl ⟨by rfl, by intro w' hSw; (try dsimp only at hSw); go_simp; with_reducible rfl⟩) (hS : S w := by assumption) : Gl P md ops Q S L (f + 1) l a w :=
  Gl.take hi hs hk hin hf hr hQ hy hS h
/-- one that is not wanted is passed over -/
theorem Gl.ts (i : Nat) {oi : Oper} {f : Nat} {l : Array Bool} {a : Act} {w : World} (hi : ops[i]? = some oi)
    (h : Gl P md ops Q S L f (l.setIfInBounds i true) (a.put oi.dst undef) w)
    (hs : Region.noSelect ops = true := by kernel_rfl) (hk : depsL md ops l i L (depsOf md ops i) = true := by kernel_rfl) (hin : L.contains i = false := by decide) (hf : Region.free md ops l i = true := by kernel_rfl) (hr : (Region.ready md ops l).contains i = true := by kernel_rfl)
    (hQ : ∀ c a w, Q (.panic c) (a.put oi.dst undef) w → Q (.panic c) a w := by exact fun _ _ _ h => h)
    (hy : YieldsIf P ops S oi undef a := by exact Or.inr ⟨by rfl, rfl⟩) (hS : S w := by assumption) : Gl P md ops Q S L (f + 1) l a w :=
  Gl.take hi hs hk hin hf hr hQ hy hS h
theorem Gl.done {l : Array Bool} {a : Act} {w : World} (hr : Region.ready md ops l = []) (h : Q .normal a w) : ∀ f, Gl P md ops Q S L f l a w
  | 0 => ⟨hr, h⟩
  | _ + 1 => ⟨fun _ => h, by rw [hr]; simp⟩
theorem wp_region_L {id : Nat} {a : Act} {w : World} (S : World → Prop) (L : List Nat) (hm : P.follows .mixedOrders = true) (hS : S w.drew)
    (h : S w.drew → Gl P .any ops Q S L ops.size (Array.replicate ops.size false) a w.drew) : (Code.region id ops true).wp P Q a w :=
  wp_region_any hm (Gl.any (h hS))
end
end Go.Proofs.Ytdphhkbbphfjlaa
