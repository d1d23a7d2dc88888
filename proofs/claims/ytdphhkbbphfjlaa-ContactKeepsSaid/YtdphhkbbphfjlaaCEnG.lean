/- All blows of a close world: no momentum grows much; sums of momenta may be. -/
import Derived.Test.YtdphhkbbphfjlaaCEnF
namespace Go.Proofs.Ytdphhkbbphfjlaa
set_option linter.unusedVariables false
set_option linter.unusedSimpArgs false
open Go.RowKit
theorem outer_fine2 {k : Int} {n : Nat} (hk : 0 ≤ k ∧ 4 * k ≤ 55340232221128654848) (hn10 : n ≤ 10) : ∀ (c i : Nat) (st : List BodyI × List (Nat × Nat)) (E : Int), FineL st.1 → st.1.length = n → i + c = n →
    enL st.1 ≤ E → E + c * 26584559915698317458076141205606891520 ≤ 274434430094133330371099688669184000000 * 1000000 → Met n i (i + 1) st.2 →
    ∃ st', outerX k n c i st = .ok st' ∧ FineL st'.1 ∧ enL st'.1 ≤ E + c * 26584559915698317458076141205606891520
  | 0, i, st, E, f, hn, hi, hE, hB, hm => ⟨st, rfl, f, by simpa using hE⟩
  | c + 1, i, st, E, f, hn, hi, hE, hB, hm => by
    have hc : ((c + 1 : Nat) : Int) = c + 1 := by omega
    rw [hc] at hB
    have hd : ((n - 1 - i : Nat) : Int) ≤ 10 := by omega
    have hd0 : (0 : Int) ≤ ((n - 1 - i : Nat) : Int) := by omega
    obtain ⟨s1, h1, f1, k1, e1, m1⟩ := inner_fine hk (n - 1 - i) (i + 1) st E f hn (by omega) (by omega) hE (by omega) hm
    obtain ⟨s2, h2, f2, e2⟩ := outer_fine2 hk hn10 c (i + 1) s1 (E + 26584559915698317458076141205606891520) f1 (k1.len.trans hn) (by omega) (by omega) (by omega) m1.row
    refine ⟨s2, ?_, f2, by rw [hc]; omega⟩
    unfold outerX
    rw [h1, bind_ok, h2]
theorem close_slow {zs : List Int} (hr : ∀ i, 0 ≤ zs.getD i 0 ∧ zs.getD i 0 ≤ 255) {n : Nat} (hn : n ≤ 10) {h : Int} (hh : 0 ≤ h ∧ h ≤ 255) {st : List BodyI × List (Nat × Nat)}
    (hs : outerX (h % 4 * 4611686018427387904) n n 0 (closeTo (bodiesN zs n) n, []) = .ok st) : ∀ b ∈ st.1, Slow64 b := by
  have hl := closeN_length zs n
  have f : FineL (closeTo (bodiesN zs n) n) := fun b hb => (closeN_all hr n b hb).1
  have h0 := enL_start f (fun b hb => (closeN_all hr n b hb).2.1)
  rw [hl] at h0
  have hl1 : (n : Int) ≤ 10 := by omega
  have hl0 : (0 : Int) ≤ (n : Int) := by omega
  obtain ⟨s2, h2, f2, e2⟩ := outer_fine2 (k := h % 4 * 4611686018427387904) (n := n) (by omega) hn n 0 (closeTo (bodiesN zs n) n, []) _ f hl (by omega) h0 (by omega) ⟨List.Pairwise.nil, fun p hp => by cases hp⟩
  rw [hs] at h2
  injection h2 with h2
  subst h2
  intro b hb
  obtain ⟨m, x, y, fb⟩ := f2 b hb
  exact slow_of fb (Int.le_trans (enB_le f2 b hb) (by omega))
theorem sumP_le {M : Int} (hM : 0 ≤ M) : ∀ l : List BodyI, (∀ b ∈ l, (-M ≤ b.px ∧ b.px ≤ M) ∧ (-M ≤ b.py ∧ b.py ≤ M)) → (-(l.length * M) ≤ sumPx l ∧ sumPx l ≤ l.length * M) ∧ (-(l.length * M) ≤ sumPy l ∧ sumPy l ≤ l.length * M)
  | [], _ => by simp [sumPx, sumPy]
  | b :: l, h => by
    have h1 := sumP_le hM l (fun c hc => h c (List.mem_cons_of_mem _ hc))
    have h2 := h b (List.mem_cons_self ..)
    have e : (((b :: l).length : Nat) : Int) * M = l.length * M + M := by
      rw [List.length_cons, show ((l.length + 1 : Nat) : Int) = l.length + 1 by omega, Int.add_mul, Int.one_mul]
    rw [e]
    show (-(l.length * M + M) ≤ b.px + sumPx l ∧ b.px + sumPx l ≤ l.length * M + M) ∧ (-(l.length * M + M) ≤ b.py + sumPy l ∧ b.py + sumPy l ≤ l.length * M + M)
    omega
theorem sumP_R {l : List BodyI} {n : Nat} (hn : n ≤ 10) (hl : l.length = n) (h : ∀ b ∈ l, Slow64 b) (k : Nat) (hk : k ≤ n) : R (0 + sumPx (l.take k)) ∧ R (0 + sumPy (l.take k)) := by
  have h1 := sumP_le (M := 1180591620717411303424) (by omega) (l.take k) (fun b hb => ⟨(h b (List.mem_of_mem_take hb)).px, (h b (List.mem_of_mem_take hb)).py⟩)
  have e : (l.take k).length ≤ 10 := by rw [List.length_take]; omega
  have e1 : (((l.take k).length : Nat) : Int) * 1180591620717411303424 ≤ 10 * 1180591620717411303424 := by omega
  exact ⟨R_mid2 (by omega) (by omega), R_mid2 (by omega) (by omega)⟩
theorem slow4_64 {b : BodyI} (h : Slow4 b) : Slow64 b := ⟨by have := h.1; omega, by have := h.2; omega⟩
theorem slow64_R {b : BodyI} (h : Slow64 b) : R b.px ∧ R b.py := ⟨R_mid2 (by have := h.px; omega) (by have := h.px; omega), R_mid2 (by have := h.py; omega) (by have := h.py; omega)⟩
theorem getD_pair_mem {l : List (Nat × Nat)} {k : Nat} (hk : k < l.length) : l.getD k (0, 0) ∈ l := by
  rw [List.getD_eq_getElem?_getD, List.getElem?_eq_getElem hk]; exact List.getElem_mem hk
theorem Met.get {n i j : Nat} {l : List (Nat × Nat)} (h : Met n i j l) {k : Nat} (hk : k < l.length) : (l.getD k (0, 0)).1 < (l.getD k (0, 0)).2 ∧ (l.getD k (0, 0)).2 < n :=
  ⟨(h.all _ (getD_pair_mem hk)).1, (h.all _ (getD_pair_mem hk)).2.1⟩
theorem Met.two {n i j : Nat} {l : List (Nat × Nat)} (h : Met n i j l) {k : Nat} (hk : k + 1 < l.length) : pLt (l.getD k (0, 0)) (l.getD (k + 1) (0, 0)) := by
  rw [List.getD_eq_getElem?_getD, List.getD_eq_getElem?_getD, List.getElem?_eq_getElem hk, List.getElem?_eq_getElem (show k < l.length by omega)]
  exact List.pairwise_iff_getElem.1 h.ord k (k + 1) (by omega) hk (by omega)
/-- the momenta of the first k as they were -/
def mixL (l s : List BodyI) (k : Nat) : List BodyI := l.take k ++ s.drop k
theorem mixL_length {l s : List BodyI} {n : Nat} (hl : l.length = n) (hs : s.length = n) {k : Nat} (hk : k ≤ n) : (mixL l s k).length = n := by
  unfold mixL; rw [List.length_append, List.length_take, List.length_drop]; omega
theorem still_back {a b : BodyI} (h : still b = still a) : { b with px := a.px, py := a.py } = a := by
  cases a; cases b
  unfold still at h
  simp only [BodyI.mk.injEq] at h ⊢
  omega
theorem mixL_step {l s : List BodyI} {n : Nat} (hl : l.length = n) (hs : s.length = n) (he : s.map still = l.map still) {k : Nat} (hk : k < n) :
    (mixL l s k).set k { (mixL l s k).getD k noB with px := (l.getD k noB).px, py := (l.getD k noB).py } = mixL l s (k + 1) := by
  have hlen := mixL_length hl hs (Nat.le_of_lt hk)
  have hg : (mixL l s k).getD k noB = s.getD k noB := by
    unfold mixL
    rw [List.getD_eq_getElem?_getD, List.getD_eq_getElem?_getD, List.getElem?_append_right (by rw [List.length_take]; omega), List.length_take, List.getElem?_drop]
    congr 2
    omega
  have hst : still (s.getD k noB) = still (l.getD k noB) := by
    have e : (s.map still)[k]? = (l.map still)[k]? := by rw [he]
    rw [List.getElem?_map, List.getElem?_map, List.getElem?_eq_getElem (by omega), List.getElem?_eq_getElem (by omega)] at e
    simp only [Option.map_some, Option.some.injEq] at e
    rw [List.getD_eq_getElem?_getD, List.getD_eq_getElem?_getD, List.getElem?_eq_getElem (by omega), List.getElem?_eq_getElem (by omega)]
    exact e
  rw [hg, still_back hst]
  apply List.ext_getElem?
  intro i
  rw [List.getElem?_set]
  unfold mixL
  by_cases hi : k = i
  · subst hi
    rw [if_pos rfl, if_pos (by have := hlen; unfold mixL at this; omega), List.getElem?_append_left (by rw [List.length_take]; omega), List.getElem?_take, if_pos (by omega), List.getD_eq_getElem?_getD, List.getElem?_eq_getElem (by omega)]
    rfl
  · rw [if_neg hi]
    by_cases hlt : i < k
    · rw [List.getElem?_append_left (by rw [List.length_take]; omega), List.getElem?_append_left (by rw [List.length_take]; omega), List.getElem?_take, List.getElem?_take, if_pos hlt, if_pos (by omega)]
    · rw [List.getElem?_append_right (by rw [List.length_take]; omega), List.getElem?_append_right (by rw [List.length_take]; omega), List.length_take, List.length_take, List.getElem?_drop, List.getElem?_drop]
      congr 1
      omega
theorem mixL_all {l s : List BodyI} {n : Nat} (hl : l.length = n) (hs : s.length = n) : mixL l s n = l := by
  unfold mixL
  rw [List.take_of_length_le (by omega), List.drop_eq_nil_of_le (by omega), List.append_nil]
end Go.Proofs.Ytdphhkbbphfjlaa
