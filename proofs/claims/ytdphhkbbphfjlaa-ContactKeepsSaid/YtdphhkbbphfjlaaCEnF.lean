/- The bodies of a close world are fine, slow, may be. -/
import Derived.Test.YtdphhkbbphfjlaaCWldE
namespace Go.Proofs.Ytdphhkbbphfjlaa
set_option linter.unusedVariables false
set_option linter.unusedSimpArgs false
open Go.RowKit
theorem R_mid2 {x : Int} (h0 : -10000000000000000000000000000 ≤ x) (h1 : x ≤ 10000000000000000000000000000) : R x := by unfold R; omega
theorem tmod4 (x : Int) : -3 ≤ Int.tmod x 4 ∧ Int.tmod x 4 ≤ 3 := by
  rcases Int.le_total 0 x with h | h
  · rw [Int.tmod_eq_emod_of_nonneg h]; omega
  · have e : Int.tmod (-x) 4 = (-x) % 4 := Int.tmod_eq_emod_of_nonneg (by omega)
    rw [Int.neg_tmod] at e
    omega
theorem close_fine {a b c d : Int} (ha : 0 ≤ a ∧ a ≤ 255) (hb : 0 ≤ b ∧ b ≤ 255) (hc : 0 ≤ c ∧ c ≤ 255) (hd : 0 ≤ d ∧ d ≤ 255) :
    (∃ m x y, Fine (closeB (bodyN a b c d)) m x y) ∧ Slow4 (closeB (bodyN a b c d)) ∧ MayN (closeB (bodyN a b c d)) := by
  have hx : hi (val (a - 128) (b * 72057594037927936)) = a - 128 := hi_val (by unfold W64; omega)
  have lx : lo (val (a - 128) (b * 72057594037927936)) = b * 72057594037927936 := lo_val (by unfold W64; omega)
  have hy : hi (val (b - 128) (c * 1099511627776)) = b - 128 := hi_val (by unfold W64; omega)
  have ly : lo (val (b - 128) (c * 1099511627776)) = c * 1099511627776 := lo_val (by unfold W64; omega)
  have tx : -3 ≤ Int.tmod (a - 128) 4 ∧ Int.tmod (a - 128) 4 ≤ 3 := tmod4 _
  have ty : -3 ≤ Int.tmod (b - 128) 4 ∧ Int.tmod (b - 128) 4 ≤ 3 := tmod4 _
  have ex : (closeB (bodyN a b c d)).x = val (Int.tmod (a - 128) 4) (b * 72057594037927936) := by
    show val (Int.tmod (hi (val (a - 128) (b * 72057594037927936))) 4) (lo (val (a - 128) (b * 72057594037927936))) = _
    rw [hx, lx]
  have ey : (closeB (bodyN a b c d)).y = val (Int.tmod (b - 128) 4) (c * 1099511627776) := by
    show val (Int.tmod (hi (val (b - 128) (c * 1099511627776))) 4) (lo (val (b - 128) (c * 1099511627776))) = _
    rw [hy, ly]
  generalize Int.tmod (a - 128) 4 = u at *
  generalize Int.tmod (b - 128) 4 = v at *
  have em : (closeB (bodyN a b c d)).mass = val (1 + c % 9) 0 := rfl
  have er : (closeB (bodyN a b c d)).radius = val (d % 3) 4611686018427387904 := rfl
  have ep : (closeB (bodyN a b c d)).px = val (d % 7 - 3) a := rfl
  have eq : (closeB (bodyN a b c d)).py = val (c % 5 - 2) (d % 16 * 1152921504606846976) := rfl
  have ef : (closeB (bodyN a b c d)).fuel = d * 1125899906842624 := rfl
  unfold val at ex ey em er ep eq
  refine ⟨⟨1 + c % 9, u * 16777216 + b * 65536, v * 16777216 + c, ⟨by omega, by omega, em, by rw [ex]; omega, by rw [ey]; omega, by omega, by omega, by rw [er]; omega⟩⟩, ⟨by rw [ep]; omega, by rw [eq]; omega⟩, ⟨?_, ?_, ?_, ?_, ?_, ?_, ?_⟩⟩
  · rw [em]; exact R_mid2 (by omega) (by omega)
  · rw [er]; exact R_mid2 (by omega) (by omega)
  · rw [ex]; exact R_mid2 (by omega) (by omega)
  · rw [ey]; exact R_mid2 (by omega) (by omega)
  · rw [ep]; exact R_mid2 (by omega) (by omega)
  · rw [eq]; exact R_mid2 (by omega) (by omega)
  · rw [ef]; exact R_mid2 (by omega) (by omega)
theorem closeN_length (zs : List Int) (n : Nat) : (closeTo (bodiesN zs n) n).length = n := by rw [closeTo_length, bodiesN_length]
theorem closeN_all {zs : List Int} (hr : ∀ i, 0 ≤ zs.getD i 0 ∧ zs.getD i 0 ≤ 255) (n : Nat) : ∀ b ∈ closeTo (bodiesN zs n) n, (∃ m x y, Fine b m x y) ∧ Slow4 b ∧ MayN b := by
  intro b hb
  have e : closeTo (bodiesN zs n) n = (bodiesN zs n).map closeB := by
    unfold closeTo
    rw [List.take_of_length_le (by rw [bodiesN_length]; exact Nat.le_refl _), List.drop_eq_nil_of_le (by rw [bodiesN_length]; exact Nat.le_refl _), List.append_nil]
  rw [e] at hb
  obtain ⟨c, hc, rfl⟩ := List.mem_map.1 hb
  unfold bodiesN at hc
  obtain ⟨t, _, rfl⟩ := List.mem_map.1 hc
  exact close_fine (hr _) (hr _) (hr _) (hr _)
/-- all blows of a close world: no error -/
theorem close_all {zs : List Int} (hr : ∀ i, 0 ≤ zs.getD i 0 ∧ zs.getD i 0 ≤ 255) {n : Nat} (hn : n ≤ 10) {h : Int} (hh : 0 ≤ h ∧ h ≤ 255) :
    ∃ st, outerX (h % 4 * 4611686018427387904) n n 0 (closeTo (bodiesN zs n) n, []) = .ok st ∧ FineL st.1 ∧ Kept (closeTo (bodiesN zs n) n, []) st ∧ ∃ a b, Met n a b st.2 := by
  have hl := closeN_length zs n
  obtain ⟨st, h1, h2, h3, h4⟩ := all_fine (k := h % 4 * 4611686018427387904) (l := closeTo (bodiesN zs n) n) (by omega) (by rw [hl]; exact hn) (fun b hb => (closeN_all hr n b hb).1) (fun b hb => (closeN_all hr n b hb).2.1)
  unfold allX at h1
  rw [hl] at h1 h4
  exact ⟨st, h1, h2, h3, h4⟩
end Go.Proofs.Ytdphhkbbphfjlaa
