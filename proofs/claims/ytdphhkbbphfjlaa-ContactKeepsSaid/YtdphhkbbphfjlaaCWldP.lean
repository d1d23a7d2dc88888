/- How many met; ranges of cells out of blocks; a world in the middle of a row. -/
import Derived.Test.YtdphhkbbphfjlaaCWldI
namespace Go.Proofs.Ytdphhkbbphfjlaa
set_option linter.unusedVariables false
set_option linter.unusedSimpArgs false
open Go.RowKit
theorem range_blk {w : World} {b : Nat} {cs : Array Value} {t : TypeId} {l : List Value} (h : blk w b = some (.cells cs t (0, 0))) (hl : ∀ (j : Nat) (v : Value), l[j]? = some v → cs[j]? = some v) : w.rangeAt b 0 l := by
  intro j v hv
  rw [Nat.zero_add, blk_cell h]
  exact hl j v hv
theorem few_inner {k : Int} {i : Nat} : ∀ (c j : Nat) (st s : List BodyI × List (Nat × Nat)), innerX k i c j st = .ok s → s.2.length ≤ st.2.length + c
  | 0, j, st, s, h => by injection h with h; subst h; exact Nat.le_refl _
  | c + 1, j, st, s, h => by
    unfold innerX at h
    cases hs : stepX k st i j with
    | error e => rw [hs, bind_err] at h; cases h
    | ok s1 =>
      rw [hs, bind_ok] at h
      have h1 := few_inner c (j + 1) s1 s h
      have h2 : s1.2.length ≤ st.2.length + 1 := by
        rcases step_parts hs with ⟨_, rfl⟩ | ⟨J, p, q, _, _, _, rfl⟩
        · omega
        · show (st.2 ++ [(i, j)]).length ≤ _; rw [List.length_append]; simp
      omega
theorem few_outer {k : Int} {n : Nat} : ∀ (c i : Nat) (st s : List BodyI × List (Nat × Nat)), outerX k n c i st = .ok s → s.2.length ≤ st.2.length + c * n
  | 0, i, st, s, h => by injection h with h; subst h; omega
  | c + 1, i, st, s, h => by
    unfold outerX at h
    cases hs : innerX k i (n - 1 - i) (i + 1) st with
    | error e => rw [hs, bind_err] at h; cases h
    | ok s1 =>
      rw [hs, bind_ok] at h
      have h1 := few_outer c (i + 1) s1 s h
      have h2 := few_inner _ _ _ _ hs
      rw [Nat.succ_mul]
      omega
theorem ones_flat : ∀ n : Nat, List.replicate n (Value.int .i64 (-1)) = (List.replicate n (-1 : Int)).flatMap intL
  | 0 => rfl
  | n + 1 => by rw [List.replicate_succ, List.replicate_succ, List.flatMap_cons, ← ones_flat n]; rfl
theorem run_load_world_mid {W : World} {g o : Nat} (cs : List Value) (hc : cs.length = 24) (h : W.rangeAt g o cs) : (loadRow 66 (.pointer (some ⟨g, o, none⟩))).run Try.prog W = .ok (.agg cs.toArray) W := by
  have hi : (Try.prog.info? 66).map (fun i => i.size) = some 24 := by kernel_rfl
  rw [← loadRow_eq]
  exact run_loadAt_mid W g o 66 cs _ h Try.underlying66 rfl (by rw [hc]; exact hi)
end Go.Proofs.Ytdphhkbbphfjlaa
