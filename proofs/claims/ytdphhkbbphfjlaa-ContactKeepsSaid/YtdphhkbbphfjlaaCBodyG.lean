/- contact.Over and contact.Blow, whole. -/
import Derived.Test.YtdphhkbbphfjlaaCBodyF
namespace Go.Proofs.Ytdphhkbbphfjlaa
set_option linter.unusedVariables false
set_option linter.unusedSimpArgs false
open Go.RowKit
theorem okB_true {r : Except Int Bool} (h : okB r = true) : r = .ok true := by cases r with | ok b => exact congrArg _ h | error e => cases h
theorem contact_OverX (a b : BodyI) (w : World) (ha : MayN a) (hb : MayN b) :
    Calls Try.prog 17 #[.agg #[.int .i64 (hi a.mass), .int .u64 (lo a.mass), .int .i64 (hi a.radius), .int .u64 (lo a.radius), .int .i64 (hi a.x), .int .u64 (lo a.x), .int .i64 (hi a.y), .int .u64 (lo a.y), .int .i64 (hi a.px), .int .u64 (lo a.px), .int .i64 (hi a.py), .int .u64 (lo a.py), .int .i64 (hi a.fuel), .int .u64 (lo a.fuel), .int .i64 (hi a.rate), .int .u64 (lo a.rate), .int .i64 (hi a.exh), .int .u64 (lo a.exh), .int .i64 a.thr, .int .i64 a.head], .agg #[.int .i64 (hi b.mass), .int .u64 (lo b.mass), .int .i64 (hi b.radius), .int .u64 (lo b.radius), .int .i64 (hi b.x), .int .u64 (lo b.x), .int .i64 (hi b.y), .int .u64 (lo b.y), .int .i64 (hi b.px), .int .u64 (lo b.px), .int .i64 (hi b.py), .int .u64 (lo b.py), .int .i64 (hi b.fuel), .int .u64 (lo b.fuel), .int .i64 (hi b.rate), .int .u64 (lo b.rate), .int .i64 (hi b.exh), .int .u64 (lo b.exh), .int .i64 b.thr, .int .i64 b.head]] w fun e w' => e = .returned (.tuple #[.bool (okB (overX a b)), .int .i64 (eOf (overX a b))]) ∧ Below w.heap.size w w' := by
  obtain ⟨h1, h2⟩ := ov_spec a b
  rw [← h1, ← h2]
  exact contact_Over a b w ha hb
theorem contact_Blow (a b : BodyI) (k : Int) (w : World) (ha : MayN a) (hb : MayN b) (hk : R k) :
    Calls Try.prog 19 #[.agg #[.int .i64 (hi a.mass), .int .u64 (lo a.mass), .int .i64 (hi a.radius), .int .u64 (lo a.radius), .int .i64 (hi a.x), .int .u64 (lo a.x), .int .i64 (hi a.y), .int .u64 (lo a.y), .int .i64 (hi a.px), .int .u64 (lo a.px), .int .i64 (hi a.py), .int .u64 (lo a.py), .int .i64 (hi a.fuel), .int .u64 (lo a.fuel), .int .i64 (hi a.rate), .int .u64 (lo a.rate), .int .i64 (hi a.exh), .int .u64 (lo a.exh), .int .i64 a.thr, .int .i64 a.head], .agg #[.int .i64 (hi b.mass), .int .u64 (lo b.mass), .int .i64 (hi b.radius), .int .u64 (lo b.radius), .int .i64 (hi b.x), .int .u64 (lo b.x), .int .i64 (hi b.y), .int .u64 (lo b.y), .int .i64 (hi b.px), .int .u64 (lo b.px), .int .i64 (hi b.py), .int .u64 (lo b.py), .int .i64 (hi b.fuel), .int .u64 (lo b.fuel), .int .i64 (hi b.rate), .int .u64 (lo b.rate), .int .i64 (hi b.exh), .int .u64 (lo b.exh), .int .i64 b.thr, .int .i64 b.head], .agg #[.int .i64 (hi k), .int .u64 (lo k)]] w fun e w' => e = .returned (.tuple #[.agg #[.int .i64 (hi (hitV (blowX a b k)).1), .int .u64 (lo (hitV (blowX a b k)).1), .int .i64 (hi (hitV (blowX a b k)).2), .int .u64 (lo (hitV (blowX a b k)).2)], .bool (hitB (blowX a b k)), .int .i64 (eOf (blowX a b k))]) ∧ Below w.heap.size w w' := by
  cases hB : okB (overX a b)
  · have h := blow_p1 a b k w ha hb hk hB
    rcases GoodX.over a b with ⟨o, ho⟩ | ⟨er, ho, he⟩
    · rw [ho] at hB
      cases o
      · rw [blow_off ho]; rw [ho] at h; exact h
      · cases hB
    · rw [blow_err ho]; rw [ho] at h; exact h
  · have ho := okB_true hB
    obtain ⟨dx, dy, L, hd, rd1, rd2, hl, rL⟩ := over_ok ho
    by_cases h0 : dx = 0 ∧ dy = 0
    · have hl0 : dotX dx dy dx dy = .ok 0 := by rw [h0.1, h0.2]; rfl
      rw [blow_at ho hd hl0]; exact blow_p2 a b k w ha hb hk ho dx dy hd rd1 rd2 h0
    · by_cases hL : L = 0
      · subst hL; rw [blow_at ho hd hl]; exact blow_p3 a b k w ha hb hk ho dx dy hd rd1 rd2 h0 0 hl rL rfl
      · rw [blow_on ho hd hl hL]
        rcases (GoodX.closing a b dx dy).cases with ⟨v, hv, rv⟩ | ⟨er, hv, he⟩
        · rw [hv, bind_ok]
          by_cases hvn : 0 ≤ v
          · rw [if_pos hvn]; exact blow_p5 a b k w ha hb hk ho dx dy hd rd1 rd2 h0 L hl rL hL v hv rv hvn
          · rw [if_neg hvn]; exact blow_p6 a b k w ha hb hk ho dx dy hd rd1 rd2 h0 L hl rL hL v hv rv hvn
        · rw [hv, bind_err]; exact blow_p4 a b k w ha hb hk ho dx dy hd rd1 rd2 h0 L hl rL hL er hv he
end Go.Proofs.Ytdphhkbbphfjlaa
