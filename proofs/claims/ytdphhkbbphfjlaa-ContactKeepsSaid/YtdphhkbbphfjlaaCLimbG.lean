/- The walk of limb.Div. -/
import Derived.Test.YtdphhkbbphfjlaaCLiC
import Derived.Test.YtdphhkbbphfjlaaCRg
import Derived.Deep.RegionHeld3
namespace Go.Proofs.Ytdphhkbbphfjlaa
set_option linter.unusedVariables false
set_option linter.unusedSimpArgs false
open Go.RowKit
attribute [local go_sem] uwrap_lo lo_lo hi_lo val_hl
attribute [local go_sem ↓] Go.wp_at_zero Go.wp_at_succ Try.two_eql
set_option maxRecDepth 100000 in
set_option maxHeartbeats 2000000 in
theorem limb_Div0 (a b c d : Int) (w : World) :
    Calls Try.prog 107 #[.agg #[.int .u64 a, .int .u64 b, .int .u64 c, .int .u64 d], .agg #[.int .u64 0, .int .u64 0]] w fun e w' => e = .returned (.tuple #[.agg #[.int .u64 0, .int .u64 0, .int .u64 0, .int .u64 0], .agg #[.int .u64 0, .int .u64 0], .bool false]) ∧ Below w.heap.size w w' := by
  have h0 : eq2 0 0 0 0 = true := rfl
  go_enter Try.func107, Try.ntmps107
  go_wp2_with fail
  go_region
  all_goals go_wp2
  all_goals refine bodyPost_ret ?r rfl ⟨rfl, ?b⟩
  case r => simp [results, Try.results107, go_sem, *]
  case b => exact pBl

/-- what is in memory ahead of a round -/
structure DivAt (A B n : Int) (w u1 wr : World) : Prop where
  below : Below w.heap.size w wr
  size : u1.heap.size + 1 < wr.heap.size
  b0 : wr.cell? ⟨w.heap.size + 1, 0, none⟩ = some (.int .u64 (hi B))
  b1 : wr.cell? ⟨w.heap.size + 1, 1, none⟩ = some (.int .u64 (lo B))
  r0 : wr.cell? ⟨w.heap.size + 1 + 1 + 1, 0, none⟩ = some (.int .u64 (hi (dr A B (n + 1).toNat)))
  r1 : wr.cell? ⟨w.heap.size + 1 + 1 + 1, 1, none⟩ = some (.int .u64 (lo (dr A B (n + 1).toNat)))
  a0 : wr.cell? ⟨u1.heap.size, 0, none⟩ = some (.int .u64 (q0 A))
  a1 : wr.cell? ⟨u1.heap.size, 1, none⟩ = some (.int .u64 (q1 A))
  a2 : wr.cell? ⟨u1.heap.size, 2, none⟩ = some (.int .u64 (q2 A))
  a3 : wr.cell? ⟨u1.heap.size, 3, none⟩ = some (.int .u64 (q3 A))
  o0 : wr.cell? ⟨u1.heap.size + 1, 0, none⟩ = some (.int .u64 (q0 (dq A B (n + 1).toNat)))
  o1 : wr.cell? ⟨u1.heap.size + 1, 1, none⟩ = some (.int .u64 (q1 (dq A B (n + 1).toNat)))
  o2 : wr.cell? ⟨u1.heap.size + 1, 2, none⟩ = some (.int .u64 (q2 (dq A B (n + 1).toNat)))
  o3 : wr.cell? ⟨u1.heap.size + 1, 3, none⟩ = some (.int .u64 (q3 (dq A B (n + 1).toNat)))
  fr : ∀ o, wr.frozen? ⟨w.heap.size + 1 + 1 + 1, o, none⟩ = false
  fo : ∀ o, wr.frozen? ⟨u1.heap.size + 1, o, none⟩ = false
  v0 : ∃ v, wr.cell? ⟨w.heap.size + 1 + 1, 0, none⟩ = some v
  v1 : ∃ v, wr.cell? ⟨w.heap.size + 1 + 1, 1, none⟩ = some v
  v2 : ∃ v, wr.cell? ⟨w.heap.size + 1 + 1, 2, none⟩ = some v
  v3 : ∃ v, wr.cell? ⟨w.heap.size + 1 + 1, 3, none⟩ = some v
  fv : ∀ o, wr.frozen? ⟨w.heap.size + 1 + 1, o, none⟩ = false

set_option maxRecDepth 100000 in
set_option maxHeartbeats 40000000 in
theorem limb_DivA (A B : Int) (w : World) (hA0 : 0 ≤ A) (hA : w4 A = A) (hB : 0 < B) (hBh : W64 (hi B)) :
    Calls Try.prog 107 #[.agg #[.int .u64 (q3 A), .int .u64 (q2 A), .int .u64 (q1 A), .int .u64 (q0 A)], .agg #[.int .u64 (hi B), .int .u64 (lo B)]] w fun e w' => e = .returned (.tuple #[.agg #[.int .u64 (q3 (A / B)), .int .u64 (q2 (A / B)), .int .u64 (q1 (A / B)), .int .u64 (q0 (A / B))], .agg #[.int .u64 (hi (A % B)), .int .u64 (lo (A % B))], .bool true]) ∧ Below w.heap.size w w' := by
  have hne : eq2 (hi B) (lo B) 0 0 = false := by
    unfold eq2 hi lo; simp; omega
  have hl := bl4_le (W64_q3 A) (W64_q2 A) (W64_q1 A) (W64_q0 A)
  have hlt := bl4_lt (W64_q3 A) (W64_q2 A) (W64_q1 A) (W64_q0 A)
  rw [v4_q, hA] at hlt
  have Htop := Lib.hid (dr_top (B := B) hA0 hlt)
  clear hlt
  go_enter Try.func107, Try.ntmps107
  go_wp2_with (first | (go_at_call 129; refine (limb_list _ _ _ _ _).mono ?_; rintro e u1 ⟨rfl, hbu1⟩; have hzu1 := hbu1.size; (try simp at hzu1); have hsu1_w : w.heap.size ≤ u1.heap.size := (by omega); obtain ⟨hcu1_w_0, hfu1_w_0⟩ := pBc hbu1 (b := w.heap.size) pSd; have hsu1_w_0 : w.heap.size < u1.heap.size := (by omega); obtain ⟨hcu1_w_1, hfu1_w_1⟩ := pBc hbu1 (b := w.heap.size + 1) pSd; have hsu1_w_1 : w.heap.size + 1 < u1.heap.size := (by omega); obtain ⟨hcu1_w_2, hfu1_w_2⟩ := pBc hbu1 (b := w.heap.size + 1 + 1) pSd; have hsu1_w_2 : w.heap.size + 1 + 1 < u1.heap.size := (by omega); obtain ⟨hcu1_w_3, hfu1_w_3⟩ := pBc hbu1 (b := w.heap.size + 1 + 1 + 1) pSd; have hsu1_w_3 : w.heap.size + 1 + 1 + 1 < u1.heap.size := (by omega); have Hu1 := Lib.hid hbu1; clear hbu1) | (go_at_call 128; refine (limb_Len _ _ _ _ _ (W64_q3 _) (W64_q2 _) (W64_q1 _) (W64_q0 _)).mono ?_; rintro e u2 ⟨rfl, hbu2⟩; have hzu2 := hbu2.size; (try simp at hzu2); have hsu2_w : w.heap.size ≤ u2.heap.size := (by omega); obtain ⟨hcu2_w_0, hfu2_w_0⟩ := pBc hbu2 (b := w.heap.size) pSd; have hsu2_w_0 : w.heap.size < u2.heap.size := (by omega); obtain ⟨hcu2_w_1, hfu2_w_1⟩ := pBc hbu2 (b := w.heap.size + 1) pSd; have hsu2_w_1 : w.heap.size + 1 < u2.heap.size := (by omega); obtain ⟨hcu2_w_2, hfu2_w_2⟩ := pBc hbu2 (b := w.heap.size + 1 + 1) pSd; have hsu2_w_2 : w.heap.size + 1 + 1 < u2.heap.size := (by omega); obtain ⟨hcu2_w_3, hfu2_w_3⟩ := pBc hbu2 (b := w.heap.size + 1 + 1 + 1) pSd; have hsu2_w_3 : w.heap.size + 1 + 1 + 1 < u2.heap.size := (by omega); have hsu2_u1 : u1.heap.size ≤ u2.heap.size := (by omega); obtain ⟨hcu2_u1_0, hfu2_u1_0⟩ := pBc hbu2 (b := u1.heap.size) pSd; have hsu2_u1_0 : u1.heap.size < u2.heap.size := (by omega); obtain ⟨hcu2_u1_1, hfu2_u1_1⟩ := pBc hbu2 (b := u1.heap.size + 1) pSd; have hsu2_u1_1 : u1.heap.size + 1 < u2.heap.size := (by omega); have Hu2 := Lib.hid hbu2; clear hbu2))
  obtain ⟨hl0, hl1⟩ := hl
  go_loopw [9] (fun i wr => ∃ n : Int, -1 ≤ n ∧ n ≤ 255 ∧ i = .int .i64 n ∧ DivAt A B n w u1 wr) (fun i _ => (intOf i + 1).toNat)
  case atStart =>
    have e : (bl4 (q3 A) (q2 A) (q1 A) (q0 A) - 1 + 1).toNat = (bl4 (q3 A) (q2 A) (q1 A) (q0 A)).toNat := by omega
    have h00 : hi 0 = 0 := rfl
    have h01 : lo 0 = 0 := rfl
    have h02 : q0 0 = 0 ∧ q1 0 = 0 ∧ q2 0 = 0 ∧ q3 0 = 0 := ⟨rfl, rfl, rfl, rfl⟩
    obtain ⟨ht1, ht2⟩ := Htop.out
    refine ⟨_, by omega, by omega, rfl, ?_⟩
    constructor
    case below => exact pBl
    all_goals (try rw [e, ht1])
    all_goals (try rw [e, ht2])
    all_goals first | omega | (simp [go_sem, *]; done) | trace_state
    all_goals omega
  case round =>
    obtain ⟨n, hn0, hn1, rfl, hD⟩ := hrel
    obtain ⟨hbel0, hs, b0, b1, r0, r1, a0, a1, a2, a3, o0, o1, o2, o3, fr, fo, ⟨z0, v0⟩, ⟨z1, v1⟩, ⟨z2, v2⟩, ⟨z3, v3⟩, fv⟩ := hD
    have Hbel := Lib.hid hbel0
    clear hbel0 hcu1_w_0 hfu1_w_0 hcu2_w_0 hfu2_w_0 hcu1_w_1 hfu1_w_1 hcu2_w_1 hfu2_w_1 hcu1_w_2 hfu1_w_2 hcu2_w_2 hfu2_w_2 hcu1_w_3 hfu1_w_3 hcu2_w_3 hfu2_w_3 hcu2_u1_0 hfu2_u1_0 hcu2_u1_1 hfu2_u1_1 Hu1 Hu2
    by_cases hn : 0 ≤ n
    · have hrr := dr_range (A := A) hB (n + 1).toNat
      have hb01 := bitAt_01 A n
      have Hst := Lib.hid (dstep (A := A) hB n.toNat)
      have en : (n + 1).toNat = n.toNat + 1 := by omega
      have Hen := Lib.hid en
      rw [en] at r0 r1 o0 o1 o2 o3 hrr
      have Hmul := Lib.hid (dq_mult A B n.toNat)
      have Hle := Lib.hid (dq_le hA0 hB (n.toNat + 1))
      clear en
      have Hr : Hid (∃ r, r = dr A B (n.toNat + 1)) := ⟨_, rfl⟩
      obtain ⟨r, hr⟩ := Hr.out
      obtain ⟨O, hO⟩ : ∃ O, O = dq A B (n.toNat + 1) := ⟨_, rfl⟩
      rw [← hr] at r0 r1 hrr
      rw [← hO] at o0 o1 o2 o3
      have HR := Lib.hid hr
      have HO := Lib.hid hO
      clear hr hO Hr
      have wh : W64 (hi r) := by unfold W64 hi at hBh ⊢; omega
      obtain ⟨e1, e2⟩ := shl1 wh (W64_lo r) hb01.1 hb01.2
      have e3 := shl1_beyond wh (W64_lo r) hb01.1 hb01.2
      rw [val_hl] at e1 e2 e3
      obtain ⟨N, hN⟩ : ∃ N, N = 2 * r + bitAt A n := ⟨_, rfl⟩
      rw [← hN] at e1 e2 e3
      have HN := Lib.hid hN
      clear hN
      have E3 := Lib.hid e3
      clear e3
      have enn : ((n.toNat : Nat) : Int) = n := by omega
      by_cases hlt : B ≤ N
      · have Hdr : Hid (dr A B n.toNat = N - B) := by
          have h := Hst.out.1
          rw [enn, ← HR.out, ← HN.out, if_pos hlt] at h; exact h
        have HdQ : Hid (dq A B n.toNat = O + 2 ^ n.toNat) := by
          have h := Hst.out.2
          rw [enn, ← HR.out, ← HN.out, if_pos hlt, ← HO.out] at h; exact h
        have hO4 : w4 O = O := by
          have h := Hle.out
          rw [← HO.out] at h
          unfold w4 at hA ⊢
          omega
        have Hm : Hid (O = 2 * 2 ^ n.toNat * (A / 2 ^ (n.toNat + 1) / B)) := by
          have h := Hmul.out
          rw [← HO.out] at h; exact h
        have hrest : w2 (w2 N - B) = N - B := by
          have h := HN.out
          unfold w2; unfold W64 hi at hBh
          omega
        have hr64 : (n % 64).toNat < 64 := by omega
        clear enn
        by_cases hbe : 0 < hi r / 9223372036854775808
        · have hbey : decide (0 < hi r / 9223372036854775808) = true := by simp [hbe]
          clear hbe E3
          have hk : n / 64 = 0 ∨ n / 64 = 1 ∨ n / 64 = 2 ∨ n / 64 = 3 := by omega
          rcases hk with hk | hk | hk | hk
          · have HQ : Hid (q3 (dq A B n.toNat) = q3 O ∧ q2 (dq A B n.toNat) = q2 O ∧ q1 (dq A B n.toNat) = q1 O ∧ q0 (dq A B n.toNat) = bits .or .u64 (q0 O) (lo (2 ^ (n % 64).toNat))) := by
              have h := Hm.out
              have hn2 : n.toNat = (n % 64).toNat := by omega
              rw [HdQ.out]
              rw [hn2] at h ⊢
              exact q_set_0 hO4 h hr64
            clear Hm HdQ Hmul Hle Hst HR HO HN hlt hO4
            go_wp2_with fail
            refine wp_region_G (fun w' => w'.cell? ⟨w.heap.size + 1 + 1 + 1, 0, none⟩ = some (.int .u64 (hi r)) ∧ w'.cell? ⟨w.heap.size + 1 + 1 + 1, 1, none⟩ = some (.int .u64 (lo r)) ∧ w'.cell? ⟨u1.heap.size, 0, none⟩ = some (.int .u64 (q0 A)) ∧ w'.cell? ⟨u1.heap.size, 1, none⟩ = some (.int .u64 (q1 A)) ∧ w'.cell? ⟨u1.heap.size, 2, none⟩ = some (.int .u64 (q2 A)) ∧ w'.cell? ⟨u1.heap.size, 3, none⟩ = some (.int .u64 (q3 A))) 15 (by kernel_rfl) ?_ (fun hHeld => ?_)
            · exact pKp
            refine Gw.tk 0 rfl ?_
            (try simp only [pLy])
            refine Gw.tk 1 rfl ?_
            (try simp only [pLy])
            refine Gw.tk 2 rfl ?_
            (try simp only [pLy])
            refine Gw.tk 3 rfl ?_
            (try simp only [pLy])
            refine Gw.tk 4 rfl ?_
            (try simp only [pLy])
            refine Gw.tk 5 rfl ?_
            (try simp only [pLy])
            refine Gw.tk 6 rfl ?_
            (try simp only [pLy])
            refine Gw.tk 7 rfl ?_
            (try simp only [pLy])
            refine Gw.tk 8 rfl ?_
            (try simp only [pLy])
            refine Gw.tk 9 rfl ?_
            (try simp only [pLy])
            refine Gw.tk 10 rfl ?_
            (try simp only [pLy])
            refine Gw.tk 11 rfl ?_
            (try simp only [pLy])
            refine Gw.one (i := 12) rfl (by kernel_rfl) (fun K hK => ?_)
            go_simp
            refine (limb_bit A n _ hn (by omega)).mono ?_; rintro e u3 ⟨rfl, hbu3⟩; have hzu3 := hbu3.size; (try simp at hzu3); have hsu3_w : w.heap.size ≤ u3.heap.size := (by omega); obtain ⟨hcu3_w_0, hfu3_w_0⟩ := pBc hbu3 (b := w.heap.size) pSd; have hsu3_w_0 : w.heap.size < u3.heap.size := (by omega); obtain ⟨hcu3_w_1, hfu3_w_1⟩ := pBc hbu3 (b := w.heap.size + 1) pSd; have hsu3_w_1 : w.heap.size + 1 < u3.heap.size := (by omega); obtain ⟨hcu3_w_2, hfu3_w_2⟩ := pBc hbu3 (b := w.heap.size + 1 + 1) pSd; have hsu3_w_2 : w.heap.size + 1 + 1 < u3.heap.size := (by omega); obtain ⟨hcu3_w_3, hfu3_w_3⟩ := pBc hbu3 (b := w.heap.size + 1 + 1 + 1) pSd; have hsu3_w_3 : w.heap.size + 1 + 1 + 1 < u3.heap.size := (by omega); have hsu3_u1 : u1.heap.size ≤ u3.heap.size := (by omega); obtain ⟨hcu3_u1_0, hfu3_u1_0⟩ := pBc hbu3 (b := u1.heap.size) pSd; have hsu3_u1_0 : u1.heap.size < u3.heap.size := (by omega); obtain ⟨hcu3_u1_1, hfu3_u1_1⟩ := pBc hbu3 (b := u1.heap.size + 1) pSd; have hsu3_u1_1 : u1.heap.size + 1 < u3.heap.size := (by omega); have Hu3 := Lib.hid hbu3; clear hbu3
            (try go_wp2_with fail)
            refine hK.out _ _ ?_ (fun hHeld => ?_)
            · exact pKp
            clear hK K
            (try simp only [pLy])
            refine Gw.tk 13 rfl ?_
            (try simp only [pLy])
            refine Gw.tk 14 rfl ?_
            (try simp only [pLy])
            refine Gw.last (i := 15) rfl (by kernel_rfl) (by decide) (fun K hK => ?_)
            go_simp
            refine hK.out _ _ ?_
            clear hK K
            (try simp only [pLy])
            refine Gw.done (by kernel_rfl) ?_ _
            go_wp2_with (go_at_call 110; refine (limb_Sub _ _ _ _ _ (by first | assumption | exact W64_lo _ | exact W64_hw2 _) (W64_lo _) (by assumption) (W64_lo _)).mono ?_; rintro e u4 ⟨rfl, hbu4⟩; have hzu4 := hbu4.size; (try simp at hzu4); have hsu4_w : w.heap.size ≤ u4.heap.size := (by omega); obtain ⟨hcu4_w_0, hfu4_w_0⟩ := pBc hbu4 (b := w.heap.size) pSd; have hsu4_w_0 : w.heap.size < u4.heap.size := (by omega); obtain ⟨hcu4_w_1, hfu4_w_1⟩ := pBc hbu4 (b := w.heap.size + 1) pSd; have hsu4_w_1 : w.heap.size + 1 < u4.heap.size := (by omega); obtain ⟨hcu4_w_2, hfu4_w_2⟩ := pBc hbu4 (b := w.heap.size + 1 + 1) pSd; have hsu4_w_2 : w.heap.size + 1 + 1 < u4.heap.size := (by omega); obtain ⟨hcu4_w_3, hfu4_w_3⟩ := pBc hbu4 (b := w.heap.size + 1 + 1 + 1) pSd; have hsu4_w_3 : w.heap.size + 1 + 1 + 1 < u4.heap.size := (by omega); have hsu4_u1 : u1.heap.size ≤ u4.heap.size := (by omega); obtain ⟨hcu4_u1_0, hfu4_u1_0⟩ := pBc hbu4 (b := u1.heap.size) pSd; have hsu4_u1_0 : u1.heap.size < u4.heap.size := (by omega); obtain ⟨hcu4_u1_1, hfu4_u1_1⟩ := pBc hbu4 (b := u1.heap.size + 1) pSd; have hsu4_u1_1 : u1.heap.size + 1 < u4.heap.size := (by omega); have Hu4 := Lib.hid hbu4; clear hbu4)
            go_region
            go_wp2
            go_roundw
            case rel =>
              refine ⟨n - 1, by omega, by omega, rfl, ?_⟩
              have e' : (n - 1 + 1).toNat = n.toNat := by omega
              constructor
              case below => exact pBl
              all_goals (try rw [e', Hdr.out])
              all_goals (try rw [e', HQ.out.1])
              all_goals (try rw [e', HQ.out.2.1])
              all_goals (try rw [e', HQ.out.2.2.1])
              all_goals (try rw [e', HQ.out.2.2.2])
              all_goals first | omega | (simp (maxDischargeDepth := 9) [go_sem, *]; done)
            case measure => simp [intOf]; omega
          · have HQ : Hid (q3 (dq A B n.toNat) = q3 O ∧ q2 (dq A B n.toNat) = q2 O ∧ q1 (dq A B n.toNat) = bits .or .u64 (q1 O) (lo (2 ^ (n % 64).toNat)) ∧ q0 (dq A B n.toNat) = q0 O) := by
              have h := Hm.out
              have hn2 : n.toNat = 64 + (n % 64).toNat := by omega
              rw [HdQ.out]
              rw [hn2] at h ⊢
              exact q_set_1 hO4 h hr64
            clear Hm HdQ Hmul Hle Hst HR HO HN hlt hO4
            go_wp2_with fail
            refine wp_region_G (fun w' => w'.cell? ⟨w.heap.size + 1 + 1 + 1, 0, none⟩ = some (.int .u64 (hi r)) ∧ w'.cell? ⟨w.heap.size + 1 + 1 + 1, 1, none⟩ = some (.int .u64 (lo r)) ∧ w'.cell? ⟨u1.heap.size, 0, none⟩ = some (.int .u64 (q0 A)) ∧ w'.cell? ⟨u1.heap.size, 1, none⟩ = some (.int .u64 (q1 A)) ∧ w'.cell? ⟨u1.heap.size, 2, none⟩ = some (.int .u64 (q2 A)) ∧ w'.cell? ⟨u1.heap.size, 3, none⟩ = some (.int .u64 (q3 A))) 15 (by kernel_rfl) ?_ (fun hHeld => ?_)
            · exact pKp
            refine Gw.tk 0 rfl ?_
            (try simp only [pLy])
            refine Gw.tk 1 rfl ?_
            (try simp only [pLy])
            refine Gw.tk 2 rfl ?_
            (try simp only [pLy])
            refine Gw.tk 3 rfl ?_
            (try simp only [pLy])
            refine Gw.tk 4 rfl ?_
            (try simp only [pLy])
            refine Gw.tk 5 rfl ?_
            (try simp only [pLy])
            refine Gw.tk 6 rfl ?_
            (try simp only [pLy])
            refine Gw.tk 7 rfl ?_
            (try simp only [pLy])
            refine Gw.tk 8 rfl ?_
            (try simp only [pLy])
            refine Gw.tk 9 rfl ?_
            (try simp only [pLy])
            refine Gw.tk 10 rfl ?_
            (try simp only [pLy])
            refine Gw.tk 11 rfl ?_
            (try simp only [pLy])
            refine Gw.one (i := 12) rfl (by kernel_rfl) (fun K hK => ?_)
            go_simp
            refine (limb_bit A n _ hn (by omega)).mono ?_; rintro e u3 ⟨rfl, hbu3⟩; have hzu3 := hbu3.size; (try simp at hzu3); have hsu3_w : w.heap.size ≤ u3.heap.size := (by omega); obtain ⟨hcu3_w_0, hfu3_w_0⟩ := pBc hbu3 (b := w.heap.size) pSd; have hsu3_w_0 : w.heap.size < u3.heap.size := (by omega); obtain ⟨hcu3_w_1, hfu3_w_1⟩ := pBc hbu3 (b := w.heap.size + 1) pSd; have hsu3_w_1 : w.heap.size + 1 < u3.heap.size := (by omega); obtain ⟨hcu3_w_2, hfu3_w_2⟩ := pBc hbu3 (b := w.heap.size + 1 + 1) pSd; have hsu3_w_2 : w.heap.size + 1 + 1 < u3.heap.size := (by omega); obtain ⟨hcu3_w_3, hfu3_w_3⟩ := pBc hbu3 (b := w.heap.size + 1 + 1 + 1) pSd; have hsu3_w_3 : w.heap.size + 1 + 1 + 1 < u3.heap.size := (by omega); have hsu3_u1 : u1.heap.size ≤ u3.heap.size := (by omega); obtain ⟨hcu3_u1_0, hfu3_u1_0⟩ := pBc hbu3 (b := u1.heap.size) pSd; have hsu3_u1_0 : u1.heap.size < u3.heap.size := (by omega); obtain ⟨hcu3_u1_1, hfu3_u1_1⟩ := pBc hbu3 (b := u1.heap.size + 1) pSd; have hsu3_u1_1 : u1.heap.size + 1 < u3.heap.size := (by omega); have Hu3 := Lib.hid hbu3; clear hbu3
            (try go_wp2_with fail)
            refine hK.out _ _ ?_ (fun hHeld => ?_)
            · exact pKp
            clear hK K
            (try simp only [pLy])
            refine Gw.tk 13 rfl ?_
            (try simp only [pLy])
            refine Gw.tk 14 rfl ?_
            (try simp only [pLy])
            refine Gw.last (i := 15) rfl (by kernel_rfl) (by decide) (fun K hK => ?_)
            go_simp
            refine hK.out _ _ ?_
            clear hK K
            (try simp only [pLy])
            refine Gw.done (by kernel_rfl) ?_ _
            go_wp2_with (go_at_call 110; refine (limb_Sub _ _ _ _ _ (by first | assumption | exact W64_lo _ | exact W64_hw2 _) (W64_lo _) (by assumption) (W64_lo _)).mono ?_; rintro e u4 ⟨rfl, hbu4⟩; have hzu4 := hbu4.size; (try simp at hzu4); have hsu4_w : w.heap.size ≤ u4.heap.size := (by omega); obtain ⟨hcu4_w_0, hfu4_w_0⟩ := pBc hbu4 (b := w.heap.size) pSd; have hsu4_w_0 : w.heap.size < u4.heap.size := (by omega); obtain ⟨hcu4_w_1, hfu4_w_1⟩ := pBc hbu4 (b := w.heap.size + 1) pSd; have hsu4_w_1 : w.heap.size + 1 < u4.heap.size := (by omega); obtain ⟨hcu4_w_2, hfu4_w_2⟩ := pBc hbu4 (b := w.heap.size + 1 + 1) pSd; have hsu4_w_2 : w.heap.size + 1 + 1 < u4.heap.size := (by omega); obtain ⟨hcu4_w_3, hfu4_w_3⟩ := pBc hbu4 (b := w.heap.size + 1 + 1 + 1) pSd; have hsu4_w_3 : w.heap.size + 1 + 1 + 1 < u4.heap.size := (by omega); have hsu4_u1 : u1.heap.size ≤ u4.heap.size := (by omega); obtain ⟨hcu4_u1_0, hfu4_u1_0⟩ := pBc hbu4 (b := u1.heap.size) pSd; have hsu4_u1_0 : u1.heap.size < u4.heap.size := (by omega); obtain ⟨hcu4_u1_1, hfu4_u1_1⟩ := pBc hbu4 (b := u1.heap.size + 1) pSd; have hsu4_u1_1 : u1.heap.size + 1 < u4.heap.size := (by omega); have Hu4 := Lib.hid hbu4; clear hbu4)
            go_region
            go_wp2
            go_roundw
            case rel =>
              refine ⟨n - 1, by omega, by omega, rfl, ?_⟩
              have e' : (n - 1 + 1).toNat = n.toNat := by omega
              constructor
              case below => exact pBl
              all_goals (try rw [e', Hdr.out])
              all_goals (try rw [e', HQ.out.1])
              all_goals (try rw [e', HQ.out.2.1])
              all_goals (try rw [e', HQ.out.2.2.1])
              all_goals (try rw [e', HQ.out.2.2.2])
              all_goals first | omega | (simp (maxDischargeDepth := 9) [go_sem, *]; done)
            case measure => simp [intOf]; omega
          · have HQ : Hid (q3 (dq A B n.toNat) = q3 O ∧ q2 (dq A B n.toNat) = bits .or .u64 (q2 O) (lo (2 ^ (n % 64).toNat)) ∧ q1 (dq A B n.toNat) = q1 O ∧ q0 (dq A B n.toNat) = q0 O) := by
              have h := Hm.out
              have hn2 : n.toNat = 128 + (n % 64).toNat := by omega
              rw [HdQ.out]
              rw [hn2] at h ⊢
              exact q_set_2 hO4 h hr64
            clear Hm HdQ Hmul Hle Hst HR HO HN hlt hO4
            go_wp2_with fail
            refine wp_region_G (fun w' => w'.cell? ⟨w.heap.size + 1 + 1 + 1, 0, none⟩ = some (.int .u64 (hi r)) ∧ w'.cell? ⟨w.heap.size + 1 + 1 + 1, 1, none⟩ = some (.int .u64 (lo r)) ∧ w'.cell? ⟨u1.heap.size, 0, none⟩ = some (.int .u64 (q0 A)) ∧ w'.cell? ⟨u1.heap.size, 1, none⟩ = some (.int .u64 (q1 A)) ∧ w'.cell? ⟨u1.heap.size, 2, none⟩ = some (.int .u64 (q2 A)) ∧ w'.cell? ⟨u1.heap.size, 3, none⟩ = some (.int .u64 (q3 A))) 15 (by kernel_rfl) ?_ (fun hHeld => ?_)
            · exact pKp
            refine Gw.tk 0 rfl ?_
            (try simp only [pLy])
            refine Gw.tk 1 rfl ?_
            (try simp only [pLy])
            refine Gw.tk 2 rfl ?_
            (try simp only [pLy])
            refine Gw.tk 3 rfl ?_
            (try simp only [pLy])
            refine Gw.tk 4 rfl ?_
            (try simp only [pLy])
            refine Gw.tk 5 rfl ?_
            (try simp only [pLy])
            refine Gw.tk 6 rfl ?_
            (try simp only [pLy])
            refine Gw.tk 7 rfl ?_
            (try simp only [pLy])
            refine Gw.tk 8 rfl ?_
            (try simp only [pLy])
            refine Gw.tk 9 rfl ?_
            (try simp only [pLy])
            refine Gw.tk 10 rfl ?_
            (try simp only [pLy])
            refine Gw.tk 11 rfl ?_
            (try simp only [pLy])
            refine Gw.one (i := 12) rfl (by kernel_rfl) (fun K hK => ?_)
            go_simp
            refine (limb_bit A n _ hn (by omega)).mono ?_; rintro e u3 ⟨rfl, hbu3⟩; have hzu3 := hbu3.size; (try simp at hzu3); have hsu3_w : w.heap.size ≤ u3.heap.size := (by omega); obtain ⟨hcu3_w_0, hfu3_w_0⟩ := pBc hbu3 (b := w.heap.size) pSd; have hsu3_w_0 : w.heap.size < u3.heap.size := (by omega); obtain ⟨hcu3_w_1, hfu3_w_1⟩ := pBc hbu3 (b := w.heap.size + 1) pSd; have hsu3_w_1 : w.heap.size + 1 < u3.heap.size := (by omega); obtain ⟨hcu3_w_2, hfu3_w_2⟩ := pBc hbu3 (b := w.heap.size + 1 + 1) pSd; have hsu3_w_2 : w.heap.size + 1 + 1 < u3.heap.size := (by omega); obtain ⟨hcu3_w_3, hfu3_w_3⟩ := pBc hbu3 (b := w.heap.size + 1 + 1 + 1) pSd; have hsu3_w_3 : w.heap.size + 1 + 1 + 1 < u3.heap.size := (by omega); have hsu3_u1 : u1.heap.size ≤ u3.heap.size := (by omega); obtain ⟨hcu3_u1_0, hfu3_u1_0⟩ := pBc hbu3 (b := u1.heap.size) pSd; have hsu3_u1_0 : u1.heap.size < u3.heap.size := (by omega); obtain ⟨hcu3_u1_1, hfu3_u1_1⟩ := pBc hbu3 (b := u1.heap.size + 1) pSd; have hsu3_u1_1 : u1.heap.size + 1 < u3.heap.size := (by omega); have Hu3 := Lib.hid hbu3; clear hbu3
            (try go_wp2_with fail)
            refine hK.out _ _ ?_ (fun hHeld => ?_)
            · exact pKp
            clear hK K
            (try simp only [pLy])
            refine Gw.tk 13 rfl ?_
            (try simp only [pLy])
            refine Gw.tk 14 rfl ?_
            (try simp only [pLy])
            refine Gw.last (i := 15) rfl (by kernel_rfl) (by decide) (fun K hK => ?_)
            go_simp
            refine hK.out _ _ ?_
            clear hK K
            (try simp only [pLy])
            refine Gw.done (by kernel_rfl) ?_ _
            go_wp2_with (go_at_call 110; refine (limb_Sub _ _ _ _ _ (by first | assumption | exact W64_lo _ | exact W64_hw2 _) (W64_lo _) (by assumption) (W64_lo _)).mono ?_; rintro e u4 ⟨rfl, hbu4⟩; have hzu4 := hbu4.size; (try simp at hzu4); have hsu4_w : w.heap.size ≤ u4.heap.size := (by omega); obtain ⟨hcu4_w_0, hfu4_w_0⟩ := pBc hbu4 (b := w.heap.size) pSd; have hsu4_w_0 : w.heap.size < u4.heap.size := (by omega); obtain ⟨hcu4_w_1, hfu4_w_1⟩ := pBc hbu4 (b := w.heap.size + 1) pSd; have hsu4_w_1 : w.heap.size + 1 < u4.heap.size := (by omega); obtain ⟨hcu4_w_2, hfu4_w_2⟩ := pBc hbu4 (b := w.heap.size + 1 + 1) pSd; have hsu4_w_2 : w.heap.size + 1 + 1 < u4.heap.size := (by omega); obtain ⟨hcu4_w_3, hfu4_w_3⟩ := pBc hbu4 (b := w.heap.size + 1 + 1 + 1) pSd; have hsu4_w_3 : w.heap.size + 1 + 1 + 1 < u4.heap.size := (by omega); have hsu4_u1 : u1.heap.size ≤ u4.heap.size := (by omega); obtain ⟨hcu4_u1_0, hfu4_u1_0⟩ := pBc hbu4 (b := u1.heap.size) pSd; have hsu4_u1_0 : u1.heap.size < u4.heap.size := (by omega); obtain ⟨hcu4_u1_1, hfu4_u1_1⟩ := pBc hbu4 (b := u1.heap.size + 1) pSd; have hsu4_u1_1 : u1.heap.size + 1 < u4.heap.size := (by omega); have Hu4 := Lib.hid hbu4; clear hbu4)
            go_region
            go_wp2
            go_roundw
            case rel =>
              refine ⟨n - 1, by omega, by omega, rfl, ?_⟩
              have e' : (n - 1 + 1).toNat = n.toNat := by omega
              constructor
              case below => exact pBl
              all_goals (try rw [e', Hdr.out])
              all_goals (try rw [e', HQ.out.1])
              all_goals (try rw [e', HQ.out.2.1])
              all_goals (try rw [e', HQ.out.2.2.1])
              all_goals (try rw [e', HQ.out.2.2.2])
              all_goals first | omega | (simp (maxDischargeDepth := 9) [go_sem, *]; done)
            case measure => simp [intOf]; omega
          · have HQ : Hid (q3 (dq A B n.toNat) = bits .or .u64 (q3 O) (lo (2 ^ (n % 64).toNat)) ∧ q2 (dq A B n.toNat) = q2 O ∧ q1 (dq A B n.toNat) = q1 O ∧ q0 (dq A B n.toNat) = q0 O) := by
              have h := Hm.out
              have hn2 : n.toNat = 192 + (n % 64).toNat := by omega
              rw [HdQ.out]
              rw [hn2] at h ⊢
              exact q_set_3 hO4 h hr64
            clear Hm HdQ Hmul Hle Hst HR HO HN hlt hO4
            go_wp2_with fail
            refine wp_region_G (fun w' => w'.cell? ⟨w.heap.size + 1 + 1 + 1, 0, none⟩ = some (.int .u64 (hi r)) ∧ w'.cell? ⟨w.heap.size + 1 + 1 + 1, 1, none⟩ = some (.int .u64 (lo r)) ∧ w'.cell? ⟨u1.heap.size, 0, none⟩ = some (.int .u64 (q0 A)) ∧ w'.cell? ⟨u1.heap.size, 1, none⟩ = some (.int .u64 (q1 A)) ∧ w'.cell? ⟨u1.heap.size, 2, none⟩ = some (.int .u64 (q2 A)) ∧ w'.cell? ⟨u1.heap.size, 3, none⟩ = some (.int .u64 (q3 A))) 15 (by kernel_rfl) ?_ (fun hHeld => ?_)
            · exact pKp
            refine Gw.tk 0 rfl ?_
            (try simp only [pLy])
            refine Gw.tk 1 rfl ?_
            (try simp only [pLy])
            refine Gw.tk 2 rfl ?_
            (try simp only [pLy])
            refine Gw.tk 3 rfl ?_
            (try simp only [pLy])
            refine Gw.tk 4 rfl ?_
            (try simp only [pLy])
            refine Gw.tk 5 rfl ?_
            (try simp only [pLy])
            refine Gw.tk 6 rfl ?_
            (try simp only [pLy])
            refine Gw.tk 7 rfl ?_
            (try simp only [pLy])
            refine Gw.tk 8 rfl ?_
            (try simp only [pLy])
            refine Gw.tk 9 rfl ?_
            (try simp only [pLy])
            refine Gw.tk 10 rfl ?_
            (try simp only [pLy])
            refine Gw.tk 11 rfl ?_
            (try simp only [pLy])
            refine Gw.one (i := 12) rfl (by kernel_rfl) (fun K hK => ?_)
            go_simp
            refine (limb_bit A n _ hn (by omega)).mono ?_; rintro e u3 ⟨rfl, hbu3⟩; have hzu3 := hbu3.size; (try simp at hzu3); have hsu3_w : w.heap.size ≤ u3.heap.size := (by omega); obtain ⟨hcu3_w_0, hfu3_w_0⟩ := pBc hbu3 (b := w.heap.size) pSd; have hsu3_w_0 : w.heap.size < u3.heap.size := (by omega); obtain ⟨hcu3_w_1, hfu3_w_1⟩ := pBc hbu3 (b := w.heap.size + 1) pSd; have hsu3_w_1 : w.heap.size + 1 < u3.heap.size := (by omega); obtain ⟨hcu3_w_2, hfu3_w_2⟩ := pBc hbu3 (b := w.heap.size + 1 + 1) pSd; have hsu3_w_2 : w.heap.size + 1 + 1 < u3.heap.size := (by omega); obtain ⟨hcu3_w_3, hfu3_w_3⟩ := pBc hbu3 (b := w.heap.size + 1 + 1 + 1) pSd; have hsu3_w_3 : w.heap.size + 1 + 1 + 1 < u3.heap.size := (by omega); have hsu3_u1 : u1.heap.size ≤ u3.heap.size := (by omega); obtain ⟨hcu3_u1_0, hfu3_u1_0⟩ := pBc hbu3 (b := u1.heap.size) pSd; have hsu3_u1_0 : u1.heap.size < u3.heap.size := (by omega); obtain ⟨hcu3_u1_1, hfu3_u1_1⟩ := pBc hbu3 (b := u1.heap.size + 1) pSd; have hsu3_u1_1 : u1.heap.size + 1 < u3.heap.size := (by omega); have Hu3 := Lib.hid hbu3; clear hbu3
            (try go_wp2_with fail)
            refine hK.out _ _ ?_ (fun hHeld => ?_)
            · exact pKp
            clear hK K
            (try simp only [pLy])
            refine Gw.tk 13 rfl ?_
            (try simp only [pLy])
            refine Gw.tk 14 rfl ?_
            (try simp only [pLy])
            refine Gw.last (i := 15) rfl (by kernel_rfl) (by decide) (fun K hK => ?_)
            go_simp
            refine hK.out _ _ ?_
            clear hK K
            (try simp only [pLy])
            refine Gw.done (by kernel_rfl) ?_ _
            go_wp2_with (go_at_call 110; refine (limb_Sub _ _ _ _ _ (by first | assumption | exact W64_lo _ | exact W64_hw2 _) (W64_lo _) (by assumption) (W64_lo _)).mono ?_; rintro e u4 ⟨rfl, hbu4⟩; have hzu4 := hbu4.size; (try simp at hzu4); have hsu4_w : w.heap.size ≤ u4.heap.size := (by omega); obtain ⟨hcu4_w_0, hfu4_w_0⟩ := pBc hbu4 (b := w.heap.size) pSd; have hsu4_w_0 : w.heap.size < u4.heap.size := (by omega); obtain ⟨hcu4_w_1, hfu4_w_1⟩ := pBc hbu4 (b := w.heap.size + 1) pSd; have hsu4_w_1 : w.heap.size + 1 < u4.heap.size := (by omega); obtain ⟨hcu4_w_2, hfu4_w_2⟩ := pBc hbu4 (b := w.heap.size + 1 + 1) pSd; have hsu4_w_2 : w.heap.size + 1 + 1 < u4.heap.size := (by omega); obtain ⟨hcu4_w_3, hfu4_w_3⟩ := pBc hbu4 (b := w.heap.size + 1 + 1 + 1) pSd; have hsu4_w_3 : w.heap.size + 1 + 1 + 1 < u4.heap.size := (by omega); have hsu4_u1 : u1.heap.size ≤ u4.heap.size := (by omega); obtain ⟨hcu4_u1_0, hfu4_u1_0⟩ := pBc hbu4 (b := u1.heap.size) pSd; have hsu4_u1_0 : u1.heap.size < u4.heap.size := (by omega); obtain ⟨hcu4_u1_1, hfu4_u1_1⟩ := pBc hbu4 (b := u1.heap.size + 1) pSd; have hsu4_u1_1 : u1.heap.size + 1 < u4.heap.size := (by omega); have Hu4 := Lib.hid hbu4; clear hbu4)
            go_region
            go_wp2
            go_roundw
            case rel =>
              refine ⟨n - 1, by omega, by omega, rfl, ?_⟩
              have e' : (n - 1 + 1).toNat = n.toNat := by omega
              constructor
              case below => exact pBl
              all_goals (try rw [e', Hdr.out])
              all_goals (try rw [e', HQ.out.1])
              all_goals (try rw [e', HQ.out.2.1])
              all_goals (try rw [e', HQ.out.2.2.1])
              all_goals (try rw [e', HQ.out.2.2.2])
              all_goals first | omega | (simp (maxDischargeDepth := 9) [go_sem, *]; done)
            case measure => simp [intOf]; omega
        · have hbey : decide (0 < hi r / 9223372036854775808) = false := by simp; omega
          have hwN : w2 N = N := by
            have h := HN.out
            have h2 := E3.out
            unfold w2; omega
          have hless : decide (N < B) = false := by simp; omega
          have hWN : W64 (hi N) := hwN ▸ W64_hw2 N
          rw [hwN] at hrest
          clear hbe E3
          have hk : n / 64 = 0 ∨ n / 64 = 1 ∨ n / 64 = 2 ∨ n / 64 = 3 := by omega
          rcases hk with hk | hk | hk | hk
          · have HQ : Hid (q3 (dq A B n.toNat) = q3 O ∧ q2 (dq A B n.toNat) = q2 O ∧ q1 (dq A B n.toNat) = q1 O ∧ q0 (dq A B n.toNat) = bits .or .u64 (q0 O) (lo (2 ^ (n % 64).toNat))) := by
              have h := Hm.out
              have hn2 : n.toNat = (n % 64).toNat := by omega
              rw [HdQ.out]
              rw [hn2] at h ⊢
              exact q_set_0 hO4 h hr64
            clear Hm HdQ Hmul Hle Hst HR HO HN hlt hO4
            go_wp2_with fail
            refine wp_region_G (fun w' => w'.cell? ⟨w.heap.size + 1 + 1 + 1, 0, none⟩ = some (.int .u64 (hi r)) ∧ w'.cell? ⟨w.heap.size + 1 + 1 + 1, 1, none⟩ = some (.int .u64 (lo r)) ∧ w'.cell? ⟨u1.heap.size, 0, none⟩ = some (.int .u64 (q0 A)) ∧ w'.cell? ⟨u1.heap.size, 1, none⟩ = some (.int .u64 (q1 A)) ∧ w'.cell? ⟨u1.heap.size, 2, none⟩ = some (.int .u64 (q2 A)) ∧ w'.cell? ⟨u1.heap.size, 3, none⟩ = some (.int .u64 (q3 A))) 15 (by kernel_rfl) ?_ (fun hHeld => ?_)
            · exact pKp
            refine Gw.tk 0 rfl ?_
            (try simp only [pLy])
            refine Gw.tk 1 rfl ?_
            (try simp only [pLy])
            refine Gw.tk 2 rfl ?_
            (try simp only [pLy])
            refine Gw.tk 3 rfl ?_
            (try simp only [pLy])
            refine Gw.tk 4 rfl ?_
            (try simp only [pLy])
            refine Gw.tk 5 rfl ?_
            (try simp only [pLy])
            refine Gw.tk 6 rfl ?_
            (try simp only [pLy])
            refine Gw.tk 7 rfl ?_
            (try simp only [pLy])
            refine Gw.tk 8 rfl ?_
            (try simp only [pLy])
            refine Gw.tk 9 rfl ?_
            (try simp only [pLy])
            refine Gw.tk 10 rfl ?_
            (try simp only [pLy])
            refine Gw.tk 11 rfl ?_
            (try simp only [pLy])
            refine Gw.one (i := 12) rfl (by kernel_rfl) (fun K hK => ?_)
            go_simp
            refine (limb_bit A n _ hn (by omega)).mono ?_; rintro e u3 ⟨rfl, hbu3⟩; have hzu3 := hbu3.size; (try simp at hzu3); have hsu3_w : w.heap.size ≤ u3.heap.size := (by omega); obtain ⟨hcu3_w_0, hfu3_w_0⟩ := pBc hbu3 (b := w.heap.size) pSd; have hsu3_w_0 : w.heap.size < u3.heap.size := (by omega); obtain ⟨hcu3_w_1, hfu3_w_1⟩ := pBc hbu3 (b := w.heap.size + 1) pSd; have hsu3_w_1 : w.heap.size + 1 < u3.heap.size := (by omega); obtain ⟨hcu3_w_2, hfu3_w_2⟩ := pBc hbu3 (b := w.heap.size + 1 + 1) pSd; have hsu3_w_2 : w.heap.size + 1 + 1 < u3.heap.size := (by omega); obtain ⟨hcu3_w_3, hfu3_w_3⟩ := pBc hbu3 (b := w.heap.size + 1 + 1 + 1) pSd; have hsu3_w_3 : w.heap.size + 1 + 1 + 1 < u3.heap.size := (by omega); have hsu3_u1 : u1.heap.size ≤ u3.heap.size := (by omega); obtain ⟨hcu3_u1_0, hfu3_u1_0⟩ := pBc hbu3 (b := u1.heap.size) pSd; have hsu3_u1_0 : u1.heap.size < u3.heap.size := (by omega); obtain ⟨hcu3_u1_1, hfu3_u1_1⟩ := pBc hbu3 (b := u1.heap.size + 1) pSd; have hsu3_u1_1 : u1.heap.size + 1 < u3.heap.size := (by omega); have Hu3 := Lib.hid hbu3; clear hbu3
            (try go_wp2_with fail)
            refine hK.out _ _ ?_ (fun hHeld => ?_)
            · exact pKp
            clear hK K
            (try simp only [pLy])
            refine Gw.tk 13 rfl ?_
            (try simp only [pLy])
            refine Gw.tk 14 rfl ?_
            (try simp only [pLy])
            refine Gw.last (i := 15) rfl (by kernel_rfl) (by decide) (fun K hK => ?_)
            go_simp
            refine hK.out _ _ ?_
            clear hK K
            (try simp only [pLy])
            refine Gw.done (by kernel_rfl) ?_ _
            go_wp2_with (go_at_call 110; refine (limb_Sub _ _ _ _ _ (by first | assumption | exact W64_lo _ | exact W64_hw2 _) (W64_lo _) (by assumption) (W64_lo _)).mono ?_; rintro e u4 ⟨rfl, hbu4⟩; have hzu4 := hbu4.size; (try simp at hzu4); have hsu4_w : w.heap.size ≤ u4.heap.size := (by omega); obtain ⟨hcu4_w_0, hfu4_w_0⟩ := pBc hbu4 (b := w.heap.size) pSd; have hsu4_w_0 : w.heap.size < u4.heap.size := (by omega); obtain ⟨hcu4_w_1, hfu4_w_1⟩ := pBc hbu4 (b := w.heap.size + 1) pSd; have hsu4_w_1 : w.heap.size + 1 < u4.heap.size := (by omega); obtain ⟨hcu4_w_2, hfu4_w_2⟩ := pBc hbu4 (b := w.heap.size + 1 + 1) pSd; have hsu4_w_2 : w.heap.size + 1 + 1 < u4.heap.size := (by omega); obtain ⟨hcu4_w_3, hfu4_w_3⟩ := pBc hbu4 (b := w.heap.size + 1 + 1 + 1) pSd; have hsu4_w_3 : w.heap.size + 1 + 1 + 1 < u4.heap.size := (by omega); have hsu4_u1 : u1.heap.size ≤ u4.heap.size := (by omega); obtain ⟨hcu4_u1_0, hfu4_u1_0⟩ := pBc hbu4 (b := u1.heap.size) pSd; have hsu4_u1_0 : u1.heap.size < u4.heap.size := (by omega); obtain ⟨hcu4_u1_1, hfu4_u1_1⟩ := pBc hbu4 (b := u1.heap.size + 1) pSd; have hsu4_u1_1 : u1.heap.size + 1 < u4.heap.size := (by omega); have Hu4 := Lib.hid hbu4; clear hbu4)
            go_region
            go_wp2
            go_roundw
            case rel =>
              refine ⟨n - 1, by omega, by omega, rfl, ?_⟩
              have e' : (n - 1 + 1).toNat = n.toNat := by omega
              constructor
              case below => exact pBl
              all_goals (try rw [e', Hdr.out])
              all_goals (try rw [e', HQ.out.1])
              all_goals (try rw [e', HQ.out.2.1])
              all_goals (try rw [e', HQ.out.2.2.1])
              all_goals (try rw [e', HQ.out.2.2.2])
              all_goals first | omega | (simp (maxDischargeDepth := 9) [go_sem, *]; done)
            case measure => simp [intOf]; omega
          · have HQ : Hid (q3 (dq A B n.toNat) = q3 O ∧ q2 (dq A B n.toNat) = q2 O ∧ q1 (dq A B n.toNat) = bits .or .u64 (q1 O) (lo (2 ^ (n % 64).toNat)) ∧ q0 (dq A B n.toNat) = q0 O) := by
              have h := Hm.out
              have hn2 : n.toNat = 64 + (n % 64).toNat := by omega
              rw [HdQ.out]
              rw [hn2] at h ⊢
              exact q_set_1 hO4 h hr64
            clear Hm HdQ Hmul Hle Hst HR HO HN hlt hO4
            go_wp2_with fail
            refine wp_region_G (fun w' => w'.cell? ⟨w.heap.size + 1 + 1 + 1, 0, none⟩ = some (.int .u64 (hi r)) ∧ w'.cell? ⟨w.heap.size + 1 + 1 + 1, 1, none⟩ = some (.int .u64 (lo r)) ∧ w'.cell? ⟨u1.heap.size, 0, none⟩ = some (.int .u64 (q0 A)) ∧ w'.cell? ⟨u1.heap.size, 1, none⟩ = some (.int .u64 (q1 A)) ∧ w'.cell? ⟨u1.heap.size, 2, none⟩ = some (.int .u64 (q2 A)) ∧ w'.cell? ⟨u1.heap.size, 3, none⟩ = some (.int .u64 (q3 A))) 15 (by kernel_rfl) ?_ (fun hHeld => ?_)
            · exact pKp
            refine Gw.tk 0 rfl ?_
            (try simp only [pLy])
            refine Gw.tk 1 rfl ?_
            (try simp only [pLy])
            refine Gw.tk 2 rfl ?_
            (try simp only [pLy])
            refine Gw.tk 3 rfl ?_
            (try simp only [pLy])
            refine Gw.tk 4 rfl ?_
            (try simp only [pLy])
            refine Gw.tk 5 rfl ?_
            (try simp only [pLy])
            refine Gw.tk 6 rfl ?_
            (try simp only [pLy])
            refine Gw.tk 7 rfl ?_
            (try simp only [pLy])
            refine Gw.tk 8 rfl ?_
            (try simp only [pLy])
            refine Gw.tk 9 rfl ?_
            (try simp only [pLy])
            refine Gw.tk 10 rfl ?_
            (try simp only [pLy])
            refine Gw.tk 11 rfl ?_
            (try simp only [pLy])
            refine Gw.one (i := 12) rfl (by kernel_rfl) (fun K hK => ?_)
            go_simp
            refine (limb_bit A n _ hn (by omega)).mono ?_; rintro e u3 ⟨rfl, hbu3⟩; have hzu3 := hbu3.size; (try simp at hzu3); have hsu3_w : w.heap.size ≤ u3.heap.size := (by omega); obtain ⟨hcu3_w_0, hfu3_w_0⟩ := pBc hbu3 (b := w.heap.size) pSd; have hsu3_w_0 : w.heap.size < u3.heap.size := (by omega); obtain ⟨hcu3_w_1, hfu3_w_1⟩ := pBc hbu3 (b := w.heap.size + 1) pSd; have hsu3_w_1 : w.heap.size + 1 < u3.heap.size := (by omega); obtain ⟨hcu3_w_2, hfu3_w_2⟩ := pBc hbu3 (b := w.heap.size + 1 + 1) pSd; have hsu3_w_2 : w.heap.size + 1 + 1 < u3.heap.size := (by omega); obtain ⟨hcu3_w_3, hfu3_w_3⟩ := pBc hbu3 (b := w.heap.size + 1 + 1 + 1) pSd; have hsu3_w_3 : w.heap.size + 1 + 1 + 1 < u3.heap.size := (by omega); have hsu3_u1 : u1.heap.size ≤ u3.heap.size := (by omega); obtain ⟨hcu3_u1_0, hfu3_u1_0⟩ := pBc hbu3 (b := u1.heap.size) pSd; have hsu3_u1_0 : u1.heap.size < u3.heap.size := (by omega); obtain ⟨hcu3_u1_1, hfu3_u1_1⟩ := pBc hbu3 (b := u1.heap.size + 1) pSd; have hsu3_u1_1 : u1.heap.size + 1 < u3.heap.size := (by omega); have Hu3 := Lib.hid hbu3; clear hbu3
            (try go_wp2_with fail)
            refine hK.out _ _ ?_ (fun hHeld => ?_)
            · exact pKp
            clear hK K
            (try simp only [pLy])
            refine Gw.tk 13 rfl ?_
            (try simp only [pLy])
            refine Gw.tk 14 rfl ?_
            (try simp only [pLy])
            refine Gw.last (i := 15) rfl (by kernel_rfl) (by decide) (fun K hK => ?_)
            go_simp
            refine hK.out _ _ ?_
            clear hK K
            (try simp only [pLy])
            refine Gw.done (by kernel_rfl) ?_ _
            go_wp2_with (go_at_call 110; refine (limb_Sub _ _ _ _ _ (by first | assumption | exact W64_lo _ | exact W64_hw2 _) (W64_lo _) (by assumption) (W64_lo _)).mono ?_; rintro e u4 ⟨rfl, hbu4⟩; have hzu4 := hbu4.size; (try simp at hzu4); have hsu4_w : w.heap.size ≤ u4.heap.size := (by omega); obtain ⟨hcu4_w_0, hfu4_w_0⟩ := pBc hbu4 (b := w.heap.size) pSd; have hsu4_w_0 : w.heap.size < u4.heap.size := (by omega); obtain ⟨hcu4_w_1, hfu4_w_1⟩ := pBc hbu4 (b := w.heap.size + 1) pSd; have hsu4_w_1 : w.heap.size + 1 < u4.heap.size := (by omega); obtain ⟨hcu4_w_2, hfu4_w_2⟩ := pBc hbu4 (b := w.heap.size + 1 + 1) pSd; have hsu4_w_2 : w.heap.size + 1 + 1 < u4.heap.size := (by omega); obtain ⟨hcu4_w_3, hfu4_w_3⟩ := pBc hbu4 (b := w.heap.size + 1 + 1 + 1) pSd; have hsu4_w_3 : w.heap.size + 1 + 1 + 1 < u4.heap.size := (by omega); have hsu4_u1 : u1.heap.size ≤ u4.heap.size := (by omega); obtain ⟨hcu4_u1_0, hfu4_u1_0⟩ := pBc hbu4 (b := u1.heap.size) pSd; have hsu4_u1_0 : u1.heap.size < u4.heap.size := (by omega); obtain ⟨hcu4_u1_1, hfu4_u1_1⟩ := pBc hbu4 (b := u1.heap.size + 1) pSd; have hsu4_u1_1 : u1.heap.size + 1 < u4.heap.size := (by omega); have Hu4 := Lib.hid hbu4; clear hbu4)
            go_region
            go_wp2
            go_roundw
            case rel =>
              refine ⟨n - 1, by omega, by omega, rfl, ?_⟩
              have e' : (n - 1 + 1).toNat = n.toNat := by omega
              constructor
              case below => exact pBl
              all_goals (try rw [e', Hdr.out])
              all_goals (try rw [e', HQ.out.1])
              all_goals (try rw [e', HQ.out.2.1])
              all_goals (try rw [e', HQ.out.2.2.1])
              all_goals (try rw [e', HQ.out.2.2.2])
              all_goals first | omega | (simp (maxDischargeDepth := 9) [go_sem, *]; done)
            case measure => simp [intOf]; omega
          · have HQ : Hid (q3 (dq A B n.toNat) = q3 O ∧ q2 (dq A B n.toNat) = bits .or .u64 (q2 O) (lo (2 ^ (n % 64).toNat)) ∧ q1 (dq A B n.toNat) = q1 O ∧ q0 (dq A B n.toNat) = q0 O) := by
              have h := Hm.out
              have hn2 : n.toNat = 128 + (n % 64).toNat := by omega
              rw [HdQ.out]
              rw [hn2] at h ⊢
              exact q_set_2 hO4 h hr64
            clear Hm HdQ Hmul Hle Hst HR HO HN hlt hO4
            go_wp2_with fail
            refine wp_region_G (fun w' => w'.cell? ⟨w.heap.size + 1 + 1 + 1, 0, none⟩ = some (.int .u64 (hi r)) ∧ w'.cell? ⟨w.heap.size + 1 + 1 + 1, 1, none⟩ = some (.int .u64 (lo r)) ∧ w'.cell? ⟨u1.heap.size, 0, none⟩ = some (.int .u64 (q0 A)) ∧ w'.cell? ⟨u1.heap.size, 1, none⟩ = some (.int .u64 (q1 A)) ∧ w'.cell? ⟨u1.heap.size, 2, none⟩ = some (.int .u64 (q2 A)) ∧ w'.cell? ⟨u1.heap.size, 3, none⟩ = some (.int .u64 (q3 A))) 15 (by kernel_rfl) ?_ (fun hHeld => ?_)
            · exact pKp
            refine Gw.tk 0 rfl ?_
            (try simp only [pLy])
            refine Gw.tk 1 rfl ?_
            (try simp only [pLy])
            refine Gw.tk 2 rfl ?_
            (try simp only [pLy])
            refine Gw.tk 3 rfl ?_
            (try simp only [pLy])
            refine Gw.tk 4 rfl ?_
            (try simp only [pLy])
            refine Gw.tk 5 rfl ?_
            (try simp only [pLy])
            refine Gw.tk 6 rfl ?_
            (try simp only [pLy])
            refine Gw.tk 7 rfl ?_
            (try simp only [pLy])
            refine Gw.tk 8 rfl ?_
            (try simp only [pLy])
            refine Gw.tk 9 rfl ?_
            (try simp only [pLy])
            refine Gw.tk 10 rfl ?_
            (try simp only [pLy])
            refine Gw.tk 11 rfl ?_
            (try simp only [pLy])
            refine Gw.one (i := 12) rfl (by kernel_rfl) (fun K hK => ?_)
            go_simp
            refine (limb_bit A n _ hn (by omega)).mono ?_; rintro e u3 ⟨rfl, hbu3⟩; have hzu3 := hbu3.size; (try simp at hzu3); have hsu3_w : w.heap.size ≤ u3.heap.size := (by omega); obtain ⟨hcu3_w_0, hfu3_w_0⟩ := pBc hbu3 (b := w.heap.size) pSd; have hsu3_w_0 : w.heap.size < u3.heap.size := (by omega); obtain ⟨hcu3_w_1, hfu3_w_1⟩ := pBc hbu3 (b := w.heap.size + 1) pSd; have hsu3_w_1 : w.heap.size + 1 < u3.heap.size := (by omega); obtain ⟨hcu3_w_2, hfu3_w_2⟩ := pBc hbu3 (b := w.heap.size + 1 + 1) pSd; have hsu3_w_2 : w.heap.size + 1 + 1 < u3.heap.size := (by omega); obtain ⟨hcu3_w_3, hfu3_w_3⟩ := pBc hbu3 (b := w.heap.size + 1 + 1 + 1) pSd; have hsu3_w_3 : w.heap.size + 1 + 1 + 1 < u3.heap.size := (by omega); have hsu3_u1 : u1.heap.size ≤ u3.heap.size := (by omega); obtain ⟨hcu3_u1_0, hfu3_u1_0⟩ := pBc hbu3 (b := u1.heap.size) pSd; have hsu3_u1_0 : u1.heap.size < u3.heap.size := (by omega); obtain ⟨hcu3_u1_1, hfu3_u1_1⟩ := pBc hbu3 (b := u1.heap.size + 1) pSd; have hsu3_u1_1 : u1.heap.size + 1 < u3.heap.size := (by omega); have Hu3 := Lib.hid hbu3; clear hbu3
            (try go_wp2_with fail)
            refine hK.out _ _ ?_ (fun hHeld => ?_)
            · exact pKp
            clear hK K
            (try simp only [pLy])
            refine Gw.tk 13 rfl ?_
            (try simp only [pLy])
            refine Gw.tk 14 rfl ?_
            (try simp only [pLy])
            refine Gw.last (i := 15) rfl (by kernel_rfl) (by decide) (fun K hK => ?_)
            go_simp
            refine hK.out _ _ ?_
            clear hK K
            (try simp only [pLy])
            refine Gw.done (by kernel_rfl) ?_ _
            go_wp2_with (go_at_call 110; refine (limb_Sub _ _ _ _ _ (by first | assumption | exact W64_lo _ | exact W64_hw2 _) (W64_lo _) (by assumption) (W64_lo _)).mono ?_; rintro e u4 ⟨rfl, hbu4⟩; have hzu4 := hbu4.size; (try simp at hzu4); have hsu4_w : w.heap.size ≤ u4.heap.size := (by omega); obtain ⟨hcu4_w_0, hfu4_w_0⟩ := pBc hbu4 (b := w.heap.size) pSd; have hsu4_w_0 : w.heap.size < u4.heap.size := (by omega); obtain ⟨hcu4_w_1, hfu4_w_1⟩ := pBc hbu4 (b := w.heap.size + 1) pSd; have hsu4_w_1 : w.heap.size + 1 < u4.heap.size := (by omega); obtain ⟨hcu4_w_2, hfu4_w_2⟩ := pBc hbu4 (b := w.heap.size + 1 + 1) pSd; have hsu4_w_2 : w.heap.size + 1 + 1 < u4.heap.size := (by omega); obtain ⟨hcu4_w_3, hfu4_w_3⟩ := pBc hbu4 (b := w.heap.size + 1 + 1 + 1) pSd; have hsu4_w_3 : w.heap.size + 1 + 1 + 1 < u4.heap.size := (by omega); have hsu4_u1 : u1.heap.size ≤ u4.heap.size := (by omega); obtain ⟨hcu4_u1_0, hfu4_u1_0⟩ := pBc hbu4 (b := u1.heap.size) pSd; have hsu4_u1_0 : u1.heap.size < u4.heap.size := (by omega); obtain ⟨hcu4_u1_1, hfu4_u1_1⟩ := pBc hbu4 (b := u1.heap.size + 1) pSd; have hsu4_u1_1 : u1.heap.size + 1 < u4.heap.size := (by omega); have Hu4 := Lib.hid hbu4; clear hbu4)
            go_region
            go_wp2
            go_roundw
            case rel =>
              refine ⟨n - 1, by omega, by omega, rfl, ?_⟩
              have e' : (n - 1 + 1).toNat = n.toNat := by omega
              constructor
              case below => exact pBl
              all_goals (try rw [e', Hdr.out])
              all_goals (try rw [e', HQ.out.1])
              all_goals (try rw [e', HQ.out.2.1])
              all_goals (try rw [e', HQ.out.2.2.1])
              all_goals (try rw [e', HQ.out.2.2.2])
              all_goals first | omega | (simp (maxDischargeDepth := 9) [go_sem, *]; done)
            case measure => simp [intOf]; omega
          · have HQ : Hid (q3 (dq A B n.toNat) = bits .or .u64 (q3 O) (lo (2 ^ (n % 64).toNat)) ∧ q2 (dq A B n.toNat) = q2 O ∧ q1 (dq A B n.toNat) = q1 O ∧ q0 (dq A B n.toNat) = q0 O) := by
              have h := Hm.out
              have hn2 : n.toNat = 192 + (n % 64).toNat := by omega
              rw [HdQ.out]
              rw [hn2] at h ⊢
              exact q_set_3 hO4 h hr64
            clear Hm HdQ Hmul Hle Hst HR HO HN hlt hO4
            go_wp2_with fail
            refine wp_region_G (fun w' => w'.cell? ⟨w.heap.size + 1 + 1 + 1, 0, none⟩ = some (.int .u64 (hi r)) ∧ w'.cell? ⟨w.heap.size + 1 + 1 + 1, 1, none⟩ = some (.int .u64 (lo r)) ∧ w'.cell? ⟨u1.heap.size, 0, none⟩ = some (.int .u64 (q0 A)) ∧ w'.cell? ⟨u1.heap.size, 1, none⟩ = some (.int .u64 (q1 A)) ∧ w'.cell? ⟨u1.heap.size, 2, none⟩ = some (.int .u64 (q2 A)) ∧ w'.cell? ⟨u1.heap.size, 3, none⟩ = some (.int .u64 (q3 A))) 15 (by kernel_rfl) ?_ (fun hHeld => ?_)
            · exact pKp
            refine Gw.tk 0 rfl ?_
            (try simp only [pLy])
            refine Gw.tk 1 rfl ?_
            (try simp only [pLy])
            refine Gw.tk 2 rfl ?_
            (try simp only [pLy])
            refine Gw.tk 3 rfl ?_
            (try simp only [pLy])
            refine Gw.tk 4 rfl ?_
            (try simp only [pLy])
            refine Gw.tk 5 rfl ?_
            (try simp only [pLy])
            refine Gw.tk 6 rfl ?_
            (try simp only [pLy])
            refine Gw.tk 7 rfl ?_
            (try simp only [pLy])
            refine Gw.tk 8 rfl ?_
            (try simp only [pLy])
            refine Gw.tk 9 rfl ?_
            (try simp only [pLy])
            refine Gw.tk 10 rfl ?_
            (try simp only [pLy])
            refine Gw.tk 11 rfl ?_
            (try simp only [pLy])
            refine Gw.one (i := 12) rfl (by kernel_rfl) (fun K hK => ?_)
            go_simp
            refine (limb_bit A n _ hn (by omega)).mono ?_; rintro e u3 ⟨rfl, hbu3⟩; have hzu3 := hbu3.size; (try simp at hzu3); have hsu3_w : w.heap.size ≤ u3.heap.size := (by omega); obtain ⟨hcu3_w_0, hfu3_w_0⟩ := pBc hbu3 (b := w.heap.size) pSd; have hsu3_w_0 : w.heap.size < u3.heap.size := (by omega); obtain ⟨hcu3_w_1, hfu3_w_1⟩ := pBc hbu3 (b := w.heap.size + 1) pSd; have hsu3_w_1 : w.heap.size + 1 < u3.heap.size := (by omega); obtain ⟨hcu3_w_2, hfu3_w_2⟩ := pBc hbu3 (b := w.heap.size + 1 + 1) pSd; have hsu3_w_2 : w.heap.size + 1 + 1 < u3.heap.size := (by omega); obtain ⟨hcu3_w_3, hfu3_w_3⟩ := pBc hbu3 (b := w.heap.size + 1 + 1 + 1) pSd; have hsu3_w_3 : w.heap.size + 1 + 1 + 1 < u3.heap.size := (by omega); have hsu3_u1 : u1.heap.size ≤ u3.heap.size := (by omega); obtain ⟨hcu3_u1_0, hfu3_u1_0⟩ := pBc hbu3 (b := u1.heap.size) pSd; have hsu3_u1_0 : u1.heap.size < u3.heap.size := (by omega); obtain ⟨hcu3_u1_1, hfu3_u1_1⟩ := pBc hbu3 (b := u1.heap.size + 1) pSd; have hsu3_u1_1 : u1.heap.size + 1 < u3.heap.size := (by omega); have Hu3 := Lib.hid hbu3; clear hbu3
            (try go_wp2_with fail)
            refine hK.out _ _ ?_ (fun hHeld => ?_)
            · exact pKp
            clear hK K
            (try simp only [pLy])
            refine Gw.tk 13 rfl ?_
            (try simp only [pLy])
            refine Gw.tk 14 rfl ?_
            (try simp only [pLy])
            refine Gw.last (i := 15) rfl (by kernel_rfl) (by decide) (fun K hK => ?_)
            go_simp
            refine hK.out _ _ ?_
            clear hK K
            (try simp only [pLy])
            refine Gw.done (by kernel_rfl) ?_ _
            go_wp2_with (go_at_call 110; refine (limb_Sub _ _ _ _ _ (by first | assumption | exact W64_lo _ | exact W64_hw2 _) (W64_lo _) (by assumption) (W64_lo _)).mono ?_; rintro e u4 ⟨rfl, hbu4⟩; have hzu4 := hbu4.size; (try simp at hzu4); have hsu4_w : w.heap.size ≤ u4.heap.size := (by omega); obtain ⟨hcu4_w_0, hfu4_w_0⟩ := pBc hbu4 (b := w.heap.size) pSd; have hsu4_w_0 : w.heap.size < u4.heap.size := (by omega); obtain ⟨hcu4_w_1, hfu4_w_1⟩ := pBc hbu4 (b := w.heap.size + 1) pSd; have hsu4_w_1 : w.heap.size + 1 < u4.heap.size := (by omega); obtain ⟨hcu4_w_2, hfu4_w_2⟩ := pBc hbu4 (b := w.heap.size + 1 + 1) pSd; have hsu4_w_2 : w.heap.size + 1 + 1 < u4.heap.size := (by omega); obtain ⟨hcu4_w_3, hfu4_w_3⟩ := pBc hbu4 (b := w.heap.size + 1 + 1 + 1) pSd; have hsu4_w_3 : w.heap.size + 1 + 1 + 1 < u4.heap.size := (by omega); have hsu4_u1 : u1.heap.size ≤ u4.heap.size := (by omega); obtain ⟨hcu4_u1_0, hfu4_u1_0⟩ := pBc hbu4 (b := u1.heap.size) pSd; have hsu4_u1_0 : u1.heap.size < u4.heap.size := (by omega); obtain ⟨hcu4_u1_1, hfu4_u1_1⟩ := pBc hbu4 (b := u1.heap.size + 1) pSd; have hsu4_u1_1 : u1.heap.size + 1 < u4.heap.size := (by omega); have Hu4 := Lib.hid hbu4; clear hbu4)
            go_region
            go_wp2
            go_roundw
            case rel =>
              refine ⟨n - 1, by omega, by omega, rfl, ?_⟩
              have e' : (n - 1 + 1).toNat = n.toNat := by omega
              constructor
              case below => exact pBl
              all_goals (try rw [e', Hdr.out])
              all_goals (try rw [e', HQ.out.1])
              all_goals (try rw [e', HQ.out.2.1])
              all_goals (try rw [e', HQ.out.2.2.1])
              all_goals (try rw [e', HQ.out.2.2.2])
              all_goals first | omega | (simp (maxDischargeDepth := 9) [go_sem, *]; done)
            case measure => simp [intOf]; omega
      · have Hdr : Hid (dr A B n.toNat = N) := by
          have h := Hst.out.1
          rw [enn, ← HR.out, ← HN.out, if_neg hlt] at h; exact h
        have HdQ : Hid (dq A B n.toNat = O) := by
          have h := Hst.out.2
          rw [enn, ← HR.out, ← HN.out, if_neg hlt, ← HO.out] at h; exact h
        have HQ : Hid (q3 (dq A B n.toNat) = q3 O ∧ q2 (dq A B n.toNat) = q2 O ∧ q1 (dq A B n.toNat) = q1 O ∧ q0 (dq A B n.toNat) = q0 O) := by
          have h := HdQ.out
          exact ⟨by rw [h], by rw [h], by rw [h], by rw [h]⟩
        have hwN : w2 N = N := by
          have h := HN.out
          unfold w2; unfold W64 hi at hBh
          omega
        have hbey : decide (0 < hi r / 9223372036854775808) = false := by
          have h2 := E3.out
          have h := HN.out
          unfold W64 at hBh
          simp
          unfold hi at hBh
          omega
        have hless : decide (N < B) = true := by simp; omega
        have hWN : W64 (hi N) := hwN ▸ W64_hw2 N
        clear HdQ Hmul Hle Hst HR HO HN hlt enn E3
        go_wp2_with fail
        refine wp_region_G (fun w' => w'.cell? ⟨w.heap.size + 1 + 1 + 1, 0, none⟩ = some (.int .u64 (hi r)) ∧ w'.cell? ⟨w.heap.size + 1 + 1 + 1, 1, none⟩ = some (.int .u64 (lo r)) ∧ w'.cell? ⟨u1.heap.size, 0, none⟩ = some (.int .u64 (q0 A)) ∧ w'.cell? ⟨u1.heap.size, 1, none⟩ = some (.int .u64 (q1 A)) ∧ w'.cell? ⟨u1.heap.size, 2, none⟩ = some (.int .u64 (q2 A)) ∧ w'.cell? ⟨u1.heap.size, 3, none⟩ = some (.int .u64 (q3 A))) 15 (by kernel_rfl) ?_ (fun hHeld => ?_)
        · exact pKp
        refine Gw.tk 0 rfl ?_
        (try simp only [pLy])
        refine Gw.tk 1 rfl ?_
        (try simp only [pLy])
        refine Gw.tk 2 rfl ?_
        (try simp only [pLy])
        refine Gw.tk 3 rfl ?_
        (try simp only [pLy])
        refine Gw.tk 4 rfl ?_
        (try simp only [pLy])
        refine Gw.tk 5 rfl ?_
        (try simp only [pLy])
        refine Gw.tk 6 rfl ?_
        (try simp only [pLy])
        refine Gw.tk 7 rfl ?_
        (try simp only [pLy])
        refine Gw.tk 8 rfl ?_
        (try simp only [pLy])
        refine Gw.tk 9 rfl ?_
        (try simp only [pLy])
        refine Gw.tk 10 rfl ?_
        (try simp only [pLy])
        refine Gw.tk 11 rfl ?_
        (try simp only [pLy])
        refine Gw.one (i := 12) rfl (by kernel_rfl) (fun K hK => ?_)
        go_simp
        refine (limb_bit A n _ hn (by omega)).mono ?_; rintro e u3 ⟨rfl, hbu3⟩; have hzu3 := hbu3.size; (try simp at hzu3); have hsu3_w : w.heap.size ≤ u3.heap.size := (by omega); obtain ⟨hcu3_w_0, hfu3_w_0⟩ := pBc hbu3 (b := w.heap.size) pSd; have hsu3_w_0 : w.heap.size < u3.heap.size := (by omega); obtain ⟨hcu3_w_1, hfu3_w_1⟩ := pBc hbu3 (b := w.heap.size + 1) pSd; have hsu3_w_1 : w.heap.size + 1 < u3.heap.size := (by omega); obtain ⟨hcu3_w_2, hfu3_w_2⟩ := pBc hbu3 (b := w.heap.size + 1 + 1) pSd; have hsu3_w_2 : w.heap.size + 1 + 1 < u3.heap.size := (by omega); obtain ⟨hcu3_w_3, hfu3_w_3⟩ := pBc hbu3 (b := w.heap.size + 1 + 1 + 1) pSd; have hsu3_w_3 : w.heap.size + 1 + 1 + 1 < u3.heap.size := (by omega); have hsu3_u1 : u1.heap.size ≤ u3.heap.size := (by omega); obtain ⟨hcu3_u1_0, hfu3_u1_0⟩ := pBc hbu3 (b := u1.heap.size) pSd; have hsu3_u1_0 : u1.heap.size < u3.heap.size := (by omega); obtain ⟨hcu3_u1_1, hfu3_u1_1⟩ := pBc hbu3 (b := u1.heap.size + 1) pSd; have hsu3_u1_1 : u1.heap.size + 1 < u3.heap.size := (by omega); have Hu3 := Lib.hid hbu3; clear hbu3
        (try go_wp2_with fail)
        refine hK.out _ _ ?_ (fun hHeld => ?_)
        · exact pKp
        clear hK K
        (try simp only [pLy])
        refine Gw.tk 13 rfl ?_
        (try simp only [pLy])
        refine Gw.tk 14 rfl ?_
        (try simp only [pLy])
        refine Gw.last (i := 15) rfl (by kernel_rfl) (by decide) (fun K hK => ?_)
        go_simp
        refine hK.out _ _ ?_
        clear hK K
        (try simp only [pLy])
        refine Gw.done (by kernel_rfl) ?_ _
        go_wp2_with (go_at_call 110; refine (limb_Sub _ _ _ _ _ (by first | assumption | exact W64_lo _ | exact W64_hw2 _) (W64_lo _) (by assumption) (W64_lo _)).mono ?_; rintro e u4 ⟨rfl, hbu4⟩; have hzu4 := hbu4.size; (try simp at hzu4); have hsu4_w : w.heap.size ≤ u4.heap.size := (by omega); obtain ⟨hcu4_w_0, hfu4_w_0⟩ := pBc hbu4 (b := w.heap.size) pSd; have hsu4_w_0 : w.heap.size < u4.heap.size := (by omega); obtain ⟨hcu4_w_1, hfu4_w_1⟩ := pBc hbu4 (b := w.heap.size + 1) pSd; have hsu4_w_1 : w.heap.size + 1 < u4.heap.size := (by omega); obtain ⟨hcu4_w_2, hfu4_w_2⟩ := pBc hbu4 (b := w.heap.size + 1 + 1) pSd; have hsu4_w_2 : w.heap.size + 1 + 1 < u4.heap.size := (by omega); obtain ⟨hcu4_w_3, hfu4_w_3⟩ := pBc hbu4 (b := w.heap.size + 1 + 1 + 1) pSd; have hsu4_w_3 : w.heap.size + 1 + 1 + 1 < u4.heap.size := (by omega); have hsu4_u1 : u1.heap.size ≤ u4.heap.size := (by omega); obtain ⟨hcu4_u1_0, hfu4_u1_0⟩ := pBc hbu4 (b := u1.heap.size) pSd; have hsu4_u1_0 : u1.heap.size < u4.heap.size := (by omega); obtain ⟨hcu4_u1_1, hfu4_u1_1⟩ := pBc hbu4 (b := u1.heap.size + 1) pSd; have hsu4_u1_1 : u1.heap.size + 1 < u4.heap.size := (by omega); have Hu4 := Lib.hid hbu4; clear hbu4)
        go_roundw
        case rel =>
          refine ⟨n - 1, by omega, by omega, rfl, ?_⟩
          have e' : (n - 1 + 1).toNat = n.toNat := by omega
          constructor
          case below => exact pBl
          all_goals (try rw [e', Hdr.out])
          all_goals (try rw [e', HQ.out.1])
          all_goals (try rw [e', HQ.out.2.1])
          all_goals (try rw [e', HQ.out.2.2.1])
          all_goals (try rw [e', HQ.out.2.2.2])
          all_goals first | omega | (simp (maxDischargeDepth := 9) [go_sem, *]; done)
        case measure => simp [intOf]; omega
    · have en : (n + 1).toNat = 0 := by omega
      have hd := dr_0 A B
      rw [en] at r0 r1 o0 o1 o2 o3
      rw [hd.1] at r0 r1
      rw [hd.2] at o0 o1 o2 o3
      clear hd en
      go_wp2_with fail
      go_region_held3 (fun w' => w'.cell? ⟨w.heap.size + 1 + 1 + 1, 0, none⟩ = some (.int .u64 (hi (A % B))) ∧ w'.cell? ⟨w.heap.size + 1 + 1 + 1, 1, none⟩ = some (.int .u64 (lo (A % B))) ∧ w'.cell? ⟨u1.heap.size + 1, 0, none⟩ = some (.int .u64 (q0 (A / B))) ∧ w'.cell? ⟨u1.heap.size + 1, 1, none⟩ = some (.int .u64 (q1 (A / B))) ∧ w'.cell? ⟨u1.heap.size + 1, 2, none⟩ = some (.int .u64 (q2 (A / B))) ∧ w'.cell? ⟨u1.heap.size + 1, 3, none⟩ = some (.int .u64 (q3 (A / B)))) (refine ⟨?_, ?_, ?_, ?_, ?_, ?_⟩ <;> first | go_keep | (simp (maxDischargeDepth := 9) [go_sem, *]; done)) ((first | (go_at_call 130; refine (limb_four _ _ _ _ _).mono ?_; rintro e u3 ⟨rfl, hbu3⟩; have hzu3 := hbu3.size; (try simp at hzu3); have hsu3_w : w.heap.size ≤ u3.heap.size := (by omega); obtain ⟨hcu3_w_0, hfu3_w_0⟩ := pBc hbu3 (b := w.heap.size) pSd; have hsu3_w_0 : w.heap.size < u3.heap.size := (by omega); obtain ⟨hcu3_w_1, hfu3_w_1⟩ := pBc hbu3 (b := w.heap.size + 1) pSd; have hsu3_w_1 : w.heap.size + 1 < u3.heap.size := (by omega); obtain ⟨hcu3_w_2, hfu3_w_2⟩ := pBc hbu3 (b := w.heap.size + 1 + 1) pSd; have hsu3_w_2 : w.heap.size + 1 + 1 < u3.heap.size := (by omega); obtain ⟨hcu3_w_3, hfu3_w_3⟩ := pBc hbu3 (b := w.heap.size + 1 + 1 + 1) pSd; have hsu3_w_3 : w.heap.size + 1 + 1 + 1 < u3.heap.size := (by omega); have hsu3_u1 : u1.heap.size ≤ u3.heap.size := (by omega); obtain ⟨hcu3_u1_0, hfu3_u1_0⟩ := pBc hbu3 (b := u1.heap.size) pSd; have hsu3_u1_0 : u1.heap.size < u3.heap.size := (by omega); obtain ⟨hcu3_u1_1, hfu3_u1_1⟩ := pBc hbu3 (b := u1.heap.size + 1) pSd; have hsu3_u1_1 : u1.heap.size + 1 < u3.heap.size := (by omega); have Hu3 := Lib.hid hbu3; clear hbu3)))
      all_goals go_wp2
      all_goals refine bodyPost_ret ?r rfl ⟨rfl, ?b⟩
      case r => simp (maxDischargeDepth := 9) [results, Try.results107, go_sem, *]
      case b => exact pBl

/-- The same, of a dividend by its words. -/
theorem limb_Div (a b c d bh bl : Int) (w : World) (ha : W64 a) (hb : W64 b) (hc : W64 c) (hd : W64 d) (hbh : W64 bh) (hbl : W64 bl) (hB : 0 < val bh bl) :
    Calls Try.prog 107 #[.agg #[.int .u64 a, .int .u64 b, .int .u64 c, .int .u64 d], .agg #[.int .u64 bh, .int .u64 bl]] w fun e w' => e = .returned (.tuple #[.agg #[.int .u64 (q3 (v4 a b c d / val bh bl)), .int .u64 (q2 (v4 a b c d / val bh bl)), .int .u64 (q1 (v4 a b c d / val bh bl)), .int .u64 (q0 (v4 a b c d / val bh bl))], .agg #[.int .u64 (hi (v4 a b c d % val bh bl)), .int .u64 (lo (v4 a b c d % val bh bl))], .bool true]) ∧ Below w.heap.size w w' := by
  obtain ⟨e3, e2, e1, e0⟩ := q_v4 ha hb hc hd
  have h := limb_DivA (v4 a b c d) (val bh bl) w (by unfold v4 val; unfold W64 at *; omega) (by unfold w4 v4 val; unfold W64 at *; omega) hB (by rw [hi_val hbl]; exact hbh)
  rw [e3, e2, e1, e0, hi_val hbl, lo_val hbl] at h
  exact h
end Go.Proofs.Ytdphhkbbphfjlaa
