/- The walk of the reference's r1.DivFour. -/
import Derived.Test.YtdphhkbbphfjlaaCReD
import Derived.Test.YtdphhkbbphfjlaaCRg
namespace Go.Proofs.Ytdphhkbbphfjlaa
set_option linter.unusedVariables false
set_option linter.unusedSimpArgs false
open Go.RowKit
attribute [local go_sem] uwrap_lo lo_lo hi_lo val_hl val_00 v4_q
attribute [local go_sem ↓] Go.wp_at_zero Go.wp_at_succ
attribute [local go_sem] fld_sum0 fld_sum1
attribute [local go_sem] v4_low mk4
attribute [local go_sem ↓] Try.two_eql Try.two_neq

/-- what is in memory ahead of a round -/
structure DivRAt (A B n : Int) (w wr : World) : Prop where
  below : Below w.heap.size w wr
  ea : blk wr (w.heap.size) = some (.cells #[.int .u64 (q3 A), .int .u64 (q2 A), .int .u64 (q1 A), .int .u64 (q0 A)] 119 (0, 0))
  eb : blk wr (w.heap.size + 1) = some (.cells #[.int .u64 (hi B), .int .u64 (lo B)] 53 (0, 0))
  er : blk wr (w.heap.size + 1 + 1) = some (.cells #[.int .u64 0, .int .u64 0, .int .u64 0, .int .u64 0, .int .u64 0, .int .u64 0, .bool false] 125 (0, 0))
  eo : blk wr (w.heap.size + 1 + 1 + 1) = some (.cells #[.int .u64 0, .int .u64 0, .int .u64 0, .int .u64 0, .int .u64 (hi (dr A B (n + 1).toNat)), .int .u64 (lo (dr A B (n + 1).toNat)), .bool true] 125 (0, 0))
  eq : blk wr (w.heap.size + 1 + 1 + 1 + 1) = some (.cells #[.int .u64 (q0 (dq A B (n + 1).toNat)), .int .u64 (q1 (dq A B (n + 1).toNat)), .int .u64 (q2 (dq A B (n + 1).toNat)), .int .u64 (q3 (dq A B (n + 1).toNat))] 22 (0, 0))

set_option maxRecDepth 100000 in
set_option maxHeartbeats 40000000 in
theorem r1_DivFourA (A B : Int) (w : World) (hA0 : 0 ≤ A) (hA : w4 A = A) (hB : 0 < B) (hBh : W64 (hi B)) :
    Calls Try.prog 69 #[.agg #[.int .u64 (q3 A), .int .u64 (q2 A), .int .u64 (q1 A), .int .u64 (q0 A)], .agg #[.int .u64 (hi B), .int .u64 (lo B)]] w fun e w' => e = .returned (.agg #[.int .u64 (q3 (A / B)), .int .u64 (q2 (A / B)), .int .u64 (q1 (A / B)), .int .u64 (q0 (A / B)), .int .u64 (hi (A % B)), .int .u64 (lo (A % B)), .bool true]) ∧ Below w.heap.size w w' := by
  have hne : eq2 (hi B) (lo B) 0 0 = false := by
    unfold eq2 hi lo; simp; omega
  have hlt : A < 2 ^ 256 := by unfold w4 at hA; omega
  have Htop := Lib.hid (dr_top (B := B) (m := 256) hA0 hlt)
  clear hlt
  go_enter Try.func69, Try.ntmps69
  go_wp2_with fail
  go_loopw [7] (fun i wr => ∃ n : Int, -1 ≤ n ∧ n ≤ 255 ∧ i = .int .i64 n ∧ DivRAt A B n w wr) (fun i _ => (intOf i + 1).toNat)
  case atStart =>
    have e : ((255 : Int) + 1).toNat = 256 := rfl
    obtain ⟨ht1, ht2⟩ := Htop.out
    refine ⟨_, by omega, by omega, rfl, ?_⟩
    constructor
    case below => exact pBl
    all_goals (try rw [e, ht1])
    all_goals (try rw [e, ht2])
    all_goals ((try simp (disch := first | omega | (simp; done) | (simp; omega)) only [pBk]); first | done | rfl)
  case round =>
    obtain ⟨n, hn0, hn1, rfl, hD⟩ := hrel
    obtain ⟨hbel0, e_xa, e_xb, e_xr, e_xo, e_xq⟩ := hD
    have HB := Lib.hid hbel0
    clear hbel0
    by_cases hn : 0 ≤ n
    · have hrr := dr_range (A := A) hB (n + 1).toNat
      have hb01 := bitAt_01 A n
      have Hst := Lib.hid (dstep (A := A) hB n.toNat)
      have en : (n + 1).toNat = n.toNat + 1 := by omega
      have Hen := Lib.hid en
      rw [en] at e_xo e_xq hrr
      have Hmul := Lib.hid (dq_mult A B n.toNat)
      have Hle := Lib.hid (dq_le hA0 hB (n.toNat + 1))
      clear en
      have Hr : Hid (∃ r, r = dr A B (n.toNat + 1)) := ⟨_, rfl⟩
      obtain ⟨r, hr⟩ := Hr.out
      obtain ⟨O, hO⟩ : ∃ O, O = dq A B (n.toNat + 1) := ⟨_, rfl⟩
      rw [← hr] at e_xo hrr
      rw [← hO] at e_xq
      have HR := Lib.hid hr
      have HO := Lib.hid hO
      clear hr hO Hr
      (try clear c_xa); (try clear f_xa r_xa B_xa); obtain ⟨c_xa, f_xa, l_xa, r_xa, B_xa⟩ := blk_all e_xa; clear e_xa; (try clear c_xb); (try clear f_xb r_xb B_xb); obtain ⟨c_xb, f_xb, l_xb, r_xb, B_xb⟩ := blk_all e_xb; clear e_xb; (try clear c_xr); (try clear f_xr r_xr B_xr); obtain ⟨c_xr, f_xr, l_xr, r_xr, B_xr⟩ := blk_all e_xr; clear e_xr; (try clear c_xo); (try clear f_xo r_xo B_xo); obtain ⟨c_xo, f_xo, l_xo, r_xo, B_xo⟩ := blk_all e_xo; clear e_xo; (try clear c_xq); (try clear f_xq r_xq B_xq); obtain ⟨c_xq, f_xq, l_xq, r_xq, B_xq⟩ := blk_all e_xq; clear e_xq
      have wh : W64 (hi r) := by unfold W64 hi at hBh ⊢; omega
      obtain ⟨e1, e2⟩ := shl1 wh (W64_lo r) hb01.1 hb01.2
      have e3 := shl1_beyond wh (W64_lo r) hb01.1 hb01.2
      rw [val_hl] at e1 e2 e3
      obtain ⟨N, hN⟩ : ∃ N, N = 2 * r + bitAt A n := ⟨_, rfl⟩
      rw [← hN] at e1 e2 e3
      have HN := Lib.hid hN
      clear hN
      have E3 := Lib.hid e3
      clear e3
      have enn : ((n.toNat : Nat) : Int) = n := by omega
      have hWN : W64 (hi (w2 N)) := W64_hw2 N
      by_cases hlt : B ≤ N
      · have Hdr : Hid (dr A B n.toNat = N - B) := by
          have h := Hst.out.1
          rw [enn, ← HR.out, ← HN.out, if_pos hlt] at h; exact h
        have HdQ : Hid (dq A B n.toNat = O + 2 ^ n.toNat) := by
          have h := Hst.out.2
          rw [enn, ← HR.out, ← HN.out, if_pos hlt, ← HO.out] at h; exact h
        have hO4 : w4 O = O := by
          have h := Hle.out
          rw [← HO.out] at h
          unfold w4 at hA ⊢
          omega
        have Hm : Hid (O = 2 * 2 ^ n.toNat * (A / 2 ^ (n.toNat + 1) / B)) := by
          have h := Hmul.out
          rw [← HO.out] at h; exact h
        have hrest : w2 (w2 N - B) = N - B := by
          have h := HN.out
          unfold w2; unfold W64 hi at hBh
          omega
        have hr64 : (n % 64).toNat < 64 := by omega
        clear enn
        by_cases hbe : 0 < hi r / 9223372036854775808
        · have hbey : (hi r / 9223372036854775808 == 1) = true := by simp; unfold W64 at wh; omega
          clear hbe E3
          have hk : n / 64 = 0 ∨ n / 64 = 1 ∨ n / 64 = 2 ∨ n / 64 = 3 := by omega
          rcases hk with hk | hk | hk | hk
          · have HQ : Hid (q3 (dq A B n.toNat) = q3 O ∧ q2 (dq A B n.toNat) = q2 O ∧ q1 (dq A B n.toNat) = q1 O ∧ q0 (dq A B n.toNat) = bits .or .u64 (q0 O) (lo (2 ^ (n % 64).toNat))) := by
              have h := Hm.out
              have hn2 : n.toNat = (n % 64).toNat := by omega
              rw [HdQ.out]
              rw [hn2] at h ⊢
              exact q_set_0 hO4 h hr64
            clear Hm HdQ Hmul Hle Hst HR HO HN hlt hO4
            go_wp2_with fail
            refine wp_region_G (fun w' => w'.cell? ⟨w.heap.size + 1 + 1 + 1, 4, none⟩ = some (.int .u64 (hi r)) ∧ w'.cell? ⟨w.heap.size + 1 + 1 + 1, 5, none⟩ = some (.int .u64 (lo r)) ∧ w'.cell? ⟨w.heap.size, 0, none⟩ = some (.int .u64 (q3 A)) ∧ w'.cell? ⟨w.heap.size, 1, none⟩ = some (.int .u64 (q2 A)) ∧ w'.cell? ⟨w.heap.size, 2, none⟩ = some (.int .u64 (q1 A)) ∧ w'.cell? ⟨w.heap.size, 3, none⟩ = some (.int .u64 (q0 A))) 19 (by kernel_rfl) ?_ (fun hHeld => ?_)
            · exact pKp
            refine Gw.tk 0 rfl ?_
            (try simp only [pLy])
            refine Gw.tk 1 rfl ?_
            (try simp only [pLy])
            refine Gw.tk 2 rfl ?_
            (try simp only [pLy])
            refine Gw.tk 3 rfl ?_
            (try simp only [pLy])
            refine Gw.tk 4 rfl ?_
            (try simp only [pLy])
            refine Gw.tk 5 rfl ?_
            (try simp only [pLy])
            refine Gw.tk 6 rfl ?_
            (try simp only [pLy])
            refine Gw.tk 7 rfl ?_
            (try simp only [pLy])
            refine Gw.tk 8 rfl ?_
            (try simp only [pLy])
            refine Gw.tk 9 rfl ?_
            (try simp only [pLy])
            refine Gw.tk 10 rfl ?_
            (try simp only [pLy])
            refine Gw.tk 11 rfl ?_
            (try simp only [pLy])
            refine Gw.tk 12 rfl ?_
            (try simp only [pLy])
            refine Gw.tk 13 rfl ?_
            (try simp only [pLy])
            refine Gw.tk 14 rfl ?_
            (try simp only [pLy])
            refine Gw.one (i := 15) rfl (by kernel_rfl) (fun K hK => ?_)
            go_simp
            (go_at_call 118; refine (r1_bit A n _ hn (by omega)).mono ?_; rintro e u3 ⟨rfl, ho⟩; have hzu3 := Below.size ho; (try simp at hzu3); have HB2 : Hid (Below w.heap.size w u3) := Lib.hid (Below.trans (by exact pBl) (Below.mono ho pSd)); (try clear HB); have HB := HB2; clear HB2; have B2 := blk_below (g := w.heap.size) ho pSd; (try simp (disch := first | omega | (simp; done) | (simp; omega)) only [pBk] at B2); (try rw [Hid.out B_xa] at B2); (try simp only [pBk] at B2); (try clear c_xa f_xa r_xa B_xa); obtain ⟨c_xa, f_xa, l_u3_xa, r_xa, B_xa⟩ := blk_all B2; clear B2; have B2 := blk_below (g := w.heap.size + 1) ho pSd; (try simp (disch := first | omega | (simp; done) | (simp; omega)) only [pBk] at B2); (try rw [Hid.out B_xb] at B2); (try simp only [pBk] at B2); (try clear c_xb f_xb r_xb B_xb); obtain ⟨c_xb, f_xb, l_u3_xb, r_xb, B_xb⟩ := blk_all B2; clear B2; have B2 := blk_below (g := w.heap.size + 1 + 1) ho pSd; (try simp (disch := first | omega | (simp; done) | (simp; omega)) only [pBk] at B2); (try rw [Hid.out B_xr] at B2); (try simp only [pBk] at B2); (try clear c_xr f_xr r_xr B_xr); obtain ⟨c_xr, f_xr, l_u3_xr, r_xr, B_xr⟩ := blk_all B2; clear B2; have B2 := blk_below (g := w.heap.size + 1 + 1 + 1) ho pSd; (try simp (disch := first | omega | (simp; done) | (simp; omega)) only [pBk] at B2); (try rw [Hid.out B_xo] at B2); (try simp only [pBk] at B2); (try clear c_xo f_xo r_xo B_xo); obtain ⟨c_xo, f_xo, l_u3_xo, r_xo, B_xo⟩ := blk_all B2; clear B2; have B2 := blk_below (g := w.heap.size + 1 + 1 + 1 + 1) ho pSd; (try simp (disch := first | omega | (simp; done) | (simp; omega)) only [pBk] at B2); (try rw [Hid.out B_xq] at B2); (try simp only [pBk] at B2); (try clear c_xq f_xq r_xq B_xq); obtain ⟨c_xq, f_xq, l_u3_xq, r_xq, B_xq⟩ := blk_all B2; clear B2; clear ho)
            (try go_wp2_with fail)
            refine hK.out _ _ ?_ (fun hHeld => ?_)
            · exact pKp
            clear hK K
            (try simp only [pLy])
            refine Gw.tk 16 rfl ?_
            (try simp only [pLy])
            refine Gw.tk 17 rfl ?_
            (try simp only [pLy])
            refine Gw.tk 18 rfl ?_
            (try simp only [pLy])
            refine Gw.last (i := 19) rfl (by kernel_rfl) (by decide) (fun K hK => ?_)
            go_simp
            refine hK.out _ _ ?_
            clear hK K
            (try simp only [pLy])
            refine Gw.done (by kernel_rfl) ?_ _
            go_wp2_with (first | (go_at_call 88; refine (r1_SubTwo _ _ _ _ _ (by exact hWN) (by exact W64_lo _) (by exact hBh) (by exact W64_lo _)).mono ?_; rintro e u5 ⟨rfl, ho⟩; have hzu5 := Below.size ho; (try simp at hzu5); have HB2 : Hid (Below w.heap.size w u5) := Lib.hid (Below.trans (by exact pBl) (Below.mono ho pSd)); (try clear HB); have HB := HB2; clear HB2; have B2 := blk_below (g := w.heap.size) ho pSd; (try simp (disch := first | omega | (simp; done) | (simp; omega)) only [pBk] at B2); (try rw [Hid.out B_xa] at B2); (try simp only [pBk] at B2); (try clear c_xa f_xa r_xa B_xa); obtain ⟨c_xa, f_xa, l_u5_xa, r_xa, B_xa⟩ := blk_all B2; clear B2; have B2 := blk_below (g := w.heap.size + 1) ho pSd; (try simp (disch := first | omega | (simp; done) | (simp; omega)) only [pBk] at B2); (try rw [Hid.out B_xb] at B2); (try simp only [pBk] at B2); (try clear c_xb f_xb r_xb B_xb); obtain ⟨c_xb, f_xb, l_u5_xb, r_xb, B_xb⟩ := blk_all B2; clear B2; have B2 := blk_below (g := w.heap.size + 1 + 1) ho pSd; (try simp (disch := first | omega | (simp; done) | (simp; omega)) only [pBk] at B2); (try rw [Hid.out B_xr] at B2); (try simp only [pBk] at B2); (try clear c_xr f_xr r_xr B_xr); obtain ⟨c_xr, f_xr, l_u5_xr, r_xr, B_xr⟩ := blk_all B2; clear B2; have B2 := blk_below (g := w.heap.size + 1 + 1 + 1) ho pSd; (try simp (disch := first | omega | (simp; done) | (simp; omega)) only [pBk] at B2); (try rw [Hid.out B_xo] at B2); (try simp only [pBk] at B2); (try clear c_xo f_xo r_xo B_xo); obtain ⟨c_xo, f_xo, l_u5_xo, r_xo, B_xo⟩ := blk_all B2; clear B2; have B2 := blk_below (g := w.heap.size + 1 + 1 + 1 + 1) ho pSd; (try simp (disch := first | omega | (simp; done) | (simp; omega)) only [pBk] at B2); (try rw [Hid.out B_xq] at B2); (try simp only [pBk] at B2); (try clear c_xq f_xq r_xq B_xq); obtain ⟨c_xq, f_xq, l_u5_xq, r_xq, B_xq⟩ := blk_all B2; clear B2; clear ho))
            go_region
            go_wp2
            go_roundw
            case rel =>
              refine ⟨n - 1, by omega, by omega, rfl, ?_⟩
              have e' : (n - 1 + 1).toNat = n.toNat := by omega
              constructor
              case below => exact pBl
              all_goals (try rw [e', Hdr.out])
              all_goals (try rw [e', HQ.out.1, HQ.out.2.1, HQ.out.2.2.1, HQ.out.2.2.2])
              all_goals (try rw [← hrest])
              all_goals ((try simp (disch := first | omega | (simp; done) | (simp; omega)) only [pBk]); first | done | with_reducible rfl | with_reducible exact Hid.out (by assumption) | (with_reducible rw [Hid.out B_xa]; (try simp only [pBk]); first | done | with_reducible rfl) | (with_reducible rw [Hid.out B_xb]; (try simp only [pBk]); first | done | with_reducible rfl) | (with_reducible rw [Hid.out B_xr]; (try simp only [pBk]); first | done | with_reducible rfl) | (with_reducible rw [Hid.out B_xo]; (try simp only [pBk]); first | done | with_reducible rfl) | (with_reducible rw [Hid.out B_xq]; (try simp only [pBk]); first | done | with_reducible rfl))
            case measure => simp [intOf]; omega
          · have HQ : Hid (q3 (dq A B n.toNat) = q3 O ∧ q2 (dq A B n.toNat) = q2 O ∧ q1 (dq A B n.toNat) = bits .or .u64 (q1 O) (lo (2 ^ (n % 64).toNat)) ∧ q0 (dq A B n.toNat) = q0 O) := by
              have h := Hm.out
              have hn2 : n.toNat = 64 + (n % 64).toNat := by omega
              rw [HdQ.out]
              rw [hn2] at h ⊢
              exact q_set_1 hO4 h hr64
            clear Hm HdQ Hmul Hle Hst HR HO HN hlt hO4
            go_wp2_with fail
            refine wp_region_G (fun w' => w'.cell? ⟨w.heap.size + 1 + 1 + 1, 4, none⟩ = some (.int .u64 (hi r)) ∧ w'.cell? ⟨w.heap.size + 1 + 1 + 1, 5, none⟩ = some (.int .u64 (lo r)) ∧ w'.cell? ⟨w.heap.size, 0, none⟩ = some (.int .u64 (q3 A)) ∧ w'.cell? ⟨w.heap.size, 1, none⟩ = some (.int .u64 (q2 A)) ∧ w'.cell? ⟨w.heap.size, 2, none⟩ = some (.int .u64 (q1 A)) ∧ w'.cell? ⟨w.heap.size, 3, none⟩ = some (.int .u64 (q0 A))) 19 (by kernel_rfl) ?_ (fun hHeld => ?_)
            · exact pKp
            refine Gw.tk 0 rfl ?_
            (try simp only [pLy])
            refine Gw.tk 1 rfl ?_
            (try simp only [pLy])
            refine Gw.tk 2 rfl ?_
            (try simp only [pLy])
            refine Gw.tk 3 rfl ?_
            (try simp only [pLy])
            refine Gw.tk 4 rfl ?_
            (try simp only [pLy])
            refine Gw.tk 5 rfl ?_
            (try simp only [pLy])
            refine Gw.tk 6 rfl ?_
            (try simp only [pLy])
            refine Gw.tk 7 rfl ?_
            (try simp only [pLy])
            refine Gw.tk 8 rfl ?_
            (try simp only [pLy])
            refine Gw.tk 9 rfl ?_
            (try simp only [pLy])
            refine Gw.tk 10 rfl ?_
            (try simp only [pLy])
            refine Gw.tk 11 rfl ?_
            (try simp only [pLy])
            refine Gw.tk 12 rfl ?_
            (try simp only [pLy])
            refine Gw.tk 13 rfl ?_
            (try simp only [pLy])
            refine Gw.tk 14 rfl ?_
            (try simp only [pLy])
            refine Gw.one (i := 15) rfl (by kernel_rfl) (fun K hK => ?_)
            go_simp
            (go_at_call 118; refine (r1_bit A n _ hn (by omega)).mono ?_; rintro e u3 ⟨rfl, ho⟩; have hzu3 := Below.size ho; (try simp at hzu3); have HB2 : Hid (Below w.heap.size w u3) := Lib.hid (Below.trans (by exact pBl) (Below.mono ho pSd)); (try clear HB); have HB := HB2; clear HB2; have B2 := blk_below (g := w.heap.size) ho pSd; (try simp (disch := first | omega | (simp; done) | (simp; omega)) only [pBk] at B2); (try rw [Hid.out B_xa] at B2); (try simp only [pBk] at B2); (try clear c_xa f_xa r_xa B_xa); obtain ⟨c_xa, f_xa, l_u3_xa, r_xa, B_xa⟩ := blk_all B2; clear B2; have B2 := blk_below (g := w.heap.size + 1) ho pSd; (try simp (disch := first | omega | (simp; done) | (simp; omega)) only [pBk] at B2); (try rw [Hid.out B_xb] at B2); (try simp only [pBk] at B2); (try clear c_xb f_xb r_xb B_xb); obtain ⟨c_xb, f_xb, l_u3_xb, r_xb, B_xb⟩ := blk_all B2; clear B2; have B2 := blk_below (g := w.heap.size + 1 + 1) ho pSd; (try simp (disch := first | omega | (simp; done) | (simp; omega)) only [pBk] at B2); (try rw [Hid.out B_xr] at B2); (try simp only [pBk] at B2); (try clear c_xr f_xr r_xr B_xr); obtain ⟨c_xr, f_xr, l_u3_xr, r_xr, B_xr⟩ := blk_all B2; clear B2; have B2 := blk_below (g := w.heap.size + 1 + 1 + 1) ho pSd; (try simp (disch := first | omega | (simp; done) | (simp; omega)) only [pBk] at B2); (try rw [Hid.out B_xo] at B2); (try simp only [pBk] at B2); (try clear c_xo f_xo r_xo B_xo); obtain ⟨c_xo, f_xo, l_u3_xo, r_xo, B_xo⟩ := blk_all B2; clear B2; have B2 := blk_below (g := w.heap.size + 1 + 1 + 1 + 1) ho pSd; (try simp (disch := first | omega | (simp; done) | (simp; omega)) only [pBk] at B2); (try rw [Hid.out B_xq] at B2); (try simp only [pBk] at B2); (try clear c_xq f_xq r_xq B_xq); obtain ⟨c_xq, f_xq, l_u3_xq, r_xq, B_xq⟩ := blk_all B2; clear B2; clear ho)
            (try go_wp2_with fail)
            refine hK.out _ _ ?_ (fun hHeld => ?_)
            · exact pKp
            clear hK K
            (try simp only [pLy])
            refine Gw.tk 16 rfl ?_
            (try simp only [pLy])
            refine Gw.tk 17 rfl ?_
            (try simp only [pLy])
            refine Gw.tk 18 rfl ?_
            (try simp only [pLy])
            refine Gw.last (i := 19) rfl (by kernel_rfl) (by decide) (fun K hK => ?_)
            go_simp
            refine hK.out _ _ ?_
            clear hK K
            (try simp only [pLy])
            refine Gw.done (by kernel_rfl) ?_ _
            go_wp2_with (first | (go_at_call 88; refine (r1_SubTwo _ _ _ _ _ (by exact hWN) (by exact W64_lo _) (by exact hBh) (by exact W64_lo _)).mono ?_; rintro e u5 ⟨rfl, ho⟩; have hzu5 := Below.size ho; (try simp at hzu5); have HB2 : Hid (Below w.heap.size w u5) := Lib.hid (Below.trans (by exact pBl) (Below.mono ho pSd)); (try clear HB); have HB := HB2; clear HB2; have B2 := blk_below (g := w.heap.size) ho pSd; (try simp (disch := first | omega | (simp; done) | (simp; omega)) only [pBk] at B2); (try rw [Hid.out B_xa] at B2); (try simp only [pBk] at B2); (try clear c_xa f_xa r_xa B_xa); obtain ⟨c_xa, f_xa, l_u5_xa, r_xa, B_xa⟩ := blk_all B2; clear B2; have B2 := blk_below (g := w.heap.size + 1) ho pSd; (try simp (disch := first | omega | (simp; done) | (simp; omega)) only [pBk] at B2); (try rw [Hid.out B_xb] at B2); (try simp only [pBk] at B2); (try clear c_xb f_xb r_xb B_xb); obtain ⟨c_xb, f_xb, l_u5_xb, r_xb, B_xb⟩ := blk_all B2; clear B2; have B2 := blk_below (g := w.heap.size + 1 + 1) ho pSd; (try simp (disch := first | omega | (simp; done) | (simp; omega)) only [pBk] at B2); (try rw [Hid.out B_xr] at B2); (try simp only [pBk] at B2); (try clear c_xr f_xr r_xr B_xr); obtain ⟨c_xr, f_xr, l_u5_xr, r_xr, B_xr⟩ := blk_all B2; clear B2; have B2 := blk_below (g := w.heap.size + 1 + 1 + 1) ho pSd; (try simp (disch := first | omega | (simp; done) | (simp; omega)) only [pBk] at B2); (try rw [Hid.out B_xo] at B2); (try simp only [pBk] at B2); (try clear c_xo f_xo r_xo B_xo); obtain ⟨c_xo, f_xo, l_u5_xo, r_xo, B_xo⟩ := blk_all B2; clear B2; have B2 := blk_below (g := w.heap.size + 1 + 1 + 1 + 1) ho pSd; (try simp (disch := first | omega | (simp; done) | (simp; omega)) only [pBk] at B2); (try rw [Hid.out B_xq] at B2); (try simp only [pBk] at B2); (try clear c_xq f_xq r_xq B_xq); obtain ⟨c_xq, f_xq, l_u5_xq, r_xq, B_xq⟩ := blk_all B2; clear B2; clear ho))
            go_region
            go_wp2
            go_roundw
            case rel =>
              refine ⟨n - 1, by omega, by omega, rfl, ?_⟩
              have e' : (n - 1 + 1).toNat = n.toNat := by omega
              constructor
              case below => exact pBl
              all_goals (try rw [e', Hdr.out])
              all_goals (try rw [e', HQ.out.1, HQ.out.2.1, HQ.out.2.2.1, HQ.out.2.2.2])
              all_goals (try rw [← hrest])
              all_goals ((try simp (disch := first | omega | (simp; done) | (simp; omega)) only [pBk]); first | done | with_reducible rfl | with_reducible exact Hid.out (by assumption) | (with_reducible rw [Hid.out B_xa]; (try simp only [pBk]); first | done | with_reducible rfl) | (with_reducible rw [Hid.out B_xb]; (try simp only [pBk]); first | done | with_reducible rfl) | (with_reducible rw [Hid.out B_xr]; (try simp only [pBk]); first | done | with_reducible rfl) | (with_reducible rw [Hid.out B_xo]; (try simp only [pBk]); first | done | with_reducible rfl) | (with_reducible rw [Hid.out B_xq]; (try simp only [pBk]); first | done | with_reducible rfl))
            case measure => simp [intOf]; omega
          · have HQ : Hid (q3 (dq A B n.toNat) = q3 O ∧ q2 (dq A B n.toNat) = bits .or .u64 (q2 O) (lo (2 ^ (n % 64).toNat)) ∧ q1 (dq A B n.toNat) = q1 O ∧ q0 (dq A B n.toNat) = q0 O) := by
              have h := Hm.out
              have hn2 : n.toNat = 128 + (n % 64).toNat := by omega
              rw [HdQ.out]
              rw [hn2] at h ⊢
              exact q_set_2 hO4 h hr64
            clear Hm HdQ Hmul Hle Hst HR HO HN hlt hO4
            go_wp2_with fail
            refine wp_region_G (fun w' => w'.cell? ⟨w.heap.size + 1 + 1 + 1, 4, none⟩ = some (.int .u64 (hi r)) ∧ w'.cell? ⟨w.heap.size + 1 + 1 + 1, 5, none⟩ = some (.int .u64 (lo r)) ∧ w'.cell? ⟨w.heap.size, 0, none⟩ = some (.int .u64 (q3 A)) ∧ w'.cell? ⟨w.heap.size, 1, none⟩ = some (.int .u64 (q2 A)) ∧ w'.cell? ⟨w.heap.size, 2, none⟩ = some (.int .u64 (q1 A)) ∧ w'.cell? ⟨w.heap.size, 3, none⟩ = some (.int .u64 (q0 A))) 19 (by kernel_rfl) ?_ (fun hHeld => ?_)
            · exact pKp
            refine Gw.tk 0 rfl ?_
            (try simp only [pLy])
            refine Gw.tk 1 rfl ?_
            (try simp only [pLy])
            refine Gw.tk 2 rfl ?_
            (try simp only [pLy])
            refine Gw.tk 3 rfl ?_
            (try simp only [pLy])
            refine Gw.tk 4 rfl ?_
            (try simp only [pLy])
            refine Gw.tk 5 rfl ?_
            (try simp only [pLy])
            refine Gw.tk 6 rfl ?_
            (try simp only [pLy])
            refine Gw.tk 7 rfl ?_
            (try simp only [pLy])
            refine Gw.tk 8 rfl ?_
            (try simp only [pLy])
            refine Gw.tk 9 rfl ?_
            (try simp only [pLy])
            refine Gw.tk 10 rfl ?_
            (try simp only [pLy])
            refine Gw.tk 11 rfl ?_
            (try simp only [pLy])
            refine Gw.tk 12 rfl ?_
            (try simp only [pLy])
            refine Gw.tk 13 rfl ?_
            (try simp only [pLy])
            refine Gw.tk 14 rfl ?_
            (try simp only [pLy])
            refine Gw.one (i := 15) rfl (by kernel_rfl) (fun K hK => ?_)
            go_simp
            (go_at_call 118; refine (r1_bit A n _ hn (by omega)).mono ?_; rintro e u3 ⟨rfl, ho⟩; have hzu3 := Below.size ho; (try simp at hzu3); have HB2 : Hid (Below w.heap.size w u3) := Lib.hid (Below.trans (by exact pBl) (Below.mono ho pSd)); (try clear HB); have HB := HB2; clear HB2; have B2 := blk_below (g := w.heap.size) ho pSd; (try simp (disch := first | omega | (simp; done) | (simp; omega)) only [pBk] at B2); (try rw [Hid.out B_xa] at B2); (try simp only [pBk] at B2); (try clear c_xa f_xa r_xa B_xa); obtain ⟨c_xa, f_xa, l_u3_xa, r_xa, B_xa⟩ := blk_all B2; clear B2; have B2 := blk_below (g := w.heap.size + 1) ho pSd; (try simp (disch := first | omega | (simp; done) | (simp; omega)) only [pBk] at B2); (try rw [Hid.out B_xb] at B2); (try simp only [pBk] at B2); (try clear c_xb f_xb r_xb B_xb); obtain ⟨c_xb, f_xb, l_u3_xb, r_xb, B_xb⟩ := blk_all B2; clear B2; have B2 := blk_below (g := w.heap.size + 1 + 1) ho pSd; (try simp (disch := first | omega | (simp; done) | (simp; omega)) only [pBk] at B2); (try rw [Hid.out B_xr] at B2); (try simp only [pBk] at B2); (try clear c_xr f_xr r_xr B_xr); obtain ⟨c_xr, f_xr, l_u3_xr, r_xr, B_xr⟩ := blk_all B2; clear B2; have B2 := blk_below (g := w.heap.size + 1 + 1 + 1) ho pSd; (try simp (disch := first | omega | (simp; done) | (simp; omega)) only [pBk] at B2); (try rw [Hid.out B_xo] at B2); (try simp only [pBk] at B2); (try clear c_xo f_xo r_xo B_xo); obtain ⟨c_xo, f_xo, l_u3_xo, r_xo, B_xo⟩ := blk_all B2; clear B2; have B2 := blk_below (g := w.heap.size + 1 + 1 + 1 + 1) ho pSd; (try simp (disch := first | omega | (simp; done) | (simp; omega)) only [pBk] at B2); (try rw [Hid.out B_xq] at B2); (try simp only [pBk] at B2); (try clear c_xq f_xq r_xq B_xq); obtain ⟨c_xq, f_xq, l_u3_xq, r_xq, B_xq⟩ := blk_all B2; clear B2; clear ho)
            (try go_wp2_with fail)
            refine hK.out _ _ ?_ (fun hHeld => ?_)
            · exact pKp
            clear hK K
            (try simp only [pLy])
            refine Gw.tk 16 rfl ?_
            (try simp only [pLy])
            refine Gw.tk 17 rfl ?_
            (try simp only [pLy])
            refine Gw.tk 18 rfl ?_
            (try simp only [pLy])
            refine Gw.last (i := 19) rfl (by kernel_rfl) (by decide) (fun K hK => ?_)
            go_simp
            refine hK.out _ _ ?_
            clear hK K
            (try simp only [pLy])
            refine Gw.done (by kernel_rfl) ?_ _
            go_wp2_with (first | (go_at_call 88; refine (r1_SubTwo _ _ _ _ _ (by exact hWN) (by exact W64_lo _) (by exact hBh) (by exact W64_lo _)).mono ?_; rintro e u5 ⟨rfl, ho⟩; have hzu5 := Below.size ho; (try simp at hzu5); have HB2 : Hid (Below w.heap.size w u5) := Lib.hid (Below.trans (by exact pBl) (Below.mono ho pSd)); (try clear HB); have HB := HB2; clear HB2; have B2 := blk_below (g := w.heap.size) ho pSd; (try simp (disch := first | omega | (simp; done) | (simp; omega)) only [pBk] at B2); (try rw [Hid.out B_xa] at B2); (try simp only [pBk] at B2); (try clear c_xa f_xa r_xa B_xa); obtain ⟨c_xa, f_xa, l_u5_xa, r_xa, B_xa⟩ := blk_all B2; clear B2; have B2 := blk_below (g := w.heap.size + 1) ho pSd; (try simp (disch := first | omega | (simp; done) | (simp; omega)) only [pBk] at B2); (try rw [Hid.out B_xb] at B2); (try simp only [pBk] at B2); (try clear c_xb f_xb r_xb B_xb); obtain ⟨c_xb, f_xb, l_u5_xb, r_xb, B_xb⟩ := blk_all B2; clear B2; have B2 := blk_below (g := w.heap.size + 1 + 1) ho pSd; (try simp (disch := first | omega | (simp; done) | (simp; omega)) only [pBk] at B2); (try rw [Hid.out B_xr] at B2); (try simp only [pBk] at B2); (try clear c_xr f_xr r_xr B_xr); obtain ⟨c_xr, f_xr, l_u5_xr, r_xr, B_xr⟩ := blk_all B2; clear B2; have B2 := blk_below (g := w.heap.size + 1 + 1 + 1) ho pSd; (try simp (disch := first | omega | (simp; done) | (simp; omega)) only [pBk] at B2); (try rw [Hid.out B_xo] at B2); (try simp only [pBk] at B2); (try clear c_xo f_xo r_xo B_xo); obtain ⟨c_xo, f_xo, l_u5_xo, r_xo, B_xo⟩ := blk_all B2; clear B2; have B2 := blk_below (g := w.heap.size + 1 + 1 + 1 + 1) ho pSd; (try simp (disch := first | omega | (simp; done) | (simp; omega)) only [pBk] at B2); (try rw [Hid.out B_xq] at B2); (try simp only [pBk] at B2); (try clear c_xq f_xq r_xq B_xq); obtain ⟨c_xq, f_xq, l_u5_xq, r_xq, B_xq⟩ := blk_all B2; clear B2; clear ho))
            go_region
            go_wp2
            go_roundw
            case rel =>
              refine ⟨n - 1, by omega, by omega, rfl, ?_⟩
              have e' : (n - 1 + 1).toNat = n.toNat := by omega
              constructor
              case below => exact pBl
              all_goals (try rw [e', Hdr.out])
              all_goals (try rw [e', HQ.out.1, HQ.out.2.1, HQ.out.2.2.1, HQ.out.2.2.2])
              all_goals (try rw [← hrest])
              all_goals ((try simp (disch := first | omega | (simp; done) | (simp; omega)) only [pBk]); first | done | with_reducible rfl | with_reducible exact Hid.out (by assumption) | (with_reducible rw [Hid.out B_xa]; (try simp only [pBk]); first | done | with_reducible rfl) | (with_reducible rw [Hid.out B_xb]; (try simp only [pBk]); first | done | with_reducible rfl) | (with_reducible rw [Hid.out B_xr]; (try simp only [pBk]); first | done | with_reducible rfl) | (with_reducible rw [Hid.out B_xo]; (try simp only [pBk]); first | done | with_reducible rfl) | (with_reducible rw [Hid.out B_xq]; (try simp only [pBk]); first | done | with_reducible rfl))
            case measure => simp [intOf]; omega
          · have HQ : Hid (q3 (dq A B n.toNat) = bits .or .u64 (q3 O) (lo (2 ^ (n % 64).toNat)) ∧ q2 (dq A B n.toNat) = q2 O ∧ q1 (dq A B n.toNat) = q1 O ∧ q0 (dq A B n.toNat) = q0 O) := by
              have h := Hm.out
              have hn2 : n.toNat = 192 + (n % 64).toNat := by omega
              rw [HdQ.out]
              rw [hn2] at h ⊢
              exact q_set_3 hO4 h hr64
            clear Hm HdQ Hmul Hle Hst HR HO HN hlt hO4
            go_wp2_with fail
            refine wp_region_G (fun w' => w'.cell? ⟨w.heap.size + 1 + 1 + 1, 4, none⟩ = some (.int .u64 (hi r)) ∧ w'.cell? ⟨w.heap.size + 1 + 1 + 1, 5, none⟩ = some (.int .u64 (lo r)) ∧ w'.cell? ⟨w.heap.size, 0, none⟩ = some (.int .u64 (q3 A)) ∧ w'.cell? ⟨w.heap.size, 1, none⟩ = some (.int .u64 (q2 A)) ∧ w'.cell? ⟨w.heap.size, 2, none⟩ = some (.int .u64 (q1 A)) ∧ w'.cell? ⟨w.heap.size, 3, none⟩ = some (.int .u64 (q0 A))) 19 (by kernel_rfl) ?_ (fun hHeld => ?_)
            · exact pKp
            refine Gw.tk 0 rfl ?_
            (try simp only [pLy])
            refine Gw.tk 1 rfl ?_
            (try simp only [pLy])
            refine Gw.tk 2 rfl ?_
            (try simp only [pLy])
            refine Gw.tk 3 rfl ?_
            (try simp only [pLy])
            refine Gw.tk 4 rfl ?_
            (try simp only [pLy])
            refine Gw.tk 5 rfl ?_
            (try simp only [pLy])
            refine Gw.tk 6 rfl ?_
            (try simp only [pLy])
            refine Gw.tk 7 rfl ?_
            (try simp only [pLy])
            refine Gw.tk 8 rfl ?_
            (try simp only [pLy])
            refine Gw.tk 9 rfl ?_
            (try simp only [pLy])
            refine Gw.tk 10 rfl ?_
            (try simp only [pLy])
            refine Gw.tk 11 rfl ?_
            (try simp only [pLy])
            refine Gw.tk 12 rfl ?_
            (try simp only [pLy])
            refine Gw.tk 13 rfl ?_
            (try simp only [pLy])
            refine Gw.tk 14 rfl ?_
            (try simp only [pLy])
            refine Gw.one (i := 15) rfl (by kernel_rfl) (fun K hK => ?_)
            go_simp
            (go_at_call 118; refine (r1_bit A n _ hn (by omega)).mono ?_; rintro e u3 ⟨rfl, ho⟩; have hzu3 := Below.size ho; (try simp at hzu3); have HB2 : Hid (Below w.heap.size w u3) := Lib.hid (Below.trans (by exact pBl) (Below.mono ho pSd)); (try clear HB); have HB := HB2; clear HB2; have B2 := blk_below (g := w.heap.size) ho pSd; (try simp (disch := first | omega | (simp; done) | (simp; omega)) only [pBk] at B2); (try rw [Hid.out B_xa] at B2); (try simp only [pBk] at B2); (try clear c_xa f_xa r_xa B_xa); obtain ⟨c_xa, f_xa, l_u3_xa, r_xa, B_xa⟩ := blk_all B2; clear B2; have B2 := blk_below (g := w.heap.size + 1) ho pSd; (try simp (disch := first | omega | (simp; done) | (simp; omega)) only [pBk] at B2); (try rw [Hid.out B_xb] at B2); (try simp only [pBk] at B2); (try clear c_xb f_xb r_xb B_xb); obtain ⟨c_xb, f_xb, l_u3_xb, r_xb, B_xb⟩ := blk_all B2; clear B2; have B2 := blk_below (g := w.heap.size + 1 + 1) ho pSd; (try simp (disch := first | omega | (simp; done) | (simp; omega)) only [pBk] at B2); (try rw [Hid.out B_xr] at B2); (try simp only [pBk] at B2); (try clear c_xr f_xr r_xr B_xr); obtain ⟨c_xr, f_xr, l_u3_xr, r_xr, B_xr⟩ := blk_all B2; clear B2; have B2 := blk_below (g := w.heap.size + 1 + 1 + 1) ho pSd; (try simp (disch := first | omega | (simp; done) | (simp; omega)) only [pBk] at B2); (try rw [Hid.out B_xo] at B2); (try simp only [pBk] at B2); (try clear c_xo f_xo r_xo B_xo); obtain ⟨c_xo, f_xo, l_u3_xo, r_xo, B_xo⟩ := blk_all B2; clear B2; have B2 := blk_below (g := w.heap.size + 1 + 1 + 1 + 1) ho pSd; (try simp (disch := first | omega | (simp; done) | (simp; omega)) only [pBk] at B2); (try rw [Hid.out B_xq] at B2); (try simp only [pBk] at B2); (try clear c_xq f_xq r_xq B_xq); obtain ⟨c_xq, f_xq, l_u3_xq, r_xq, B_xq⟩ := blk_all B2; clear B2; clear ho)
            (try go_wp2_with fail)
            refine hK.out _ _ ?_ (fun hHeld => ?_)
            · exact pKp
            clear hK K
            (try simp only [pLy])
            refine Gw.tk 16 rfl ?_
            (try simp only [pLy])
            refine Gw.tk 17 rfl ?_
            (try simp only [pLy])
            refine Gw.tk 18 rfl ?_
            (try simp only [pLy])
            refine Gw.last (i := 19) rfl (by kernel_rfl) (by decide) (fun K hK => ?_)
            go_simp
            refine hK.out _ _ ?_
            clear hK K
            (try simp only [pLy])
            refine Gw.done (by kernel_rfl) ?_ _
            go_wp2_with (first | (go_at_call 88; refine (r1_SubTwo _ _ _ _ _ (by exact hWN) (by exact W64_lo _) (by exact hBh) (by exact W64_lo _)).mono ?_; rintro e u5 ⟨rfl, ho⟩; have hzu5 := Below.size ho; (try simp at hzu5); have HB2 : Hid (Below w.heap.size w u5) := Lib.hid (Below.trans (by exact pBl) (Below.mono ho pSd)); (try clear HB); have HB := HB2; clear HB2; have B2 := blk_below (g := w.heap.size) ho pSd; (try simp (disch := first | omega | (simp; done) | (simp; omega)) only [pBk] at B2); (try rw [Hid.out B_xa] at B2); (try simp only [pBk] at B2); (try clear c_xa f_xa r_xa B_xa); obtain ⟨c_xa, f_xa, l_u5_xa, r_xa, B_xa⟩ := blk_all B2; clear B2; have B2 := blk_below (g := w.heap.size + 1) ho pSd; (try simp (disch := first | omega | (simp; done) | (simp; omega)) only [pBk] at B2); (try rw [Hid.out B_xb] at B2); (try simp only [pBk] at B2); (try clear c_xb f_xb r_xb B_xb); obtain ⟨c_xb, f_xb, l_u5_xb, r_xb, B_xb⟩ := blk_all B2; clear B2; have B2 := blk_below (g := w.heap.size + 1 + 1) ho pSd; (try simp (disch := first | omega | (simp; done) | (simp; omega)) only [pBk] at B2); (try rw [Hid.out B_xr] at B2); (try simp only [pBk] at B2); (try clear c_xr f_xr r_xr B_xr); obtain ⟨c_xr, f_xr, l_u5_xr, r_xr, B_xr⟩ := blk_all B2; clear B2; have B2 := blk_below (g := w.heap.size + 1 + 1 + 1) ho pSd; (try simp (disch := first | omega | (simp; done) | (simp; omega)) only [pBk] at B2); (try rw [Hid.out B_xo] at B2); (try simp only [pBk] at B2); (try clear c_xo f_xo r_xo B_xo); obtain ⟨c_xo, f_xo, l_u5_xo, r_xo, B_xo⟩ := blk_all B2; clear B2; have B2 := blk_below (g := w.heap.size + 1 + 1 + 1 + 1) ho pSd; (try simp (disch := first | omega | (simp; done) | (simp; omega)) only [pBk] at B2); (try rw [Hid.out B_xq] at B2); (try simp only [pBk] at B2); (try clear c_xq f_xq r_xq B_xq); obtain ⟨c_xq, f_xq, l_u5_xq, r_xq, B_xq⟩ := blk_all B2; clear B2; clear ho))
            go_region
            go_wp2
            go_roundw
            case rel =>
              refine ⟨n - 1, by omega, by omega, rfl, ?_⟩
              have e' : (n - 1 + 1).toNat = n.toNat := by omega
              constructor
              case below => exact pBl
              all_goals (try rw [e', Hdr.out])
              all_goals (try rw [e', HQ.out.1, HQ.out.2.1, HQ.out.2.2.1, HQ.out.2.2.2])
              all_goals (try rw [← hrest])
              all_goals ((try simp (disch := first | omega | (simp; done) | (simp; omega)) only [pBk]); first | done | with_reducible rfl | with_reducible exact Hid.out (by assumption) | (with_reducible rw [Hid.out B_xa]; (try simp only [pBk]); first | done | with_reducible rfl) | (with_reducible rw [Hid.out B_xb]; (try simp only [pBk]); first | done | with_reducible rfl) | (with_reducible rw [Hid.out B_xr]; (try simp only [pBk]); first | done | with_reducible rfl) | (with_reducible rw [Hid.out B_xo]; (try simp only [pBk]); first | done | with_reducible rfl) | (with_reducible rw [Hid.out B_xq]; (try simp only [pBk]); first | done | with_reducible rfl))
            case measure => simp [intOf]; omega
        · have hbey : (hi r / 9223372036854775808 == 1) = false := by simp; omega
          have hwN : w2 N = N := by
            have h := HN.out
            have h2 := E3.out
            unfold w2; omega
          have hless : decide (N < B) = false := by simp; omega
          rw [hwN] at hrest hWN
          clear hbe E3
          have hk : n / 64 = 0 ∨ n / 64 = 1 ∨ n / 64 = 2 ∨ n / 64 = 3 := by omega
          rcases hk with hk | hk | hk | hk
          · have HQ : Hid (q3 (dq A B n.toNat) = q3 O ∧ q2 (dq A B n.toNat) = q2 O ∧ q1 (dq A B n.toNat) = q1 O ∧ q0 (dq A B n.toNat) = bits .or .u64 (q0 O) (lo (2 ^ (n % 64).toNat))) := by
              have h := Hm.out
              have hn2 : n.toNat = (n % 64).toNat := by omega
              rw [HdQ.out]
              rw [hn2] at h ⊢
              exact q_set_0 hO4 h hr64
            clear Hm HdQ Hmul Hle Hst HR HO HN hlt hO4
            go_wp2_with fail
            refine wp_region_G (fun w' => w'.cell? ⟨w.heap.size + 1 + 1 + 1, 4, none⟩ = some (.int .u64 (hi r)) ∧ w'.cell? ⟨w.heap.size + 1 + 1 + 1, 5, none⟩ = some (.int .u64 (lo r)) ∧ w'.cell? ⟨w.heap.size, 0, none⟩ = some (.int .u64 (q3 A)) ∧ w'.cell? ⟨w.heap.size, 1, none⟩ = some (.int .u64 (q2 A)) ∧ w'.cell? ⟨w.heap.size, 2, none⟩ = some (.int .u64 (q1 A)) ∧ w'.cell? ⟨w.heap.size, 3, none⟩ = some (.int .u64 (q0 A))) 19 (by kernel_rfl) ?_ (fun hHeld => ?_)
            · exact pKp
            refine Gw.tk 0 rfl ?_
            (try simp only [pLy])
            refine Gw.tk 1 rfl ?_
            (try simp only [pLy])
            refine Gw.tk 2 rfl ?_
            (try simp only [pLy])
            refine Gw.tk 3 rfl ?_
            (try simp only [pLy])
            refine Gw.tk 4 rfl ?_
            (try simp only [pLy])
            refine Gw.tk 5 rfl ?_
            (try simp only [pLy])
            refine Gw.tk 6 rfl ?_
            (try simp only [pLy])
            refine Gw.tk 7 rfl ?_
            (try simp only [pLy])
            refine Gw.tk 8 rfl ?_
            (try simp only [pLy])
            refine Gw.tk 9 rfl ?_
            (try simp only [pLy])
            refine Gw.tk 10 rfl ?_
            (try simp only [pLy])
            refine Gw.tk 11 rfl ?_
            (try simp only [pLy])
            refine Gw.tk 12 rfl ?_
            (try simp only [pLy])
            refine Gw.tk 13 rfl ?_
            (try simp only [pLy])
            refine Gw.tk 14 rfl ?_
            (try simp only [pLy])
            refine Gw.one (i := 15) rfl (by kernel_rfl) (fun K hK => ?_)
            go_simp
            (go_at_call 118; refine (r1_bit A n _ hn (by omega)).mono ?_; rintro e u3 ⟨rfl, ho⟩; have hzu3 := Below.size ho; (try simp at hzu3); have HB2 : Hid (Below w.heap.size w u3) := Lib.hid (Below.trans (by exact pBl) (Below.mono ho pSd)); (try clear HB); have HB := HB2; clear HB2; have B2 := blk_below (g := w.heap.size) ho pSd; (try simp (disch := first | omega | (simp; done) | (simp; omega)) only [pBk] at B2); (try rw [Hid.out B_xa] at B2); (try simp only [pBk] at B2); (try clear c_xa f_xa r_xa B_xa); obtain ⟨c_xa, f_xa, l_u3_xa, r_xa, B_xa⟩ := blk_all B2; clear B2; have B2 := blk_below (g := w.heap.size + 1) ho pSd; (try simp (disch := first | omega | (simp; done) | (simp; omega)) only [pBk] at B2); (try rw [Hid.out B_xb] at B2); (try simp only [pBk] at B2); (try clear c_xb f_xb r_xb B_xb); obtain ⟨c_xb, f_xb, l_u3_xb, r_xb, B_xb⟩ := blk_all B2; clear B2; have B2 := blk_below (g := w.heap.size + 1 + 1) ho pSd; (try simp (disch := first | omega | (simp; done) | (simp; omega)) only [pBk] at B2); (try rw [Hid.out B_xr] at B2); (try simp only [pBk] at B2); (try clear c_xr f_xr r_xr B_xr); obtain ⟨c_xr, f_xr, l_u3_xr, r_xr, B_xr⟩ := blk_all B2; clear B2; have B2 := blk_below (g := w.heap.size + 1 + 1 + 1) ho pSd; (try simp (disch := first | omega | (simp; done) | (simp; omega)) only [pBk] at B2); (try rw [Hid.out B_xo] at B2); (try simp only [pBk] at B2); (try clear c_xo f_xo r_xo B_xo); obtain ⟨c_xo, f_xo, l_u3_xo, r_xo, B_xo⟩ := blk_all B2; clear B2; have B2 := blk_below (g := w.heap.size + 1 + 1 + 1 + 1) ho pSd; (try simp (disch := first | omega | (simp; done) | (simp; omega)) only [pBk] at B2); (try rw [Hid.out B_xq] at B2); (try simp only [pBk] at B2); (try clear c_xq f_xq r_xq B_xq); obtain ⟨c_xq, f_xq, l_u3_xq, r_xq, B_xq⟩ := blk_all B2; clear B2; clear ho)
            (try go_wp2_with fail)
            refine hK.out _ _ ?_ (fun hHeld => ?_)
            · exact pKp
            clear hK K
            (try simp only [pLy])
            refine Gw.tk 16 rfl ?_
            (try simp only [pLy])
            refine Gw.tk 17 rfl ?_
            (try simp only [pLy])
            refine Gw.tk 18 rfl ?_
            (try simp only [pLy])
            refine Gw.last (i := 19) rfl (by kernel_rfl) (by decide) (fun K hK => ?_)
            go_simp
            refine hK.out _ _ ?_
            clear hK K
            (try simp only [pLy])
            refine Gw.done (by kernel_rfl) ?_ _
            go_wp2_with (first | (go_at_call 25; refine (r1_Less _ _ _ _ _ (by exact W64_lo _) (by exact W64_lo _)).mono ?_; rintro e u4 ⟨rfl, ho⟩; have hzu4 := Below.size ho; (try simp at hzu4); have HB2 : Hid (Below w.heap.size w u4) := Lib.hid (Below.trans (by exact pBl) (Below.mono ho pSd)); (try clear HB); have HB := HB2; clear HB2; have B2 := blk_below (g := w.heap.size) ho pSd; (try simp (disch := first | omega | (simp; done) | (simp; omega)) only [pBk] at B2); (try rw [Hid.out B_xa] at B2); (try simp only [pBk] at B2); (try clear c_xa f_xa r_xa B_xa); obtain ⟨c_xa, f_xa, l_u4_xa, r_xa, B_xa⟩ := blk_all B2; clear B2; have B2 := blk_below (g := w.heap.size + 1) ho pSd; (try simp (disch := first | omega | (simp; done) | (simp; omega)) only [pBk] at B2); (try rw [Hid.out B_xb] at B2); (try simp only [pBk] at B2); (try clear c_xb f_xb r_xb B_xb); obtain ⟨c_xb, f_xb, l_u4_xb, r_xb, B_xb⟩ := blk_all B2; clear B2; have B2 := blk_below (g := w.heap.size + 1 + 1) ho pSd; (try simp (disch := first | omega | (simp; done) | (simp; omega)) only [pBk] at B2); (try rw [Hid.out B_xr] at B2); (try simp only [pBk] at B2); (try clear c_xr f_xr r_xr B_xr); obtain ⟨c_xr, f_xr, l_u4_xr, r_xr, B_xr⟩ := blk_all B2; clear B2; have B2 := blk_below (g := w.heap.size + 1 + 1 + 1) ho pSd; (try simp (disch := first | omega | (simp; done) | (simp; omega)) only [pBk] at B2); (try rw [Hid.out B_xo] at B2); (try simp only [pBk] at B2); (try clear c_xo f_xo r_xo B_xo); obtain ⟨c_xo, f_xo, l_u4_xo, r_xo, B_xo⟩ := blk_all B2; clear B2; have B2 := blk_below (g := w.heap.size + 1 + 1 + 1 + 1) ho pSd; (try simp (disch := first | omega | (simp; done) | (simp; omega)) only [pBk] at B2); (try rw [Hid.out B_xq] at B2); (try simp only [pBk] at B2); (try clear c_xq f_xq r_xq B_xq); obtain ⟨c_xq, f_xq, l_u4_xq, r_xq, B_xq⟩ := blk_all B2; clear B2; clear ho) | (go_at_call 88; refine (r1_SubTwo _ _ _ _ _ (by exact hWN) (by exact W64_lo _) (by exact hBh) (by exact W64_lo _)).mono ?_; rintro e u5 ⟨rfl, ho⟩; have hzu5 := Below.size ho; (try simp at hzu5); have HB2 : Hid (Below w.heap.size w u5) := Lib.hid (Below.trans (by exact pBl) (Below.mono ho pSd)); (try clear HB); have HB := HB2; clear HB2; have B2 := blk_below (g := w.heap.size) ho pSd; (try simp (disch := first | omega | (simp; done) | (simp; omega)) only [pBk] at B2); (try rw [Hid.out B_xa] at B2); (try simp only [pBk] at B2); (try clear c_xa f_xa r_xa B_xa); obtain ⟨c_xa, f_xa, l_u5_xa, r_xa, B_xa⟩ := blk_all B2; clear B2; have B2 := blk_below (g := w.heap.size + 1) ho pSd; (try simp (disch := first | omega | (simp; done) | (simp; omega)) only [pBk] at B2); (try rw [Hid.out B_xb] at B2); (try simp only [pBk] at B2); (try clear c_xb f_xb r_xb B_xb); obtain ⟨c_xb, f_xb, l_u5_xb, r_xb, B_xb⟩ := blk_all B2; clear B2; have B2 := blk_below (g := w.heap.size + 1 + 1) ho pSd; (try simp (disch := first | omega | (simp; done) | (simp; omega)) only [pBk] at B2); (try rw [Hid.out B_xr] at B2); (try simp only [pBk] at B2); (try clear c_xr f_xr r_xr B_xr); obtain ⟨c_xr, f_xr, l_u5_xr, r_xr, B_xr⟩ := blk_all B2; clear B2; have B2 := blk_below (g := w.heap.size + 1 + 1 + 1) ho pSd; (try simp (disch := first | omega | (simp; done) | (simp; omega)) only [pBk] at B2); (try rw [Hid.out B_xo] at B2); (try simp only [pBk] at B2); (try clear c_xo f_xo r_xo B_xo); obtain ⟨c_xo, f_xo, l_u5_xo, r_xo, B_xo⟩ := blk_all B2; clear B2; have B2 := blk_below (g := w.heap.size + 1 + 1 + 1 + 1) ho pSd; (try simp (disch := first | omega | (simp; done) | (simp; omega)) only [pBk] at B2); (try rw [Hid.out B_xq] at B2); (try simp only [pBk] at B2); (try clear c_xq f_xq r_xq B_xq); obtain ⟨c_xq, f_xq, l_u5_xq, r_xq, B_xq⟩ := blk_all B2; clear B2; clear ho))
            go_region
            go_wp2
            go_roundw
            case rel =>
              refine ⟨n - 1, by omega, by omega, rfl, ?_⟩
              have e' : (n - 1 + 1).toNat = n.toNat := by omega
              constructor
              case below => exact pBl
              all_goals (try rw [e', Hdr.out])
              all_goals (try rw [e', HQ.out.1, HQ.out.2.1, HQ.out.2.2.1, HQ.out.2.2.2])
              all_goals (try rw [← hrest])
              all_goals ((try simp (disch := first | omega | (simp; done) | (simp; omega)) only [pBk]); first | done | with_reducible rfl | with_reducible exact Hid.out (by assumption) | (with_reducible rw [Hid.out B_xa]; (try simp only [pBk]); first | done | with_reducible rfl) | (with_reducible rw [Hid.out B_xb]; (try simp only [pBk]); first | done | with_reducible rfl) | (with_reducible rw [Hid.out B_xr]; (try simp only [pBk]); first | done | with_reducible rfl) | (with_reducible rw [Hid.out B_xo]; (try simp only [pBk]); first | done | with_reducible rfl) | (with_reducible rw [Hid.out B_xq]; (try simp only [pBk]); first | done | with_reducible rfl))
            case measure => simp [intOf]; omega
          · have HQ : Hid (q3 (dq A B n.toNat) = q3 O ∧ q2 (dq A B n.toNat) = q2 O ∧ q1 (dq A B n.toNat) = bits .or .u64 (q1 O) (lo (2 ^ (n % 64).toNat)) ∧ q0 (dq A B n.toNat) = q0 O) := by
              have h := Hm.out
              have hn2 : n.toNat = 64 + (n % 64).toNat := by omega
              rw [HdQ.out]
              rw [hn2] at h ⊢
              exact q_set_1 hO4 h hr64
            clear Hm HdQ Hmul Hle Hst HR HO HN hlt hO4
            go_wp2_with fail
            refine wp_region_G (fun w' => w'.cell? ⟨w.heap.size + 1 + 1 + 1, 4, none⟩ = some (.int .u64 (hi r)) ∧ w'.cell? ⟨w.heap.size + 1 + 1 + 1, 5, none⟩ = some (.int .u64 (lo r)) ∧ w'.cell? ⟨w.heap.size, 0, none⟩ = some (.int .u64 (q3 A)) ∧ w'.cell? ⟨w.heap.size, 1, none⟩ = some (.int .u64 (q2 A)) ∧ w'.cell? ⟨w.heap.size, 2, none⟩ = some (.int .u64 (q1 A)) ∧ w'.cell? ⟨w.heap.size, 3, none⟩ = some (.int .u64 (q0 A))) 19 (by kernel_rfl) ?_ (fun hHeld => ?_)
            · exact pKp
            refine Gw.tk 0 rfl ?_
            (try simp only [pLy])
            refine Gw.tk 1 rfl ?_
            (try simp only [pLy])
            refine Gw.tk 2 rfl ?_
            (try simp only [pLy])
            refine Gw.tk 3 rfl ?_
            (try simp only [pLy])
            refine Gw.tk 4 rfl ?_
            (try simp only [pLy])
            refine Gw.tk 5 rfl ?_
            (try simp only [pLy])
            refine Gw.tk 6 rfl ?_
            (try simp only [pLy])
            refine Gw.tk 7 rfl ?_
            (try simp only [pLy])
            refine Gw.tk 8 rfl ?_
            (try simp only [pLy])
            refine Gw.tk 9 rfl ?_
            (try simp only [pLy])
            refine Gw.tk 10 rfl ?_
            (try simp only [pLy])
            refine Gw.tk 11 rfl ?_
            (try simp only [pLy])
            refine Gw.tk 12 rfl ?_
            (try simp only [pLy])
            refine Gw.tk 13 rfl ?_
            (try simp only [pLy])
            refine Gw.tk 14 rfl ?_
            (try simp only [pLy])
            refine Gw.one (i := 15) rfl (by kernel_rfl) (fun K hK => ?_)
            go_simp
            (go_at_call 118; refine (r1_bit A n _ hn (by omega)).mono ?_; rintro e u3 ⟨rfl, ho⟩; have hzu3 := Below.size ho; (try simp at hzu3); have HB2 : Hid (Below w.heap.size w u3) := Lib.hid (Below.trans (by exact pBl) (Below.mono ho pSd)); (try clear HB); have HB := HB2; clear HB2; have B2 := blk_below (g := w.heap.size) ho pSd; (try simp (disch := first | omega | (simp; done) | (simp; omega)) only [pBk] at B2); (try rw [Hid.out B_xa] at B2); (try simp only [pBk] at B2); (try clear c_xa f_xa r_xa B_xa); obtain ⟨c_xa, f_xa, l_u3_xa, r_xa, B_xa⟩ := blk_all B2; clear B2; have B2 := blk_below (g := w.heap.size + 1) ho pSd; (try simp (disch := first | omega | (simp; done) | (simp; omega)) only [pBk] at B2); (try rw [Hid.out B_xb] at B2); (try simp only [pBk] at B2); (try clear c_xb f_xb r_xb B_xb); obtain ⟨c_xb, f_xb, l_u3_xb, r_xb, B_xb⟩ := blk_all B2; clear B2; have B2 := blk_below (g := w.heap.size + 1 + 1) ho pSd; (try simp (disch := first | omega | (simp; done) | (simp; omega)) only [pBk] at B2); (try rw [Hid.out B_xr] at B2); (try simp only [pBk] at B2); (try clear c_xr f_xr r_xr B_xr); obtain ⟨c_xr, f_xr, l_u3_xr, r_xr, B_xr⟩ := blk_all B2; clear B2; have B2 := blk_below (g := w.heap.size + 1 + 1 + 1) ho pSd; (try simp (disch := first | omega | (simp; done) | (simp; omega)) only [pBk] at B2); (try rw [Hid.out B_xo] at B2); (try simp only [pBk] at B2); (try clear c_xo f_xo r_xo B_xo); obtain ⟨c_xo, f_xo, l_u3_xo, r_xo, B_xo⟩ := blk_all B2; clear B2; have B2 := blk_below (g := w.heap.size + 1 + 1 + 1 + 1) ho pSd; (try simp (disch := first | omega | (simp; done) | (simp; omega)) only [pBk] at B2); (try rw [Hid.out B_xq] at B2); (try simp only [pBk] at B2); (try clear c_xq f_xq r_xq B_xq); obtain ⟨c_xq, f_xq, l_u3_xq, r_xq, B_xq⟩ := blk_all B2; clear B2; clear ho)
            (try go_wp2_with fail)
            refine hK.out _ _ ?_ (fun hHeld => ?_)
            · exact pKp
            clear hK K
            (try simp only [pLy])
            refine Gw.tk 16 rfl ?_
            (try simp only [pLy])
            refine Gw.tk 17 rfl ?_
            (try simp only [pLy])
            refine Gw.tk 18 rfl ?_
            (try simp only [pLy])
            refine Gw.last (i := 19) rfl (by kernel_rfl) (by decide) (fun K hK => ?_)
            go_simp
            refine hK.out _ _ ?_
            clear hK K
            (try simp only [pLy])
            refine Gw.done (by kernel_rfl) ?_ _
            go_wp2_with (first | (go_at_call 25; refine (r1_Less _ _ _ _ _ (by exact W64_lo _) (by exact W64_lo _)).mono ?_; rintro e u4 ⟨rfl, ho⟩; have hzu4 := Below.size ho; (try simp at hzu4); have HB2 : Hid (Below w.heap.size w u4) := Lib.hid (Below.trans (by exact pBl) (Below.mono ho pSd)); (try clear HB); have HB := HB2; clear HB2; have B2 := blk_below (g := w.heap.size) ho pSd; (try simp (disch := first | omega | (simp; done) | (simp; omega)) only [pBk] at B2); (try rw [Hid.out B_xa] at B2); (try simp only [pBk] at B2); (try clear c_xa f_xa r_xa B_xa); obtain ⟨c_xa, f_xa, l_u4_xa, r_xa, B_xa⟩ := blk_all B2; clear B2; have B2 := blk_below (g := w.heap.size + 1) ho pSd; (try simp (disch := first | omega | (simp; done) | (simp; omega)) only [pBk] at B2); (try rw [Hid.out B_xb] at B2); (try simp only [pBk] at B2); (try clear c_xb f_xb r_xb B_xb); obtain ⟨c_xb, f_xb, l_u4_xb, r_xb, B_xb⟩ := blk_all B2; clear B2; have B2 := blk_below (g := w.heap.size + 1 + 1) ho pSd; (try simp (disch := first | omega | (simp; done) | (simp; omega)) only [pBk] at B2); (try rw [Hid.out B_xr] at B2); (try simp only [pBk] at B2); (try clear c_xr f_xr r_xr B_xr); obtain ⟨c_xr, f_xr, l_u4_xr, r_xr, B_xr⟩ := blk_all B2; clear B2; have B2 := blk_below (g := w.heap.size + 1 + 1 + 1) ho pSd; (try simp (disch := first | omega | (simp; done) | (simp; omega)) only [pBk] at B2); (try rw [Hid.out B_xo] at B2); (try simp only [pBk] at B2); (try clear c_xo f_xo r_xo B_xo); obtain ⟨c_xo, f_xo, l_u4_xo, r_xo, B_xo⟩ := blk_all B2; clear B2; have B2 := blk_below (g := w.heap.size + 1 + 1 + 1 + 1) ho pSd; (try simp (disch := first | omega | (simp; done) | (simp; omega)) only [pBk] at B2); (try rw [Hid.out B_xq] at B2); (try simp only [pBk] at B2); (try clear c_xq f_xq r_xq B_xq); obtain ⟨c_xq, f_xq, l_u4_xq, r_xq, B_xq⟩ := blk_all B2; clear B2; clear ho) | (go_at_call 88; refine (r1_SubTwo _ _ _ _ _ (by exact hWN) (by exact W64_lo _) (by exact hBh) (by exact W64_lo _)).mono ?_; rintro e u5 ⟨rfl, ho⟩; have hzu5 := Below.size ho; (try simp at hzu5); have HB2 : Hid (Below w.heap.size w u5) := Lib.hid (Below.trans (by exact pBl) (Below.mono ho pSd)); (try clear HB); have HB := HB2; clear HB2; have B2 := blk_below (g := w.heap.size) ho pSd; (try simp (disch := first | omega | (simp; done) | (simp; omega)) only [pBk] at B2); (try rw [Hid.out B_xa] at B2); (try simp only [pBk] at B2); (try clear c_xa f_xa r_xa B_xa); obtain ⟨c_xa, f_xa, l_u5_xa, r_xa, B_xa⟩ := blk_all B2; clear B2; have B2 := blk_below (g := w.heap.size + 1) ho pSd; (try simp (disch := first | omega | (simp; done) | (simp; omega)) only [pBk] at B2); (try rw [Hid.out B_xb] at B2); (try simp only [pBk] at B2); (try clear c_xb f_xb r_xb B_xb); obtain ⟨c_xb, f_xb, l_u5_xb, r_xb, B_xb⟩ := blk_all B2; clear B2; have B2 := blk_below (g := w.heap.size + 1 + 1) ho pSd; (try simp (disch := first | omega | (simp; done) | (simp; omega)) only [pBk] at B2); (try rw [Hid.out B_xr] at B2); (try simp only [pBk] at B2); (try clear c_xr f_xr r_xr B_xr); obtain ⟨c_xr, f_xr, l_u5_xr, r_xr, B_xr⟩ := blk_all B2; clear B2; have B2 := blk_below (g := w.heap.size + 1 + 1 + 1) ho pSd; (try simp (disch := first | omega | (simp; done) | (simp; omega)) only [pBk] at B2); (try rw [Hid.out B_xo] at B2); (try simp only [pBk] at B2); (try clear c_xo f_xo r_xo B_xo); obtain ⟨c_xo, f_xo, l_u5_xo, r_xo, B_xo⟩ := blk_all B2; clear B2; have B2 := blk_below (g := w.heap.size + 1 + 1 + 1 + 1) ho pSd; (try simp (disch := first | omega | (simp; done) | (simp; omega)) only [pBk] at B2); (try rw [Hid.out B_xq] at B2); (try simp only [pBk] at B2); (try clear c_xq f_xq r_xq B_xq); obtain ⟨c_xq, f_xq, l_u5_xq, r_xq, B_xq⟩ := blk_all B2; clear B2; clear ho))
            go_region
            go_wp2
            go_roundw
            case rel =>
              refine ⟨n - 1, by omega, by omega, rfl, ?_⟩
              have e' : (n - 1 + 1).toNat = n.toNat := by omega
              constructor
              case below => exact pBl
              all_goals (try rw [e', Hdr.out])
              all_goals (try rw [e', HQ.out.1, HQ.out.2.1, HQ.out.2.2.1, HQ.out.2.2.2])
              all_goals (try rw [← hrest])
              all_goals ((try simp (disch := first | omega | (simp; done) | (simp; omega)) only [pBk]); first | done | with_reducible rfl | with_reducible exact Hid.out (by assumption) | (with_reducible rw [Hid.out B_xa]; (try simp only [pBk]); first | done | with_reducible rfl) | (with_reducible rw [Hid.out B_xb]; (try simp only [pBk]); first | done | with_reducible rfl) | (with_reducible rw [Hid.out B_xr]; (try simp only [pBk]); first | done | with_reducible rfl) | (with_reducible rw [Hid.out B_xo]; (try simp only [pBk]); first | done | with_reducible rfl) | (with_reducible rw [Hid.out B_xq]; (try simp only [pBk]); first | done | with_reducible rfl))
            case measure => simp [intOf]; omega
          · have HQ : Hid (q3 (dq A B n.toNat) = q3 O ∧ q2 (dq A B n.toNat) = bits .or .u64 (q2 O) (lo (2 ^ (n % 64).toNat)) ∧ q1 (dq A B n.toNat) = q1 O ∧ q0 (dq A B n.toNat) = q0 O) := by
              have h := Hm.out
              have hn2 : n.toNat = 128 + (n % 64).toNat := by omega
              rw [HdQ.out]
              rw [hn2] at h ⊢
              exact q_set_2 hO4 h hr64
            clear Hm HdQ Hmul Hle Hst HR HO HN hlt hO4
            go_wp2_with fail
            refine wp_region_G (fun w' => w'.cell? ⟨w.heap.size + 1 + 1 + 1, 4, none⟩ = some (.int .u64 (hi r)) ∧ w'.cell? ⟨w.heap.size + 1 + 1 + 1, 5, none⟩ = some (.int .u64 (lo r)) ∧ w'.cell? ⟨w.heap.size, 0, none⟩ = some (.int .u64 (q3 A)) ∧ w'.cell? ⟨w.heap.size, 1, none⟩ = some (.int .u64 (q2 A)) ∧ w'.cell? ⟨w.heap.size, 2, none⟩ = some (.int .u64 (q1 A)) ∧ w'.cell? ⟨w.heap.size, 3, none⟩ = some (.int .u64 (q0 A))) 19 (by kernel_rfl) ?_ (fun hHeld => ?_)
            · exact pKp
            refine Gw.tk 0 rfl ?_
            (try simp only [pLy])
            refine Gw.tk 1 rfl ?_
            (try simp only [pLy])
            refine Gw.tk 2 rfl ?_
            (try simp only [pLy])
            refine Gw.tk 3 rfl ?_
            (try simp only [pLy])
            refine Gw.tk 4 rfl ?_
            (try simp only [pLy])
            refine Gw.tk 5 rfl ?_
            (try simp only [pLy])
            refine Gw.tk 6 rfl ?_
            (try simp only [pLy])
            refine Gw.tk 7 rfl ?_
            (try simp only [pLy])
            refine Gw.tk 8 rfl ?_
            (try simp only [pLy])
            refine Gw.tk 9 rfl ?_
            (try simp only [pLy])
            refine Gw.tk 10 rfl ?_
            (try simp only [pLy])
            refine Gw.tk 11 rfl ?_
            (try simp only [pLy])
            refine Gw.tk 12 rfl ?_
            (try simp only [pLy])
            refine Gw.tk 13 rfl ?_
            (try simp only [pLy])
            refine Gw.tk 14 rfl ?_
            (try simp only [pLy])
            refine Gw.one (i := 15) rfl (by kernel_rfl) (fun K hK => ?_)
            go_simp
            (go_at_call 118; refine (r1_bit A n _ hn (by omega)).mono ?_; rintro e u3 ⟨rfl, ho⟩; have hzu3 := Below.size ho; (try simp at hzu3); have HB2 : Hid (Below w.heap.size w u3) := Lib.hid (Below.trans (by exact pBl) (Below.mono ho pSd)); (try clear HB); have HB := HB2; clear HB2; have B2 := blk_below (g := w.heap.size) ho pSd; (try simp (disch := first | omega | (simp; done) | (simp; omega)) only [pBk] at B2); (try rw [Hid.out B_xa] at B2); (try simp only [pBk] at B2); (try clear c_xa f_xa r_xa B_xa); obtain ⟨c_xa, f_xa, l_u3_xa, r_xa, B_xa⟩ := blk_all B2; clear B2; have B2 := blk_below (g := w.heap.size + 1) ho pSd; (try simp (disch := first | omega | (simp; done) | (simp; omega)) only [pBk] at B2); (try rw [Hid.out B_xb] at B2); (try simp only [pBk] at B2); (try clear c_xb f_xb r_xb B_xb); obtain ⟨c_xb, f_xb, l_u3_xb, r_xb, B_xb⟩ := blk_all B2; clear B2; have B2 := blk_below (g := w.heap.size + 1 + 1) ho pSd; (try simp (disch := first | omega | (simp; done) | (simp; omega)) only [pBk] at B2); (try rw [Hid.out B_xr] at B2); (try simp only [pBk] at B2); (try clear c_xr f_xr r_xr B_xr); obtain ⟨c_xr, f_xr, l_u3_xr, r_xr, B_xr⟩ := blk_all B2; clear B2; have B2 := blk_below (g := w.heap.size + 1 + 1 + 1) ho pSd; (try simp (disch := first | omega | (simp; done) | (simp; omega)) only [pBk] at B2); (try rw [Hid.out B_xo] at B2); (try simp only [pBk] at B2); (try clear c_xo f_xo r_xo B_xo); obtain ⟨c_xo, f_xo, l_u3_xo, r_xo, B_xo⟩ := blk_all B2; clear B2; have B2 := blk_below (g := w.heap.size + 1 + 1 + 1 + 1) ho pSd; (try simp (disch := first | omega | (simp; done) | (simp; omega)) only [pBk] at B2); (try rw [Hid.out B_xq] at B2); (try simp only [pBk] at B2); (try clear c_xq f_xq r_xq B_xq); obtain ⟨c_xq, f_xq, l_u3_xq, r_xq, B_xq⟩ := blk_all B2; clear B2; clear ho)
            (try go_wp2_with fail)
            refine hK.out _ _ ?_ (fun hHeld => ?_)
            · exact pKp
            clear hK K
            (try simp only [pLy])
            refine Gw.tk 16 rfl ?_
            (try simp only [pLy])
            refine Gw.tk 17 rfl ?_
            (try simp only [pLy])
            refine Gw.tk 18 rfl ?_
            (try simp only [pLy])
            refine Gw.last (i := 19) rfl (by kernel_rfl) (by decide) (fun K hK => ?_)
            go_simp
            refine hK.out _ _ ?_
            clear hK K
            (try simp only [pLy])
            refine Gw.done (by kernel_rfl) ?_ _
            go_wp2_with (first | (go_at_call 25; refine (r1_Less _ _ _ _ _ (by exact W64_lo _) (by exact W64_lo _)).mono ?_; rintro e u4 ⟨rfl, ho⟩; have hzu4 := Below.size ho; (try simp at hzu4); have HB2 : Hid (Below w.heap.size w u4) := Lib.hid (Below.trans (by exact pBl) (Below.mono ho pSd)); (try clear HB); have HB := HB2; clear HB2; have B2 := blk_below (g := w.heap.size) ho pSd; (try simp (disch := first | omega | (simp; done) | (simp; omega)) only [pBk] at B2); (try rw [Hid.out B_xa] at B2); (try simp only [pBk] at B2); (try clear c_xa f_xa r_xa B_xa); obtain ⟨c_xa, f_xa, l_u4_xa, r_xa, B_xa⟩ := blk_all B2; clear B2; have B2 := blk_below (g := w.heap.size + 1) ho pSd; (try simp (disch := first | omega | (simp; done) | (simp; omega)) only [pBk] at B2); (try rw [Hid.out B_xb] at B2); (try simp only [pBk] at B2); (try clear c_xb f_xb r_xb B_xb); obtain ⟨c_xb, f_xb, l_u4_xb, r_xb, B_xb⟩ := blk_all B2; clear B2; have B2 := blk_below (g := w.heap.size + 1 + 1) ho pSd; (try simp (disch := first | omega | (simp; done) | (simp; omega)) only [pBk] at B2); (try rw [Hid.out B_xr] at B2); (try simp only [pBk] at B2); (try clear c_xr f_xr r_xr B_xr); obtain ⟨c_xr, f_xr, l_u4_xr, r_xr, B_xr⟩ := blk_all B2; clear B2; have B2 := blk_below (g := w.heap.size + 1 + 1 + 1) ho pSd; (try simp (disch := first | omega | (simp; done) | (simp; omega)) only [pBk] at B2); (try rw [Hid.out B_xo] at B2); (try simp only [pBk] at B2); (try clear c_xo f_xo r_xo B_xo); obtain ⟨c_xo, f_xo, l_u4_xo, r_xo, B_xo⟩ := blk_all B2; clear B2; have B2 := blk_below (g := w.heap.size + 1 + 1 + 1 + 1) ho pSd; (try simp (disch := first | omega | (simp; done) | (simp; omega)) only [pBk] at B2); (try rw [Hid.out B_xq] at B2); (try simp only [pBk] at B2); (try clear c_xq f_xq r_xq B_xq); obtain ⟨c_xq, f_xq, l_u4_xq, r_xq, B_xq⟩ := blk_all B2; clear B2; clear ho) | (go_at_call 88; refine (r1_SubTwo _ _ _ _ _ (by exact hWN) (by exact W64_lo _) (by exact hBh) (by exact W64_lo _)).mono ?_; rintro e u5 ⟨rfl, ho⟩; have hzu5 := Below.size ho; (try simp at hzu5); have HB2 : Hid (Below w.heap.size w u5) := Lib.hid (Below.trans (by exact pBl) (Below.mono ho pSd)); (try clear HB); have HB := HB2; clear HB2; have B2 := blk_below (g := w.heap.size) ho pSd; (try simp (disch := first | omega | (simp; done) | (simp; omega)) only [pBk] at B2); (try rw [Hid.out B_xa] at B2); (try simp only [pBk] at B2); (try clear c_xa f_xa r_xa B_xa); obtain ⟨c_xa, f_xa, l_u5_xa, r_xa, B_xa⟩ := blk_all B2; clear B2; have B2 := blk_below (g := w.heap.size + 1) ho pSd; (try simp (disch := first | omega | (simp; done) | (simp; omega)) only [pBk] at B2); (try rw [Hid.out B_xb] at B2); (try simp only [pBk] at B2); (try clear c_xb f_xb r_xb B_xb); obtain ⟨c_xb, f_xb, l_u5_xb, r_xb, B_xb⟩ := blk_all B2; clear B2; have B2 := blk_below (g := w.heap.size + 1 + 1) ho pSd; (try simp (disch := first | omega | (simp; done) | (simp; omega)) only [pBk] at B2); (try rw [Hid.out B_xr] at B2); (try simp only [pBk] at B2); (try clear c_xr f_xr r_xr B_xr); obtain ⟨c_xr, f_xr, l_u5_xr, r_xr, B_xr⟩ := blk_all B2; clear B2; have B2 := blk_below (g := w.heap.size + 1 + 1 + 1) ho pSd; (try simp (disch := first | omega | (simp; done) | (simp; omega)) only [pBk] at B2); (try rw [Hid.out B_xo] at B2); (try simp only [pBk] at B2); (try clear c_xo f_xo r_xo B_xo); obtain ⟨c_xo, f_xo, l_u5_xo, r_xo, B_xo⟩ := blk_all B2; clear B2; have B2 := blk_below (g := w.heap.size + 1 + 1 + 1 + 1) ho pSd; (try simp (disch := first | omega | (simp; done) | (simp; omega)) only [pBk] at B2); (try rw [Hid.out B_xq] at B2); (try simp only [pBk] at B2); (try clear c_xq f_xq r_xq B_xq); obtain ⟨c_xq, f_xq, l_u5_xq, r_xq, B_xq⟩ := blk_all B2; clear B2; clear ho))
            go_region
            go_wp2
            go_roundw
            case rel =>
              refine ⟨n - 1, by omega, by omega, rfl, ?_⟩
              have e' : (n - 1 + 1).toNat = n.toNat := by omega
              constructor
              case below => exact pBl
              all_goals (try rw [e', Hdr.out])
              all_goals (try rw [e', HQ.out.1, HQ.out.2.1, HQ.out.2.2.1, HQ.out.2.2.2])
              all_goals (try rw [← hrest])
              all_goals ((try simp (disch := first | omega | (simp; done) | (simp; omega)) only [pBk]); first | done | with_reducible rfl | with_reducible exact Hid.out (by assumption) | (with_reducible rw [Hid.out B_xa]; (try simp only [pBk]); first | done | with_reducible rfl) | (with_reducible rw [Hid.out B_xb]; (try simp only [pBk]); first | done | with_reducible rfl) | (with_reducible rw [Hid.out B_xr]; (try simp only [pBk]); first | done | with_reducible rfl) | (with_reducible rw [Hid.out B_xo]; (try simp only [pBk]); first | done | with_reducible rfl) | (with_reducible rw [Hid.out B_xq]; (try simp only [pBk]); first | done | with_reducible rfl))
            case measure => simp [intOf]; omega
          · have HQ : Hid (q3 (dq A B n.toNat) = bits .or .u64 (q3 O) (lo (2 ^ (n % 64).toNat)) ∧ q2 (dq A B n.toNat) = q2 O ∧ q1 (dq A B n.toNat) = q1 O ∧ q0 (dq A B n.toNat) = q0 O) := by
              have h := Hm.out
              have hn2 : n.toNat = 192 + (n % 64).toNat := by omega
              rw [HdQ.out]
              rw [hn2] at h ⊢
              exact q_set_3 hO4 h hr64
            clear Hm HdQ Hmul Hle Hst HR HO HN hlt hO4
            go_wp2_with fail
            refine wp_region_G (fun w' => w'.cell? ⟨w.heap.size + 1 + 1 + 1, 4, none⟩ = some (.int .u64 (hi r)) ∧ w'.cell? ⟨w.heap.size + 1 + 1 + 1, 5, none⟩ = some (.int .u64 (lo r)) ∧ w'.cell? ⟨w.heap.size, 0, none⟩ = some (.int .u64 (q3 A)) ∧ w'.cell? ⟨w.heap.size, 1, none⟩ = some (.int .u64 (q2 A)) ∧ w'.cell? ⟨w.heap.size, 2, none⟩ = some (.int .u64 (q1 A)) ∧ w'.cell? ⟨w.heap.size, 3, none⟩ = some (.int .u64 (q0 A))) 19 (by kernel_rfl) ?_ (fun hHeld => ?_)
            · exact pKp
            refine Gw.tk 0 rfl ?_
            (try simp only [pLy])
            refine Gw.tk 1 rfl ?_
            (try simp only [pLy])
            refine Gw.tk 2 rfl ?_
            (try simp only [pLy])
            refine Gw.tk 3 rfl ?_
            (try simp only [pLy])
            refine Gw.tk 4 rfl ?_
            (try simp only [pLy])
            refine Gw.tk 5 rfl ?_
            (try simp only [pLy])
            refine Gw.tk 6 rfl ?_
            (try simp only [pLy])
            refine Gw.tk 7 rfl ?_
            (try simp only [pLy])
            refine Gw.tk 8 rfl ?_
            (try simp only [pLy])
            refine Gw.tk 9 rfl ?_
            (try simp only [pLy])
            refine Gw.tk 10 rfl ?_
            (try simp only [pLy])
            refine Gw.tk 11 rfl ?_
            (try simp only [pLy])
            refine Gw.tk 12 rfl ?_
            (try simp only [pLy])
            refine Gw.tk 13 rfl ?_
            (try simp only [pLy])
            refine Gw.tk 14 rfl ?_
            (try simp only [pLy])
            refine Gw.one (i := 15) rfl (by kernel_rfl) (fun K hK => ?_)
            go_simp
            (go_at_call 118; refine (r1_bit A n _ hn (by omega)).mono ?_; rintro e u3 ⟨rfl, ho⟩; have hzu3 := Below.size ho; (try simp at hzu3); have HB2 : Hid (Below w.heap.size w u3) := Lib.hid (Below.trans (by exact pBl) (Below.mono ho pSd)); (try clear HB); have HB := HB2; clear HB2; have B2 := blk_below (g := w.heap.size) ho pSd; (try simp (disch := first | omega | (simp; done) | (simp; omega)) only [pBk] at B2); (try rw [Hid.out B_xa] at B2); (try simp only [pBk] at B2); (try clear c_xa f_xa r_xa B_xa); obtain ⟨c_xa, f_xa, l_u3_xa, r_xa, B_xa⟩ := blk_all B2; clear B2; have B2 := blk_below (g := w.heap.size + 1) ho pSd; (try simp (disch := first | omega | (simp; done) | (simp; omega)) only [pBk] at B2); (try rw [Hid.out B_xb] at B2); (try simp only [pBk] at B2); (try clear c_xb f_xb r_xb B_xb); obtain ⟨c_xb, f_xb, l_u3_xb, r_xb, B_xb⟩ := blk_all B2; clear B2; have B2 := blk_below (g := w.heap.size + 1 + 1) ho pSd; (try simp (disch := first | omega | (simp; done) | (simp; omega)) only [pBk] at B2); (try rw [Hid.out B_xr] at B2); (try simp only [pBk] at B2); (try clear c_xr f_xr r_xr B_xr); obtain ⟨c_xr, f_xr, l_u3_xr, r_xr, B_xr⟩ := blk_all B2; clear B2; have B2 := blk_below (g := w.heap.size + 1 + 1 + 1) ho pSd; (try simp (disch := first | omega | (simp; done) | (simp; omega)) only [pBk] at B2); (try rw [Hid.out B_xo] at B2); (try simp only [pBk] at B2); (try clear c_xo f_xo r_xo B_xo); obtain ⟨c_xo, f_xo, l_u3_xo, r_xo, B_xo⟩ := blk_all B2; clear B2; have B2 := blk_below (g := w.heap.size + 1 + 1 + 1 + 1) ho pSd; (try simp (disch := first | omega | (simp; done) | (simp; omega)) only [pBk] at B2); (try rw [Hid.out B_xq] at B2); (try simp only [pBk] at B2); (try clear c_xq f_xq r_xq B_xq); obtain ⟨c_xq, f_xq, l_u3_xq, r_xq, B_xq⟩ := blk_all B2; clear B2; clear ho)
            (try go_wp2_with fail)
            refine hK.out _ _ ?_ (fun hHeld => ?_)
            · exact pKp
            clear hK K
            (try simp only [pLy])
            refine Gw.tk 16 rfl ?_
            (try simp only [pLy])
            refine Gw.tk 17 rfl ?_
            (try simp only [pLy])
            refine Gw.tk 18 rfl ?_
            (try simp only [pLy])
            refine Gw.last (i := 19) rfl (by kernel_rfl) (by decide) (fun K hK => ?_)
            go_simp
            refine hK.out _ _ ?_
            clear hK K
            (try simp only [pLy])
            refine Gw.done (by kernel_rfl) ?_ _
            go_wp2_with (first | (go_at_call 25; refine (r1_Less _ _ _ _ _ (by exact W64_lo _) (by exact W64_lo _)).mono ?_; rintro e u4 ⟨rfl, ho⟩; have hzu4 := Below.size ho; (try simp at hzu4); have HB2 : Hid (Below w.heap.size w u4) := Lib.hid (Below.trans (by exact pBl) (Below.mono ho pSd)); (try clear HB); have HB := HB2; clear HB2; have B2 := blk_below (g := w.heap.size) ho pSd; (try simp (disch := first | omega | (simp; done) | (simp; omega)) only [pBk] at B2); (try rw [Hid.out B_xa] at B2); (try simp only [pBk] at B2); (try clear c_xa f_xa r_xa B_xa); obtain ⟨c_xa, f_xa, l_u4_xa, r_xa, B_xa⟩ := blk_all B2; clear B2; have B2 := blk_below (g := w.heap.size + 1) ho pSd; (try simp (disch := first | omega | (simp; done) | (simp; omega)) only [pBk] at B2); (try rw [Hid.out B_xb] at B2); (try simp only [pBk] at B2); (try clear c_xb f_xb r_xb B_xb); obtain ⟨c_xb, f_xb, l_u4_xb, r_xb, B_xb⟩ := blk_all B2; clear B2; have B2 := blk_below (g := w.heap.size + 1 + 1) ho pSd; (try simp (disch := first | omega | (simp; done) | (simp; omega)) only [pBk] at B2); (try rw [Hid.out B_xr] at B2); (try simp only [pBk] at B2); (try clear c_xr f_xr r_xr B_xr); obtain ⟨c_xr, f_xr, l_u4_xr, r_xr, B_xr⟩ := blk_all B2; clear B2; have B2 := blk_below (g := w.heap.size + 1 + 1 + 1) ho pSd; (try simp (disch := first | omega | (simp; done) | (simp; omega)) only [pBk] at B2); (try rw [Hid.out B_xo] at B2); (try simp only [pBk] at B2); (try clear c_xo f_xo r_xo B_xo); obtain ⟨c_xo, f_xo, l_u4_xo, r_xo, B_xo⟩ := blk_all B2; clear B2; have B2 := blk_below (g := w.heap.size + 1 + 1 + 1 + 1) ho pSd; (try simp (disch := first | omega | (simp; done) | (simp; omega)) only [pBk] at B2); (try rw [Hid.out B_xq] at B2); (try simp only [pBk] at B2); (try clear c_xq f_xq r_xq B_xq); obtain ⟨c_xq, f_xq, l_u4_xq, r_xq, B_xq⟩ := blk_all B2; clear B2; clear ho) | (go_at_call 88; refine (r1_SubTwo _ _ _ _ _ (by exact hWN) (by exact W64_lo _) (by exact hBh) (by exact W64_lo _)).mono ?_; rintro e u5 ⟨rfl, ho⟩; have hzu5 := Below.size ho; (try simp at hzu5); have HB2 : Hid (Below w.heap.size w u5) := Lib.hid (Below.trans (by exact pBl) (Below.mono ho pSd)); (try clear HB); have HB := HB2; clear HB2; have B2 := blk_below (g := w.heap.size) ho pSd; (try simp (disch := first | omega | (simp; done) | (simp; omega)) only [pBk] at B2); (try rw [Hid.out B_xa] at B2); (try simp only [pBk] at B2); (try clear c_xa f_xa r_xa B_xa); obtain ⟨c_xa, f_xa, l_u5_xa, r_xa, B_xa⟩ := blk_all B2; clear B2; have B2 := blk_below (g := w.heap.size + 1) ho pSd; (try simp (disch := first | omega | (simp; done) | (simp; omega)) only [pBk] at B2); (try rw [Hid.out B_xb] at B2); (try simp only [pBk] at B2); (try clear c_xb f_xb r_xb B_xb); obtain ⟨c_xb, f_xb, l_u5_xb, r_xb, B_xb⟩ := blk_all B2; clear B2; have B2 := blk_below (g := w.heap.size + 1 + 1) ho pSd; (try simp (disch := first | omega | (simp; done) | (simp; omega)) only [pBk] at B2); (try rw [Hid.out B_xr] at B2); (try simp only [pBk] at B2); (try clear c_xr f_xr r_xr B_xr); obtain ⟨c_xr, f_xr, l_u5_xr, r_xr, B_xr⟩ := blk_all B2; clear B2; have B2 := blk_below (g := w.heap.size + 1 + 1 + 1) ho pSd; (try simp (disch := first | omega | (simp; done) | (simp; omega)) only [pBk] at B2); (try rw [Hid.out B_xo] at B2); (try simp only [pBk] at B2); (try clear c_xo f_xo r_xo B_xo); obtain ⟨c_xo, f_xo, l_u5_xo, r_xo, B_xo⟩ := blk_all B2; clear B2; have B2 := blk_below (g := w.heap.size + 1 + 1 + 1 + 1) ho pSd; (try simp (disch := first | omega | (simp; done) | (simp; omega)) only [pBk] at B2); (try rw [Hid.out B_xq] at B2); (try simp only [pBk] at B2); (try clear c_xq f_xq r_xq B_xq); obtain ⟨c_xq, f_xq, l_u5_xq, r_xq, B_xq⟩ := blk_all B2; clear B2; clear ho))
            go_region
            go_wp2
            go_roundw
            case rel =>
              refine ⟨n - 1, by omega, by omega, rfl, ?_⟩
              have e' : (n - 1 + 1).toNat = n.toNat := by omega
              constructor
              case below => exact pBl
              all_goals (try rw [e', Hdr.out])
              all_goals (try rw [e', HQ.out.1, HQ.out.2.1, HQ.out.2.2.1, HQ.out.2.2.2])
              all_goals (try rw [← hrest])
              all_goals ((try simp (disch := first | omega | (simp; done) | (simp; omega)) only [pBk]); first | done | with_reducible rfl | with_reducible exact Hid.out (by assumption) | (with_reducible rw [Hid.out B_xa]; (try simp only [pBk]); first | done | with_reducible rfl) | (with_reducible rw [Hid.out B_xb]; (try simp only [pBk]); first | done | with_reducible rfl) | (with_reducible rw [Hid.out B_xr]; (try simp only [pBk]); first | done | with_reducible rfl) | (with_reducible rw [Hid.out B_xo]; (try simp only [pBk]); first | done | with_reducible rfl) | (with_reducible rw [Hid.out B_xq]; (try simp only [pBk]); first | done | with_reducible rfl))
            case measure => simp [intOf]; omega
      · have Hdr : Hid (dr A B n.toNat = N) := by
          have h := Hst.out.1
          rw [enn, ← HR.out, ← HN.out, if_neg hlt] at h; exact h
        have HdQ : Hid (dq A B n.toNat = O) := by
          have h := Hst.out.2
          rw [enn, ← HR.out, ← HN.out, if_neg hlt, ← HO.out] at h; exact h
        have HQ : Hid (q3 (dq A B n.toNat) = q3 O ∧ q2 (dq A B n.toNat) = q2 O ∧ q1 (dq A B n.toNat) = q1 O ∧ q0 (dq A B n.toNat) = q0 O) := by
          have h := HdQ.out
          exact ⟨by rw [h], by rw [h], by rw [h], by rw [h]⟩
        have hrest : w2 N = N := by
          have h := HN.out
          unfold w2; unfold W64 hi at hBh
          omega
        have hbey : (hi r / 9223372036854775808 == 1) = false := by
          have h2 := E3.out
          have h := HN.out
          unfold W64 at hBh
          simp
          unfold hi at hBh
          omega
        have hless : decide (N < B) = true := by simp; omega
        have hWN : W64 (hi N) := by rw [hrest] at hWN; exact hWN
        clear HdQ Hmul Hle Hst HR HO HN hlt enn E3
        go_wp2_with fail
        refine wp_region_G (fun w' => w'.cell? ⟨w.heap.size + 1 + 1 + 1, 4, none⟩ = some (.int .u64 (hi r)) ∧ w'.cell? ⟨w.heap.size + 1 + 1 + 1, 5, none⟩ = some (.int .u64 (lo r)) ∧ w'.cell? ⟨w.heap.size, 0, none⟩ = some (.int .u64 (q3 A)) ∧ w'.cell? ⟨w.heap.size, 1, none⟩ = some (.int .u64 (q2 A)) ∧ w'.cell? ⟨w.heap.size, 2, none⟩ = some (.int .u64 (q1 A)) ∧ w'.cell? ⟨w.heap.size, 3, none⟩ = some (.int .u64 (q0 A))) 19 (by kernel_rfl) ?_ (fun hHeld => ?_)
        · exact pKp
        refine Gw.tk 0 rfl ?_
        (try simp only [pLy])
        refine Gw.tk 1 rfl ?_
        (try simp only [pLy])
        refine Gw.tk 2 rfl ?_
        (try simp only [pLy])
        refine Gw.tk 3 rfl ?_
        (try simp only [pLy])
        refine Gw.tk 4 rfl ?_
        (try simp only [pLy])
        refine Gw.tk 5 rfl ?_
        (try simp only [pLy])
        refine Gw.tk 6 rfl ?_
        (try simp only [pLy])
        refine Gw.tk 7 rfl ?_
        (try simp only [pLy])
        refine Gw.tk 8 rfl ?_
        (try simp only [pLy])
        refine Gw.tk 9 rfl ?_
        (try simp only [pLy])
        refine Gw.tk 10 rfl ?_
        (try simp only [pLy])
        refine Gw.tk 11 rfl ?_
        (try simp only [pLy])
        refine Gw.tk 12 rfl ?_
        (try simp only [pLy])
        refine Gw.tk 13 rfl ?_
        (try simp only [pLy])
        refine Gw.tk 14 rfl ?_
        (try simp only [pLy])
        refine Gw.one (i := 15) rfl (by kernel_rfl) (fun K hK => ?_)
        go_simp
        (go_at_call 118; refine (r1_bit A n _ hn (by omega)).mono ?_; rintro e u3 ⟨rfl, ho⟩; have hzu3 := Below.size ho; (try simp at hzu3); have HB2 : Hid (Below w.heap.size w u3) := Lib.hid (Below.trans (by exact pBl) (Below.mono ho pSd)); (try clear HB); have HB := HB2; clear HB2; have B2 := blk_below (g := w.heap.size) ho pSd; (try simp (disch := first | omega | (simp; done) | (simp; omega)) only [pBk] at B2); (try rw [Hid.out B_xa] at B2); (try simp only [pBk] at B2); (try clear c_xa f_xa r_xa B_xa); obtain ⟨c_xa, f_xa, l_u3_xa, r_xa, B_xa⟩ := blk_all B2; clear B2; have B2 := blk_below (g := w.heap.size + 1) ho pSd; (try simp (disch := first | omega | (simp; done) | (simp; omega)) only [pBk] at B2); (try rw [Hid.out B_xb] at B2); (try simp only [pBk] at B2); (try clear c_xb f_xb r_xb B_xb); obtain ⟨c_xb, f_xb, l_u3_xb, r_xb, B_xb⟩ := blk_all B2; clear B2; have B2 := blk_below (g := w.heap.size + 1 + 1) ho pSd; (try simp (disch := first | omega | (simp; done) | (simp; omega)) only [pBk] at B2); (try rw [Hid.out B_xr] at B2); (try simp only [pBk] at B2); (try clear c_xr f_xr r_xr B_xr); obtain ⟨c_xr, f_xr, l_u3_xr, r_xr, B_xr⟩ := blk_all B2; clear B2; have B2 := blk_below (g := w.heap.size + 1 + 1 + 1) ho pSd; (try simp (disch := first | omega | (simp; done) | (simp; omega)) only [pBk] at B2); (try rw [Hid.out B_xo] at B2); (try simp only [pBk] at B2); (try clear c_xo f_xo r_xo B_xo); obtain ⟨c_xo, f_xo, l_u3_xo, r_xo, B_xo⟩ := blk_all B2; clear B2; have B2 := blk_below (g := w.heap.size + 1 + 1 + 1 + 1) ho pSd; (try simp (disch := first | omega | (simp; done) | (simp; omega)) only [pBk] at B2); (try rw [Hid.out B_xq] at B2); (try simp only [pBk] at B2); (try clear c_xq f_xq r_xq B_xq); obtain ⟨c_xq, f_xq, l_u3_xq, r_xq, B_xq⟩ := blk_all B2; clear B2; clear ho)
        (try go_wp2_with fail)
        refine hK.out _ _ ?_ (fun hHeld => ?_)
        · exact pKp
        clear hK K
        (try simp only [pLy])
        refine Gw.tk 16 rfl ?_
        (try simp only [pLy])
        refine Gw.tk 17 rfl ?_
        (try simp only [pLy])
        refine Gw.tk 18 rfl ?_
        (try simp only [pLy])
        refine Gw.last (i := 19) rfl (by kernel_rfl) (by decide) (fun K hK => ?_)
        go_simp
        refine hK.out _ _ ?_
        clear hK K
        (try simp only [pLy])
        refine Gw.done (by kernel_rfl) ?_ _
        go_wp2_with (go_at_call 25; refine (r1_Less _ _ _ _ _ (by exact W64_lo _) (by exact W64_lo _)).mono ?_; rintro e u4 ⟨rfl, ho⟩; have hzu4 := Below.size ho; (try simp at hzu4); have HB2 : Hid (Below w.heap.size w u4) := Lib.hid (Below.trans (by exact pBl) (Below.mono ho pSd)); (try clear HB); have HB := HB2; clear HB2; have B2 := blk_below (g := w.heap.size) ho pSd; (try simp (disch := first | omega | (simp; done) | (simp; omega)) only [pBk] at B2); (try rw [Hid.out B_xa] at B2); (try simp only [pBk] at B2); (try clear c_xa f_xa r_xa B_xa); obtain ⟨c_xa, f_xa, l_u4_xa, r_xa, B_xa⟩ := blk_all B2; clear B2; have B2 := blk_below (g := w.heap.size + 1) ho pSd; (try simp (disch := first | omega | (simp; done) | (simp; omega)) only [pBk] at B2); (try rw [Hid.out B_xb] at B2); (try simp only [pBk] at B2); (try clear c_xb f_xb r_xb B_xb); obtain ⟨c_xb, f_xb, l_u4_xb, r_xb, B_xb⟩ := blk_all B2; clear B2; have B2 := blk_below (g := w.heap.size + 1 + 1) ho pSd; (try simp (disch := first | omega | (simp; done) | (simp; omega)) only [pBk] at B2); (try rw [Hid.out B_xr] at B2); (try simp only [pBk] at B2); (try clear c_xr f_xr r_xr B_xr); obtain ⟨c_xr, f_xr, l_u4_xr, r_xr, B_xr⟩ := blk_all B2; clear B2; have B2 := blk_below (g := w.heap.size + 1 + 1 + 1) ho pSd; (try simp (disch := first | omega | (simp; done) | (simp; omega)) only [pBk] at B2); (try rw [Hid.out B_xo] at B2); (try simp only [pBk] at B2); (try clear c_xo f_xo r_xo B_xo); obtain ⟨c_xo, f_xo, l_u4_xo, r_xo, B_xo⟩ := blk_all B2; clear B2; have B2 := blk_below (g := w.heap.size + 1 + 1 + 1 + 1) ho pSd; (try simp (disch := first | omega | (simp; done) | (simp; omega)) only [pBk] at B2); (try rw [Hid.out B_xq] at B2); (try simp only [pBk] at B2); (try clear c_xq f_xq r_xq B_xq); obtain ⟨c_xq, f_xq, l_u4_xq, r_xq, B_xq⟩ := blk_all B2; clear B2; clear ho)
        refine ⟨⟨n - 1, by omega, by omega, rfl, ?rel⟩, ?measure⟩
        case rel =>
          have e' : (n - 1 + 1).toNat = n.toNat := by omega
          constructor
          case below => exact pBl
          all_goals (try rw [e', Hdr.out])
          all_goals (try rw [e', HQ.out.1, HQ.out.2.1, HQ.out.2.2.1, HQ.out.2.2.2])
          all_goals (try rw [hrest])
          all_goals ((try simp (disch := first | omega | (simp; done) | (simp; omega)) only [pBk]); first | done | with_reducible rfl | with_reducible exact Hid.out (by assumption) | (with_reducible rw [Hid.out B_xa]; (try simp only [pBk]); first | done | with_reducible rfl) | (with_reducible rw [Hid.out B_xb]; (try simp only [pBk]); first | done | with_reducible rfl) | (with_reducible rw [Hid.out B_xr]; (try simp only [pBk]); first | done | with_reducible rfl) | (with_reducible rw [Hid.out B_xo]; (try simp only [pBk]); first | done | with_reducible rfl) | (with_reducible rw [Hid.out B_xq]; (try simp only [pBk]); first | done | with_reducible rfl))
        case measure => simp [intOf]; omega
    · have en : (n + 1).toNat = 0 := by omega
      have hd := dr_0 A B
      rw [en] at e_xo e_xq
      rw [hd.1] at e_xo
      rw [hd.2] at e_xq
      clear hd en
      (try clear c_xa); (try clear f_xa r_xa B_xa); obtain ⟨c_xa, f_xa, l_xa, r_xa, B_xa⟩ := blk_all e_xa; clear e_xa; (try clear c_xb); (try clear f_xb r_xb B_xb); obtain ⟨c_xb, f_xb, l_xb, r_xb, B_xb⟩ := blk_all e_xb; clear e_xb; (try clear c_xr); (try clear f_xr r_xr B_xr); obtain ⟨c_xr, f_xr, l_xr, r_xr, B_xr⟩ := blk_all e_xr; clear e_xr; (try clear c_xo); (try clear f_xo r_xo B_xo); obtain ⟨c_xo, f_xo, l_xo, r_xo, B_xo⟩ := blk_all e_xo; clear e_xo; (try clear c_xq); (try clear f_xq r_xq B_xq); obtain ⟨c_xq, f_xq, l_xq, r_xq, B_xq⟩ := blk_all e_xq; clear e_xq
      go_wp2_with (go_at_call 117; refine (r1_four _ _ _ _ _ _ (by ((try simp (disch := first | omega | (simp; done) | (simp; omega)) only [pBk]); first | done | with_reducible rfl | with_reducible exact Hid.out (by assumption) | (with_reducible rw [Hid.out B_xa]; (try simp only [pBk]); first | done | with_reducible rfl) | (with_reducible rw [Hid.out B_xb]; (try simp only [pBk]); first | done | with_reducible rfl) | (with_reducible rw [Hid.out B_xr]; (try simp only [pBk]); first | done | with_reducible rfl) | (with_reducible rw [Hid.out B_xo]; (try simp only [pBk]); first | done | with_reducible rfl) | (with_reducible rw [Hid.out B_xq]; (try simp only [pBk]); first | done | with_reducible rfl)))).mono ?_; rintro e u2 ⟨rfl, ho⟩; have hzu2 := Below.size ho; (try simp at hzu2); have HB2 : Hid (Below w.heap.size w u2) := Lib.hid (Below.trans (by exact pBl) (Below.mono ho pSd)); (try clear HB); have HB := HB2; clear HB2; have B2 := blk_below (g := w.heap.size) ho pSd; (try simp (disch := first | omega | (simp; done) | (simp; omega)) only [pBk] at B2); (try rw [Hid.out B_xa] at B2); (try simp only [pBk] at B2); (try clear c_xa f_xa r_xa B_xa); obtain ⟨c_xa, f_xa, l_u2_xa, r_xa, B_xa⟩ := blk_all B2; clear B2; have B2 := blk_below (g := w.heap.size + 1) ho pSd; (try simp (disch := first | omega | (simp; done) | (simp; omega)) only [pBk] at B2); (try rw [Hid.out B_xb] at B2); (try simp only [pBk] at B2); (try clear c_xb f_xb r_xb B_xb); obtain ⟨c_xb, f_xb, l_u2_xb, r_xb, B_xb⟩ := blk_all B2; clear B2; have B2 := blk_below (g := w.heap.size + 1 + 1) ho pSd; (try simp (disch := first | omega | (simp; done) | (simp; omega)) only [pBk] at B2); (try rw [Hid.out B_xr] at B2); (try simp only [pBk] at B2); (try clear c_xr f_xr r_xr B_xr); obtain ⟨c_xr, f_xr, l_u2_xr, r_xr, B_xr⟩ := blk_all B2; clear B2; have B2 := blk_below (g := w.heap.size + 1 + 1 + 1) ho pSd; (try simp (disch := first | omega | (simp; done) | (simp; omega)) only [pBk] at B2); (try rw [Hid.out B_xo] at B2); (try simp only [pBk] at B2); (try clear c_xo f_xo r_xo B_xo); obtain ⟨c_xo, f_xo, l_u2_xo, r_xo, B_xo⟩ := blk_all B2; clear B2; have B2 := blk_below (g := w.heap.size + 1 + 1 + 1 + 1) ho pSd; (try simp (disch := first | omega | (simp; done) | (simp; omega)) only [pBk] at B2); (try rw [Hid.out B_xq] at B2); (try simp only [pBk] at B2); (try clear c_xq f_xq r_xq B_xq); obtain ⟨c_xq, f_xq, l_u2_xq, r_xq, B_xq⟩ := blk_all B2; clear B2; clear ho)
      all_goals refine bodyPost_ret ?r rfl ⟨rfl, ?b⟩
      case r => simp (maxDischargeDepth := 9) [results, Try.results69, go_sem, *]
      case b => exact pBl
end Go.Proofs.Ytdphhkbbphfjlaa
